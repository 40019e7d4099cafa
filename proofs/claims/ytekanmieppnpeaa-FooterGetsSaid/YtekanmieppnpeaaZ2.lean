/- Texts of a claim, one behind the other (shake.py): what it does not use is left out. -/
import Derived.Test.YtekanmieppnpeaaZ1
import Derived.Test.YtekanmieppnpeaaProg
import Derived.Lib.Strings
import Derived.OpenShut
import Derived.Lib.BytesEntry
import Derived.Lib.SliceRun
import Derived.Lib.Hide
import Derived.Tactics2
import Derived.Laws.IdiomStrings
import Derived.Lib.Small
import Derived.Laws.Bits64b
import Derived.Defers
import Derived.Recover
import Derived.Laws.Pointers
import Derived.LaidEqlPtr
import Derived.RangeFuncBox
import Derived.RangeFuncNested
import Derived.RangeFuncLeaves
import Derived.Shelf.Abstract
import Derived.OwnWalkIn
import Derived.TacticsInMore
import Derived.LoopNIn
import Derived.LoopIn
section
namespace Go.Proofs.Ytekanmieppnpeaa.G
open Go.RowKit Go.Proofs.YtekanmieppnpeaaW.PrintWords Go.Proofs.YtekanmieppnpeaaW.PrintLast Go.Proofs.YtekanmieppnpeaaW.PrintMore
set_option linter.unusedVariables false
section
variable {P : Program} {ops : Array Oper} {o : Oper} {a : Act} {Q : Exit → Act → World → Prop} {rest : List Oper} {α : Type}
theorem R_make0 (d : Kd α) {w0 W : World} (base e : Nat) (hgd : o.guard = none) {N : Tmp} (_hd : o.dst = some N) (t : TypeId) (x y : Operand) (ho : o.op = .makeSlice t x y) (c : Int) (hx : a.eval x = .int .i64 0) (hy : a.eval y = .int .i64 c)
    (ht : P.underlying t = some (.slice e)) (z : Value) (bytes : Nat) (hinfo : (P.info? e).map (fun i => (i.zero, i.size, i.bytes)) = some (some z, d.sz, bytes)) (hz : z.cells.size = d.sz) (hs0 : 0 < d.sz) (hb0 : 0 < bytes)
    {ok : Nat → Prop} (hfresh : ok W.heap.size) (h0 : 0 ≤ c) (hl : c.toNat * bytes ≤ 281474976710656) (HB : Below base w0 W) (hbase : base ≤ W.heap.size)
    (h : ∀ v1 w1, d.R e w1 base ok v1 [] → Below base w0 w1 → W.grownBy w1 none → (∃ b, v1.ownBlock = some b ∧ W.heap.size ≤ b) → wpList P ops Q rest (a.put o.dst v1) w1) : wpList P ops Q (o :: rest) a W := by
  obtain ⟨m, rfl⟩ := Int.eq_ofNat_of_zero_le h0
  simp only [Int.toNat_natCast] at hl
  obtain ⟨i0, hi, hzz⟩ := Option.map_eq_some_iff.1 hinfo
  simp only [Prod.mk.injEq] at hzz
  obtain ⟨hz0, hz1, hz2⟩ := hzz
  have hm : m ≤ 281474976710656 := Nat.le_trans (Nat.le_mul_of_pos_right _ hb0) hl
  have hr := run_make (P := P) W t e i0 z ht hi hz0 .i64 .i64 0 (m : Int) (by omega) (by omega)
    (by
      have h3 : ((i0.bytes * m : Nat) : Int) ≤ 281474976710656 := by rw [hz2, Nat.mul_comm]; omega
      rwa [Int.natCast_mul] at h3) (by omega)
  simp only [Int.toNat_natCast] at hr
  rw [hz1] at hr
  refine Kd.event_run hgd (w1 := W.alloc (.cells (madeCells z.cells (m * d.sz)) e)) (v := .slice (some ⟨W.heap.size, 0, none⟩) 0 m) (by simp [execOp, ho, hx, hy, hr]) (h _ _ ⟨fun k hk => ?_, [], ?_, Reps.none _ _⟩ (HB.alloc hbase _) (World.grownBy_alloc W _ none) ⟨W.heap.size, by simp [Value.ownBlock], Nat.le_refl _⟩)
  · have : W.heap.size = k := by simpa [Value.ownBlock] using hk
    subst this
    exact hfresh
  · refine ⟨by simp, .inr ⟨W.heap.size, m, madeCells z.cells (m * d.sz), rfl, hbase, heap_alloc_new W _, by simp, by unfold maxLen; omega, by simp [madeCells], by simp⟩⟩
end
end Go.Proofs.Ytekanmieppnpeaa.G
end
section
namespace Go.Proofs.Ytekanmieppnpeaa.G
open Go.RowKit Go.Proofs.YtekanmieppnpeaaW.PrintWords Go.Proofs.YtekanmieppnpeaaW.PrintLast Go.Proofs.YtekanmieppnpeaaW.PrintMore
attribute [local go_sem] max2_int min2_int max_two min_two max_three min_three max_four min_four   -- for this text's walks alone
set_option linter.unusedVariables false
set_option linter.unusedSimpArgs false
def errW : Option Int → Value
  | none => .nilIface
  | some c => .iface 0 (.int .i64 c)
theorem errW_none : errW none = .nilIface := rfl
theorem errW_some (c : Int) : errW (some c) = .iface 0 (.int .i64 c) := rfl
theorem info5 : (Try.prog.info? 5).map (fun i => (i.zero, i.size, i.bytes)) = some (some (.int .u8 0), 1, 1) := by kernel_rfl
theorem info30 : (Try.prog.info? 30).map (fun i => (i.zero, i.size, i.bytes)) = some (some (.int .u64 0), 1, 8) := by kernel_rfl
theorem info33 : (Try.prog.info? 33).map (fun i => (i.zero, i.size, i.bytes)) = some (some (.agg #[(.int .u64 0), (.int .u32 0)]), 2, 16) := by kernel_rfl
theorem info135 : (Try.prog.info? 135).map (fun i => (i.zero, i.size, i.bytes)) = some (some (.agg #[(.int .u64 0), (.int .u32 0)]), 2, 16) := by kernel_rfl
structure S33 where
  f0 : Int
  f1 : Int
def z33 : S33 := ⟨(0 : Int), (0 : Int)⟩
def k33 : Kd S33 := Kd.iso (Kd.pair (Kd.int .u64) (Kd.int .u32)) (fun x : S33 => (x.f0, x.f1))
theorem k33_open {w : World} {x : S33} {cs : List Value} (h : k33.K w x cs) : cs = [.int .u64 x.f0, .int .u32 x.f1] := by
  obtain ⟨_, _, rfl, rfl, rfl⟩ := h
  exact rfl
theorem k33_mkM (w : World) (base : Nat) (ok : Nat → Prop) (x : S33)  : k33.M w base ok x [.int .u64 x.f0, .int .u32 x.f1] := ⟨[.int .u64 x.f0], [.int .u32 x.f1], rfl, rfl, rfl⟩
def rd_T33 (xs : List S33) (i : Int) : S33 := xs.getD i.toNat z33
theorem at_T33 {w : World} {A : Option Addr} {n : Nat} {xs : List S33} (h : Kd.C k33 w A n xs) (i : Int) (h0 : 0 ≤ i) (h1 : i < n) : ∃ ad , A = some ad ∧ w.cell? (ad.add (i.toNat * 2)) = some (.int .u64 (rd_T33 xs i).f0) ∧ w.cell? ⟨(ad.add (i.toNat * 2)).block, (ad.add (i.toNat * 2)).off + 1, none⟩ = some (.int .u32 (rd_T33 xs i).f1) := by
  obtain ⟨ad, c, e, _, hK, hc0⟩ := Kd.C_get h z33 i h0 h1
  have hc : ∀ j u, c[j]? = some u → w.cell? (ad.add (i.toNat * 2 + j)) = some u := hc0
  obtain rfl := k33_open hK
  exact ⟨ad, e, hc 0 _ rfl, by rw [← add_field _ _ 1 (by omega)]; exact hc 1 _ rfl⟩
structure S135 where
  f0 : Int
  f1 : Int
def z135 : S135 := ⟨(0 : Int), (0 : Int)⟩
def k135 : Kd S135 := Kd.iso (Kd.pair (Kd.int .u64) (Kd.int .u32)) (fun x : S135 => (x.f0, x.f1))
theorem k135_open {w : World} {x : S135} {cs : List Value} (h : k135.K w x cs) : cs = [.int .u64 x.f0, .int .u32 x.f1] := by
  obtain ⟨_, _, rfl, rfl, rfl⟩ := h
  exact rfl
theorem k135_mkM (w : World) (base : Nat) (ok : Nat → Prop) (x : S135)  : k135.M w base ok x [.int .u64 x.f0, .int .u32 x.f1] := ⟨[.int .u64 x.f0], [.int .u32 x.f1], rfl, rfl, rfl⟩
def rd_T135 (xs : List S135) (i : Int) : S135 := xs.getD i.toNat z135
theorem at_T135 {w : World} {A : Option Addr} {n : Nat} {xs : List S135} (h : Kd.C k135 w A n xs) (i : Int) (h0 : 0 ≤ i) (h1 : i < n) : ∃ ad , A = some ad ∧ w.cell? (ad.add (i.toNat * 2)) = some (.int .u64 (rd_T135 xs i).f0) ∧ w.cell? ⟨(ad.add (i.toNat * 2)).block, (ad.add (i.toNat * 2)).off + 1, none⟩ = some (.int .u32 (rd_T135 xs i).f1) := by
  obtain ⟨ad, c, e, _, hK, hc0⟩ := Kd.C_get h z135 i h0 h1
  have hc : ∀ j u, c[j]? = some u → w.cell? (ad.add (i.toNat * 2 + j)) = some u := hc0
  obtain rfl := k135_open hK
  exact ⟨ad, e, hc 0 _ rfl, by rw [← add_field _ _ 1 (by omega)]; exact hc 1 _ rfl⟩
end Go.Proofs.Ytekanmieppnpeaa.G
end
section
namespace Go.Proofs.Ytekanmieppnpeaa.G
open Go.RowKit Go.Proofs.YtekanmieppnpeaaW.PrintWords Go.Proofs.YtekanmieppnpeaaW.PrintLast Go.Proofs.YtekanmieppnpeaaW.PrintMore
attribute [local go_sem] max2_int min2_int max_two min_two max_three min_three max_four min_four   -- for this text's walks alone
set_option linter.unusedVariables false
set_option linter.unusedSimpArgs false
theorem eqA135 (d : Nat) (w : World) (x0 y0 : Int) (x1 y1 : Int) :
    (Op.equalIn (d + 2) 135 (.agg #[.int .u64 x0, .int .u32 x1]) (.agg #[.int .u64 y0, .int .u32 y1])).run Try.prog w = .ok (x0 == y0 && (x1 == y1)) w := by
  refine eqA_of Try.underlying135 (by kernel_rfl) ?_
  refine eqf_cons (by rfl) (by go_simp; rfl) (by go_simp; rfl) (by go_simp) ?_
  exact eqf_last (by rfl) (by go_simp; rfl) (by go_simp; rfl) (by go_simp)
end Go.Proofs.Ytekanmieppnpeaa.G
end
section
namespace Go.Proofs.Ytekanmieppnpeaa.G
open Go.RowKit Go.Proofs.YtekanmieppnpeaaW.PrintWords Go.Proofs.YtekanmieppnpeaaW.PrintLast Go.Proofs.YtekanmieppnpeaaW.PrintMore
attribute [local go_sem] max2_int min2_int max_two min_two max_three min_three max_four min_four   -- for this text's walks alone
set_option linter.unusedVariables false
set_option linter.unusedSimpArgs false
def slices_Equal_uint64_uint64.l0 : Nat → List Int → List Int → Int → Int → Option (Bool)
  | 0, _, _, _, _ => none
  | k + 1, x0, x1, x12, x13 => if x13 < x12 then (if 0 ≤ x13 then (if x13 < (x0.length : Int) then (if x13 < (x1.length : Int) then (if (rd x0 x13) = (rd x1 x13) then (slices_Equal_uint64_uint64.l0 k x0 x1 x12 (wrap64 (x13 + 1))) else (some false)) else (none)) else (none)) else (none)) else (some true)
def slices_Equal_uint64_uint64.f (k : Nat) (l0 : List Int) (l1 : List Int) : Option (Bool) := if (l0.length : Int) = (l1.length : Int) then (slices_Equal_uint64_uint64.l0 k l0 l1 (l0.length : Int) 0) else (some false)
theorem slices_Equal_uint64_uint64.mono_l : ∀ k, (∀ y0 y1 y2 y3, LeO (slices_Equal_uint64_uint64.l0 k y0 y1 y2 y3) (slices_Equal_uint64_uint64.l0 (k + 1) y0 y1 y2 y3))
  | 0 => fun _ _ _ _ r h => by simp [slices_Equal_uint64_uint64.l0] at h
  | k + 1 => by
    have ih0 := slices_Equal_uint64_uint64.mono_l k
    · intro y0 y1 y2 y3
      unfold slices_Equal_uint64_uint64.l0
      repeat' first
      | (with_reducible exact ih0 _ _ _ _)
      | (with_reducible exact LeO.refl _)
      | (with_reducible exact LeO.none _)
      | (with_reducible refine LeO.ite ?_ ?_)
      | (with_reducible refine LeO.bind ?_ (fun _ => ?_))
      | exact ih0 _ _ _ _
      | exact LeO.none _
      | refine LeO.ite ?_ ?_
      | refine LeO.bind ?_ (fun _ => ?_)
theorem slices_Equal_uint64_uint64.mono : ∀ a0 a1 k, LeO (slices_Equal_uint64_uint64.f k a0 a1) (slices_Equal_uint64_uint64.f (k + 1) a0 a1) := by
  intro a0 a1 k
  have ih0 := slices_Equal_uint64_uint64.mono_l k
  unfold slices_Equal_uint64_uint64.f
  repeat' first
      | (with_reducible exact ih0 _ _ _ _)
      | (with_reducible exact LeO.refl _)
      | (with_reducible exact LeO.none _)
      | (with_reducible refine LeO.ite ?_ ?_)
      | (with_reducible refine LeO.bind ?_ (fun _ => ?_))
      | exact ih0 _ _ _ _
      | exact LeO.none _
      | refine LeO.ite ?_ ?_
      | refine LeO.bind ?_ (fun _ => ?_)
set_option maxHeartbeats 8000000 in
set_option maxRecDepth 100000 in
theorem slices_Equal_uint64_uint64.calls (k : Nat) (A0 : Option Addr) (c0 : Nat) (l0 : List Int) (A1 : Option Addr) (c1 : Nat) (l1 : List Int) (r : Bool) (w : World) (hr0 : Kd.C (Kd.int .u64) w A0 l0.length l0) (hc0 : l0.length ≤ c0) (hr1 : Kd.C (Kd.int .u64) w A1 l1.length l1) (hc1 : l1.length ≤ c1) (h : slices_Equal_uint64_uint64.f k l0 l1 = some r) :
    Calls Try.prog 86 #[.slice A0 l0.length c0, .slice A1 l1.length c1] w fun e w' => e = .returned (.bool r) ∧ Drawn0 w w' := by
  have HR0 := Aside0.mk hr0
  have HC0 := Aside0.mk hc0
  clear hr0 hc0
  have HR1 := Aside0.mk hr1
  have HC1 := Aside0.mk hc1
  clear hr1 hc1
  have H : (if (l0.length : Int) = (l1.length : Int) then (slices_Equal_uint64_uint64.l0 k l0 l1 (l0.length : Int) 0) else (some false)) = some r := h
  clear h
  by_cases c3 : (l0.length : Int) = (l1.length : Int)
  · rw [if_pos c3] at H
    have c3b0 : ((l0.length : Int) == (l1.length : Int)) = true := beq_iff_eq.mpr c3
    have c3b1 : ((l0.length : Int) != (l1.length : Int)) = false := bne_eq_false_iff_eq.mpr c3
    have c3b2 : (l0.length == l1.length) = true := by first | simpa using c3 | (simp at c3 ⊢; omega)
    clear c3
    have H' := Aside0.mk H
    clear H
    go_enter Try.func86, Try.ntmps86
    go_wp2
    repeat (go_quiet (fail); try go_wp2)
    go_loopg [13] k (fun kq v13 w' => ∃ (x13_1 : Int), v13 = .int .i64 x13_1 ∧ Aside0 (slices_Equal_uint64_uint64.l0 kq l0 l1 (l0.length : Int) x13_1 = some r) ∧ Aside0 (kq ≤ k) ∧ Drawn0 w w')
    case atStart => exact ⟨(0), (by first | rfl | (simp; done) | (simp [*]; done) | (simp; exact (fun l : List UInt8 => (by cases l <;> rfl : l.isEmpty = !(l != ([] : List UInt8)))) _)), H', ⟨Nat.le_refl _⟩, by repeat (first | exact Drawn0.refl _ | apply Drawn0.step)⟩
    case round =>
      clear H'
      try clear c1
      try clear p2
      try clear c3
      try clear c3b0
      try clear c3b1
      try clear c3b2
      obtain ⟨x13_1, rfl, HA, HK1, ⟨m1, rfl⟩⟩ := hrel
      cases gk with
      | zero => exact absurd HA.out (by simp [slices_Equal_uint64_uint64.l0])
      | succ k1 =>
        have H := HA.out
        clear HA
        simp only [slices_Equal_uint64_uint64.l0] at H
        by_cases c4 : x13_1 < (l0.length : Int)
        · rw [if_pos c4] at H
          have c4b0 : decide (x13_1 < (l0.length : Int)) = true := decide_eq_true c4
          clear c4
          by_cases c5 : 0 ≤ x13_1
          · rw [if_pos c5] at H
            have c5b0 : decide (0 ≤ x13_1) = true := decide_eq_true c5
            clear c5
            by_cases c6 : x13_1 < (l0.length : Int)
            · rw [if_pos c6] at H
              have c6b0 : decide (x13_1 < (l0.length : Int)) = true := decide_eq_true c6
              clear c6
              by_cases c7 : x13_1 < (l1.length : Int)
              · rw [if_pos c7] at H
                have c7b0 : decide (x13_1 < (l1.length : Int)) = true := decide_eq_true c7
                clear c7
                by_cases c8 : (rd l0 x13_1) = (rd l1 x13_1)
                · rw [if_pos c8] at H
                  have c8b0 : ((rd l0 x13_1) == (rd l1 x13_1)) = true := beq_iff_eq.mpr c8
                  have c8b1 : ((rd l0 x13_1) != (rd l1 x13_1)) = false := bne_eq_false_iff_eq.mpr c8
                  clear c8
                  have H' := Aside0.mk H
                  clear H
                  have p101 : 0 ≤ (x13_1 : Int) := of_decide_eq_true (by first | (with_reducible assumption) | assumption)
                  have q101 : x13_1 < (l0.length : Int) := of_decide_eq_true (by first | (with_reducible assumption) | assumption)
                  obtain ⟨ad101, e101, hx101_0⟩ := Kd.at_int HR0.out x13_1 p101 q101
                  cases e101
                  replace p101 := eq_true p101
                  replace q101 := eq_true q101
                  have p102 : 0 ≤ (x13_1 : Int) := of_decide_eq_true (by first | (with_reducible assumption) | assumption)
                  have q102 : x13_1 < (l1.length : Int) := of_decide_eq_true (by first | (with_reducible assumption) | assumption)
                  obtain ⟨ad102, e102, hx102_0⟩ := Kd.at_int HR1.out x13_1 p102 q102
                  cases e102
                  replace p102 := eq_true p102
                  replace q102 := eq_true q102
                  go_wp2
                  repeat (go_quiet (fail); try go_wp2)
                  go_roundg k1
                  case measure => have := HK1.out; omega
                  case rel => exact ⟨(wrap64 (x13_1 + 1)), (by first | rfl | (simp; done) | (simp [*]; done) | (simp; exact (fun l : List UInt8 => (by cases l <;> rfl : l.isEmpty = !(l != ([] : List UInt8)))) _)), H', ⟨by have := HK1.out; omega⟩, by repeat (first | exact Drawn0.refl _ | apply Drawn0.step)⟩
                · rw [if_neg c8] at H
                  have c8b0 : ((rd l0 x13_1) == (rd l1 x13_1)) = false := beq_eq_false_iff_ne.mpr c8
                  have c8b1 : ((rd l0 x13_1) != (rd l1 x13_1)) = true := bne_iff_ne.mpr c8
                  obtain rfl := Option.some.inj H
                  have p101 : 0 ≤ (x13_1 : Int) := of_decide_eq_true (by first | (with_reducible assumption) | assumption)
                  have q101 : x13_1 < (l0.length : Int) := of_decide_eq_true (by first | (with_reducible assumption) | assumption)
                  obtain ⟨ad101, e101, hx101_0⟩ := Kd.at_int HR0.out x13_1 p101 q101
                  cases e101
                  replace p101 := eq_true p101
                  replace q101 := eq_true q101
                  have p102 : 0 ≤ (x13_1 : Int) := of_decide_eq_true (by first | (with_reducible assumption) | assumption)
                  have q102 : x13_1 < (l1.length : Int) := of_decide_eq_true (by first | (with_reducible assumption) | assumption)
                  obtain ⟨ad102, e102, hx102_0⟩ := Kd.at_int HR1.out x13_1 p102 q102
                  cases e102
                  replace p102 := eq_true p102
                  replace q102 := eq_true q102
                  go_wp2
                  repeat (go_quiet (fail); try go_wp2)
                  go_ret
                  exact ⟨by first | rfl | (simp; done) | (simp [*]; done), by repeat (first | exact Drawn0.refl _ | apply Drawn0.step)⟩
              · rw [if_neg c7] at H
                exact absurd H (by simp)
            · rw [if_neg c6] at H
              exact absurd H (by simp)
          · rw [if_neg c5] at H
            exact absurd H (by simp)
        · rw [if_neg c4] at H
          have c4b0 : decide (x13_1 < (l0.length : Int)) = false := decide_eq_false c4
          clear c4
          obtain rfl := Option.some.inj H
          go_wp2
          repeat (go_quiet (fail); try go_wp2)
          go_ret
          exact ⟨by first | rfl | (simp; done) | (simp [*]; done), by repeat (first | exact Drawn0.refl _ | apply Drawn0.step)⟩
  · rw [if_neg c3] at H
    have c3b0 : ((l0.length : Int) == (l1.length : Int)) = false := beq_eq_false_iff_ne.mpr c3
    have c3b1 : ((l0.length : Int) != (l1.length : Int)) = true := bne_iff_ne.mpr c3
    have c3b2 : (l0.length == l1.length) = false := by first | simpa using c3 | (simp at c3 ⊢; omega)
    obtain rfl := Option.some.inj H
    go_enter Try.func86, Try.ntmps86
    go_wp2
    repeat (go_quiet (fail); try go_wp2)
    go_ret
    exact ⟨by first | rfl | (simp; done) | (simp [*]; done), by repeat (first | exact Drawn0.refl _ | apply Drawn0.step)⟩
def slices_Equal_uint64_uint64.Pure : Prop := ∀ (l0 : List Int) (l1 : List Int), l0.length ≤ maxLen → l0.length * 8 ≤ 140737488351232 → (∀ y ∈ l0, ((Lit.int .u64 y).wf = true)) → l1.length ≤ maxLen → l1.length * 8 ≤ 140737488351232 → (∀ y ∈ l1, ((Lit.int .u64 y).wf = true)) → ∃ k, slices_Equal_uint64_uint64.f k l0 l1 = some true
def cmp_isNaN_uint64.f (a0 : Int) : Option (Bool) := some (a0 != a0)
set_option maxHeartbeats 8000000 in
set_option maxRecDepth 100000 in
theorem cmp_isNaN_uint64.calls (a0 : Int) (r : Bool) (w : World) (h : cmp_isNaN_uint64.f a0 = some r) :
    Calls Try.prog 158 #[.int .u64 a0] w fun e w' => e = .returned (.bool r) ∧ Drawn0 w w' := by
  have H : (some (a0 != a0)) = some r := h
  clear h
  obtain rfl := Option.some.inj H
  go_enter Try.func158, Try.ntmps158
  go_wp2
  go_ret
  exact ⟨by first | rfl | (simp; done) | (simp [*]; done), by repeat (first | exact Drawn0.refl _ | apply Drawn0.step)⟩
def cmp_Less_uint64.f (a0 : Int) (a1 : Int) : Option (Bool) := (cmp_isNaN_uint64.f a0).bind fun t103 => (if t103 = true then ((cmp_isNaN_uint64.f a1).bind fun t104 => (if t104 = true then (some (decide (a0 < a1))) else (some true))) else (some (decide (a0 < a1))))
set_option maxHeartbeats 8000000 in
set_option maxRecDepth 100000 in
theorem cmp_Less_uint64.calls (a0 : Int) (a1 : Int) (r : Bool) (w : World) (h : cmp_Less_uint64.f a0 a1 = some r) :
    Calls Try.prog 147 #[.int .u64 a0, .int .u64 a1] w fun e w' => e = .returned (.bool r) ∧ Drawn0 w w' := by
  have H : ((cmp_isNaN_uint64.f a0).bind fun t103 => (if t103 = true then ((cmp_isNaN_uint64.f a1).bind fun t104 => (if t104 = true then (some (decide (a0 < a1))) else (some true))) else (some (decide (a0 < a1))))) = some r := h
  clear h
  replace H := Option.bind_eq_some_iff.mp H
  obtain ⟨t103, A30, H⟩ := H
  replace H : (if t103 = true then ((cmp_isNaN_uint64.f a1).bind fun t104 => (if t104 = true then (some (decide (a0 < a1))) else (some true))) else (some (decide (a0 < a1)))) = some r := H
  have A3 := Aside0.mk A30
  clear A30
  by_cases c4 : t103 = true
  · subst c4
    have H1 : ((cmp_isNaN_uint64.f a1).bind fun t104 => (if t104 = true then (some (decide (a0 < a1))) else (some true))) = some r := by rw [if_pos rfl] at H; exact H
    clear H
    have H := H1
    clear H1
    replace H := Option.bind_eq_some_iff.mp H
    obtain ⟨t104, A50, H⟩ := H
    replace H : (if t104 = true then (some (decide (a0 < a1))) else (some true)) = some r := H
    have A5 := Aside0.mk A50
    clear A50
    by_cases c6 : t104 = true
    · subst c6
      have H1 : (some (decide (a0 < a1))) = some r := by rw [if_pos rfl] at H; exact H
      clear H
      have H := H1
      clear H1
      obtain rfl := Option.some.inj H
      go_enter Try.func147, Try.ntmps147
      go_wp2_with (first | ((with_reducible refine gate_callee (f := 158) rfl ?_); refine goesL_ (some 6) rfl rfl Try.func158 (by kernel_rfl) rfl #[.int .u64 a0] rfl (by (try simp only [List.map_toArray, List.map_cons, List.map_nil]); first | done | rfl | (simp only [List.length_drop, List.length_take]; rfl) | (refine congrArg (fun z => #[Value.int .u64 z]) ?_; rw [IntKind.wrap_u64]; omega)) ?_; (with_reducible refine (cmp_isNaN_uint64.calls a0 true _ A3.out).mono ?_); rintro e w' ⟨rfl, ⟨nd, rfl⟩⟩; refine ⟨_, rfl, ?_⟩) | (go_at_call 158; (with_reducible refine (cmp_isNaN_uint64.calls a1 true _ A5.out).mono ?_); rintro e w' ⟨rfl, ⟨nd, rfl⟩⟩))
      go_ret
      exact ⟨by first | rfl | (simp; done) | (simp [*]; done), by repeat (first | exact Drawn0.refl _ | apply Drawn0.step)⟩
    · replace c6 := Bool.eq_false_iff.mpr c6
      subst c6
      have H1 : (some true) = some r := by rw [if_neg (show ¬ (false = true) by decide)] at H; exact H
      clear H
      have H := H1
      clear H1
      obtain rfl := Option.some.inj H
      go_enter Try.func147, Try.ntmps147
      go_wp2_with (first | ((with_reducible refine gate_callee (f := 158) rfl ?_); refine goesL_ (some 6) rfl rfl Try.func158 (by kernel_rfl) rfl #[.int .u64 a0] rfl (by (try simp only [List.map_toArray, List.map_cons, List.map_nil]); first | done | rfl | (simp only [List.length_drop, List.length_take]; rfl) | (refine congrArg (fun z => #[Value.int .u64 z]) ?_; rw [IntKind.wrap_u64]; omega)) ?_; (with_reducible refine (cmp_isNaN_uint64.calls a0 true _ A3.out).mono ?_); rintro e w' ⟨rfl, ⟨nd, rfl⟩⟩; refine ⟨_, rfl, ?_⟩) | (go_at_call 158; (with_reducible refine (cmp_isNaN_uint64.calls a1 false _ A5.out).mono ?_); rintro e w' ⟨rfl, ⟨nd, rfl⟩⟩))
      go_ret
      exact ⟨by first | rfl | (simp; done) | (simp [*]; done), by repeat (first | exact Drawn0.refl _ | apply Drawn0.step)⟩
  · replace c4 := Bool.eq_false_iff.mpr c4
    subst c4
    have H1 : (some (decide (a0 < a1))) = some r := by rw [if_neg (show ¬ (false = true) by decide)] at H; exact H
    clear H
    have H := H1
    clear H1
    obtain rfl := Option.some.inj H
    go_enter Try.func147, Try.ntmps147
    go_wp2_with (first | ((with_reducible refine gate_callee (f := 158) rfl ?_); refine goesL_ (some 6) rfl rfl Try.func158 (by kernel_rfl) rfl #[.int .u64 a0] rfl (by (try simp only [List.map_toArray, List.map_cons, List.map_nil]); first | done | rfl | (simp only [List.length_drop, List.length_take]; rfl) | (refine congrArg (fun z => #[Value.int .u64 z]) ?_; rw [IntKind.wrap_u64]; omega)) ?_; (with_reducible refine (cmp_isNaN_uint64.calls a0 false _ A3.out).mono ?_); rintro e w' ⟨rfl, ⟨nd, rfl⟩⟩; refine ⟨_, rfl, ?_⟩))
    go_ret
    exact ⟨by first | rfl | (simp; done) | (simp [*]; done), by repeat (first | exact Drawn0.refl _ | apply Drawn0.step)⟩
def slices_IsSorted_uint64_uint64.l0 : Nat → List Int → Int → Option (Bool)
  | 0, _, _ => none
  | k + 1, x0, x3 => if x3 > 0 then (if 0 ≤ x3 then (if x3 < (x0.length : Int) then (if 0 ≤ (wrap64 (x3 - 1)) then (if (wrap64 (x3 - 1)) < (x0.length : Int) then ((cmp_Less_uint64.f (rd x0 x3) (rd x0 (wrap64 (x3 - 1)))).bind fun t107 => (if t107 = true then (some false) else (slices_IsSorted_uint64_uint64.l0 k x0 (wrap64 (x3 - 1))))) else (none)) else (none)) else (none)) else (none)) else (some true)
def slices_IsSorted_uint64_uint64.f (k : Nat) (l0 : List Int) : Option (Bool) := slices_IsSorted_uint64_uint64.l0 k l0 (wrap64 ((l0.length : Int) - 1))
theorem slices_IsSorted_uint64_uint64.mono_l : ∀ k, (∀ y0 y1, LeO (slices_IsSorted_uint64_uint64.l0 k y0 y1) (slices_IsSorted_uint64_uint64.l0 (k + 1) y0 y1))
  | 0 => fun _ _ r h => by simp [slices_IsSorted_uint64_uint64.l0] at h
  | k + 1 => by
    have ih0 := slices_IsSorted_uint64_uint64.mono_l k
    · intro y0 y1
      unfold slices_IsSorted_uint64_uint64.l0
      repeat' first
      | (with_reducible exact ih0 _ _)
      | (with_reducible exact LeO.refl _)
      | (with_reducible exact LeO.none _)
      | (with_reducible refine LeO.ite ?_ ?_)
      | (with_reducible refine LeO.bind ?_ (fun _ => ?_))
      | exact ih0 _ _
      | exact LeO.none _
      | refine LeO.ite ?_ ?_
      | refine LeO.bind ?_ (fun _ => ?_)
theorem slices_IsSorted_uint64_uint64.mono : ∀ a0 k, LeO (slices_IsSorted_uint64_uint64.f k a0) (slices_IsSorted_uint64_uint64.f (k + 1) a0) := by
  intro a0 k
  have ih0 := slices_IsSorted_uint64_uint64.mono_l k
  unfold slices_IsSorted_uint64_uint64.f
  repeat' first
      | (with_reducible exact ih0 _ _)
      | (with_reducible exact LeO.refl _)
      | (with_reducible exact LeO.none _)
      | (with_reducible refine LeO.ite ?_ ?_)
      | (with_reducible refine LeO.bind ?_ (fun _ => ?_))
      | exact ih0 _ _
      | exact LeO.none _
      | refine LeO.ite ?_ ?_
      | refine LeO.bind ?_ (fun _ => ?_)
set_option maxHeartbeats 8000000 in
set_option maxRecDepth 100000 in
theorem slices_IsSorted_uint64_uint64.calls (k : Nat) (A0 : Option Addr) (c0 : Nat) (l0 : List Int) (r : Bool) (w : World) (hr0 : Kd.C (Kd.int .u64) w A0 l0.length l0) (hc0 : l0.length ≤ c0) (h : slices_IsSorted_uint64_uint64.f k l0 = some r) :
    Calls Try.prog 133 #[.slice A0 l0.length c0] w fun e w' => e = .returned (.bool r) ∧ Drawn0 w w' := by
  have HR0 := Aside0.mk hr0
  have HC0 := Aside0.mk hc0
  clear hr0 hc0
  have H : (slices_IsSorted_uint64_uint64.l0 k l0 (wrap64 ((l0.length : Int) - 1))) = some r := h
  clear h
  have H' := Aside0.mk H
  clear H
  go_enter Try.func133, Try.ntmps133
  go_wp2
  repeat (go_quiet (fail); try go_wp2)
  go_loopg [3] k (fun kq v3 w' => ∃ (x3_1 : Int), v3 = .int .i64 x3_1 ∧ Aside0 (slices_IsSorted_uint64_uint64.l0 kq l0 x3_1 = some r) ∧ Aside0 (kq ≤ k) ∧ Drawn0 w w')
  case atStart => exact ⟨(wrap64 ((l0.length : Int) - 1)), (by first | rfl | (simp; done) | (simp [*]; done) | (simp; exact (fun l : List UInt8 => (by cases l <;> rfl : l.isEmpty = !(l != ([] : List UInt8)))) _)), H', ⟨Nat.le_refl _⟩, by repeat (first | exact Drawn0.refl _ | apply Drawn0.step)⟩
  case round =>
    clear H'
    try clear c1
    obtain ⟨x3_1, rfl, HA, HK1, ⟨m1, rfl⟩⟩ := hrel
    cases gk with
    | zero => exact absurd HA.out (by simp [slices_IsSorted_uint64_uint64.l0])
    | succ k1 =>
      have H := HA.out
      clear HA
      simp only [slices_IsSorted_uint64_uint64.l0] at H
      by_cases c2 : x3_1 > 0
      · rw [if_pos c2] at H
        have c2b0 : decide (0 < x3_1) = true := decide_eq_true c2
        clear c2
        by_cases c3 : 0 ≤ x3_1
        · rw [if_pos c3] at H
          have c3b0 : decide (0 ≤ x3_1) = true := decide_eq_true c3
          clear c3
          by_cases c4 : x3_1 < (l0.length : Int)
          · rw [if_pos c4] at H
            have c4b0 : decide (x3_1 < (l0.length : Int)) = true := decide_eq_true c4
            clear c4
            obtain ⟨ji5, hji5⟩ : ∃ j_ : Int, (wrap64 (x3_1 - 1)) = j_ := ⟨_, rfl⟩
            replace H : (if 0 ≤ (ji5) then (if (ji5) < (l0.length : Int) then ((cmp_Less_uint64.f (rd l0 x3_1) (rd l0 (ji5))).bind fun t107 => (if t107 = true then (some false) else (slices_IsSorted_uint64_uint64.l0 k1 l0 ji5))) else (none)) else (none)) = some r := by first | (rw [hji5] at H; exact H) | (simp only [hji5] at H ⊢; exact H)
            have hji5w : (IntKind.i64.wrap (x3_1 - 1)) = ji5 := (i64_w _).trans hji5
            by_cases c6 : 0 ≤ (ji5)
            · rw [if_pos c6] at H
              have c6b0 : decide (0 ≤ (ji5)) = true := decide_eq_true c6
              clear c6
              by_cases c7 : (ji5) < (l0.length : Int)
              · rw [if_pos c7] at H
                have c7b0 : decide ((ji5) < (l0.length : Int)) = true := decide_eq_true c7
                clear c7
                replace H := Option.bind_eq_some_iff.mp H
                obtain ⟨t107, A80, H⟩ := H
                replace H : (if t107 = true then (some false) else (slices_IsSorted_uint64_uint64.l0 k1 l0 ji5)) = some r := H
                have A8 := Aside0.mk A80
                clear A80
                by_cases c9 : t107 = true
                · subst c9
                  have H1 : (some false) = some r := by rw [if_pos rfl] at H; exact H
                  clear H
                  have H := H1
                  clear H1
                  obtain rfl := Option.some.inj H
                  have p105 : 0 ≤ (x3_1 : Int) := of_decide_eq_true (by first | (with_reducible assumption) | assumption)
                  have q105 : x3_1 < (l0.length : Int) := of_decide_eq_true (by first | (with_reducible assumption) | assumption)
                  obtain ⟨ad105, e105, hx105_0⟩ := Kd.at_int HR0.out x3_1 p105 q105
                  cases e105
                  replace p105 := eq_true p105
                  replace q105 := eq_true q105
                  have p106 : 0 ≤ ((ji5) : Int) := of_decide_eq_true (by first | (with_reducible assumption) | assumption)
                  have q106 : (ji5) < (l0.length : Int) := of_decide_eq_true (by first | (with_reducible assumption) | assumption)
                  obtain ⟨ad106, e106, hx106_0⟩ := Kd.at_int HR0.out (ji5) p106 q106
                  obtain rfl : ad105 = ad106 := (by injection e106)
                  replace p106 := eq_true p106
                  replace q106 := eq_true q106
                  go_wp2_with (first | (go_at_call 147; (with_reducible refine (cmp_Less_uint64.calls (rd l0 x3_1) (rd l0 (ji5)) true _ A8.out).mono ?_); rintro e w' ⟨rfl, ⟨nd, rfl⟩⟩; (try first | exact ⟨rfl, _, World.drewN_drewN _ _ _⟩ | exact ⟨rfl, _, Eq.trans (World.drewN_drewN _ _ _) (congrArg (World.drewN _) (Nat.add_assoc _ _ _))⟩)))
                  repeat (go_quiet (first | (go_at_call 147; (with_reducible refine (cmp_Less_uint64.calls (rd l0 x3_1) (rd l0 (ji5)) true _ A8.out).mono ?_); rintro e w' ⟨rfl, ⟨nd, rfl⟩⟩; (try first | exact ⟨rfl, _, World.drewN_drewN _ _ _⟩ | exact ⟨rfl, _, Eq.trans (World.drewN_drewN _ _ _) (congrArg (World.drewN _) (Nat.add_assoc _ _ _))⟩))); try go_wp2_with (first | (go_at_call 147; (with_reducible refine (cmp_Less_uint64.calls (rd l0 x3_1) (rd l0 (ji5)) true _ A8.out).mono ?_); rintro e w' ⟨rfl, ⟨nd, rfl⟩⟩; (try first | exact ⟨rfl, _, World.drewN_drewN _ _ _⟩ | exact ⟨rfl, _, Eq.trans (World.drewN_drewN _ _ _) (congrArg (World.drewN _) (Nat.add_assoc _ _ _))⟩))))
                  go_ret
                  exact ⟨by first | rfl | (simp; done) | (simp only [← hji5] <;> (first | rfl | simp)) | (simp [*]; done), by repeat (first | exact Drawn0.refl _ | apply Drawn0.step)⟩
                · replace c9 := Bool.eq_false_iff.mpr c9
                  subst c9
                  have H1 : (slices_IsSorted_uint64_uint64.l0 k1 l0 ji5) = some r := by rw [if_neg (show ¬ (false = true) by decide)] at H; exact H
                  clear H
                  have H := H1
                  clear H1
                  have H' := Aside0.mk H
                  clear H
                  have p105 : 0 ≤ (x3_1 : Int) := of_decide_eq_true (by first | (with_reducible assumption) | assumption)
                  have q105 : x3_1 < (l0.length : Int) := of_decide_eq_true (by first | (with_reducible assumption) | assumption)
                  obtain ⟨ad105, e105, hx105_0⟩ := Kd.at_int HR0.out x3_1 p105 q105
                  cases e105
                  replace p105 := eq_true p105
                  replace q105 := eq_true q105
                  have p106 : 0 ≤ ((ji5) : Int) := of_decide_eq_true (by first | (with_reducible assumption) | assumption)
                  have q106 : (ji5) < (l0.length : Int) := of_decide_eq_true (by first | (with_reducible assumption) | assumption)
                  obtain ⟨ad106, e106, hx106_0⟩ := Kd.at_int HR0.out (ji5) p106 q106
                  obtain rfl : ad105 = ad106 := (by injection e106)
                  replace p106 := eq_true p106
                  replace q106 := eq_true q106
                  go_wp2_with (first | (go_at_call 147; (with_reducible refine (cmp_Less_uint64.calls (rd l0 x3_1) (rd l0 (ji5)) false _ A8.out).mono ?_); rintro e w' ⟨rfl, ⟨nd, rfl⟩⟩; (try first | exact ⟨rfl, _, World.drewN_drewN _ _ _⟩ | exact ⟨rfl, _, Eq.trans (World.drewN_drewN _ _ _) (congrArg (World.drewN _) (Nat.add_assoc _ _ _))⟩)))
                  repeat (go_quiet (first | (go_at_call 147; (with_reducible refine (cmp_Less_uint64.calls (rd l0 x3_1) (rd l0 (ji5)) false _ A8.out).mono ?_); rintro e w' ⟨rfl, ⟨nd, rfl⟩⟩; (try first | exact ⟨rfl, _, World.drewN_drewN _ _ _⟩ | exact ⟨rfl, _, Eq.trans (World.drewN_drewN _ _ _) (congrArg (World.drewN _) (Nat.add_assoc _ _ _))⟩))); try go_wp2_with (first | (go_at_call 147; (with_reducible refine (cmp_Less_uint64.calls (rd l0 x3_1) (rd l0 (ji5)) false _ A8.out).mono ?_); rintro e w' ⟨rfl, ⟨nd, rfl⟩⟩; (try first | exact ⟨rfl, _, World.drewN_drewN _ _ _⟩ | exact ⟨rfl, _, Eq.trans (World.drewN_drewN _ _ _) (congrArg (World.drewN _) (Nat.add_assoc _ _ _))⟩))))
                  go_roundg k1
                  case measure => have := HK1.out; omega
                  case rel => exact ⟨(ji5), (by first | rfl | (simp; done) | (simp only [← hji5] <;> (first | rfl | simp)) | (simp [*]; done)), H', ⟨by have := HK1.out; omega⟩, by repeat (first | exact Drawn0.refl _ | apply Drawn0.step)⟩
              · rw [if_neg c7] at H
                exact absurd H (by simp)
            · rw [if_neg c6] at H
              exact absurd H (by simp)
          · rw [if_neg c4] at H
            exact absurd H (by simp)
        · rw [if_neg c3] at H
          exact absurd H (by simp)
      · rw [if_neg c2] at H
        have c2b0 : decide (0 < x3_1) = false := decide_eq_false c2
        clear c2
        obtain rfl := Option.some.inj H
        go_wp2
        repeat (go_quiet (fail); try go_wp2)
        go_ret
        exact ⟨by first | rfl | (simp; done) | (simp [*]; done), by repeat (first | exact Drawn0.refl _ | apply Drawn0.step)⟩
def slices_IsSorted_uint64_uint64.Pure : Prop := ∀ (l0 : List Int), l0.length ≤ maxLen → l0.length * 8 ≤ 140737488351232 → (∀ y ∈ l0, ((Lit.int .u64 y).wf = true)) → ∃ k, slices_IsSorted_uint64_uint64.f k l0 = some true
def cmp_Or_int.l0 : Nat → Int → List Int → Int → Int → Option (Int)
  | 0, _, _, _, _ => none
  | k + 1, x3, x6, x7, x8 => if x8 < x7 then (if 0 ≤ x8 then (if x8 < (x6.length : Int) then (if (rd x6 x8) = x3 then (cmp_Or_int.l0 k x3 x6 x7 (wrap64 (x8 + 1))) else (some (rd x6 x8))) else (none)) else (none)) else (some x3)
def cmp_Or_int.f (k : Nat) (l0 : List Int) : Option (Int) := cmp_Or_int.l0 k 0 l0 (l0.length : Int) 0
theorem cmp_Or_int.mono_l : ∀ k, (∀ y0 y1 y2 y3, LeO (cmp_Or_int.l0 k y0 y1 y2 y3) (cmp_Or_int.l0 (k + 1) y0 y1 y2 y3))
  | 0 => fun _ _ _ _ r h => by simp [cmp_Or_int.l0] at h
  | k + 1 => by
    have ih0 := cmp_Or_int.mono_l k
    · intro y0 y1 y2 y3
      unfold cmp_Or_int.l0
      repeat' first
      | (with_reducible exact ih0 _ _ _ _)
      | (with_reducible exact LeO.refl _)
      | (with_reducible exact LeO.none _)
      | (with_reducible refine LeO.ite ?_ ?_)
      | (with_reducible refine LeO.bind ?_ (fun _ => ?_))
      | exact ih0 _ _ _ _
      | exact LeO.none _
      | refine LeO.ite ?_ ?_
      | refine LeO.bind ?_ (fun _ => ?_)
theorem cmp_Or_int.mono : ∀ a0 k, LeO (cmp_Or_int.f k a0) (cmp_Or_int.f (k + 1) a0) := by
  intro a0 k
  have ih0 := cmp_Or_int.mono_l k
  unfold cmp_Or_int.f
  repeat' first
      | (with_reducible exact ih0 _ _ _ _)
      | (with_reducible exact LeO.refl _)
      | (with_reducible exact LeO.none _)
      | (with_reducible refine LeO.ite ?_ ?_)
      | (with_reducible refine LeO.bind ?_ (fun _ => ?_))
      | exact ih0 _ _ _ _
      | exact LeO.none _
      | refine LeO.ite ?_ ?_
      | refine LeO.bind ?_ (fun _ => ?_)
set_option maxHeartbeats 8000000 in
set_option maxRecDepth 100000 in
theorem cmp_Or_int.calls (k : Nat) (A0 : Option Addr) (c0 : Nat) (l0 : List Int) (r : Int) (w : World) (hr0 : Kd.C (Kd.int .i64) w A0 l0.length l0) (hc0 : l0.length ≤ c0) (h : cmp_Or_int.f k l0 = some r) :
    Calls Try.prog 137 #[.slice A0 l0.length c0] w fun e w' => e = .returned (.int .i64 r) ∧ Drawn0 w w' := by
  have HR0 := Aside0.mk hr0
  have HC0 := Aside0.mk hc0
  clear hr0 hc0
  have H : (cmp_Or_int.l0 k 0 l0 (l0.length : Int) 0) = some r := h
  clear h
  have H' := Aside0.mk H
  clear H
  go_enter Try.func137, Try.ntmps137
  go_wp2
  go_loopg [8] k (fun kq v8 w' => ∃ (x8_1 : Int), v8 = .int .i64 x8_1 ∧ Aside0 (cmp_Or_int.l0 kq 0 l0 (l0.length : Int) x8_1 = some r) ∧ Aside0 (kq ≤ k) ∧ Drawn0 w w')
  case atStart => exact ⟨(0), (by first | rfl | (simp; done) | (simp [*]; done) | (simp; exact (fun l : List UInt8 => (by cases l <;> rfl : l.isEmpty = !(l != ([] : List UInt8)))) _)), H', ⟨Nat.le_refl _⟩, by repeat (first | exact Drawn0.refl _ | apply Drawn0.step)⟩
  case round =>
    clear H'
    try clear c1
    obtain ⟨x8_1, rfl, HA, HK1, ⟨m1, rfl⟩⟩ := hrel
    cases gk with
    | zero => exact absurd HA.out (by simp [cmp_Or_int.l0])
    | succ k1 =>
      have H := HA.out
      clear HA
      simp only [cmp_Or_int.l0] at H
      by_cases c2 : x8_1 < (l0.length : Int)
      · rw [if_pos c2] at H
        have c2b0 : decide (x8_1 < (l0.length : Int)) = true := decide_eq_true c2
        clear c2
        by_cases c3 : 0 ≤ x8_1
        · rw [if_pos c3] at H
          have c3b0 : decide (0 ≤ x8_1) = true := decide_eq_true c3
          clear c3
          by_cases c4 : x8_1 < (l0.length : Int)
          · rw [if_pos c4] at H
            have c4b0 : decide (x8_1 < (l0.length : Int)) = true := decide_eq_true c4
            clear c4
            by_cases c5 : (rd l0 x8_1) = 0
            · rw [if_pos c5] at H
              have c5b0 : ((rd l0 x8_1) == 0) = true := beq_iff_eq.mpr c5
              have c5b1 : ((rd l0 x8_1) != 0) = false := bne_eq_false_iff_eq.mpr c5
              clear c5
              have H' := Aside0.mk H
              clear H
              have p108 : 0 ≤ (x8_1 : Int) := of_decide_eq_true (by first | (with_reducible assumption) | assumption)
              have q108 : x8_1 < (l0.length : Int) := of_decide_eq_true (by first | (with_reducible assumption) | assumption)
              obtain ⟨ad108, e108, hx108_0⟩ := Kd.at_int HR0.out x8_1 p108 q108
              cases e108
              replace p108 := eq_true p108
              replace q108 := eq_true q108
              go_wp2
              go_roundg k1
              case measure => have := HK1.out; omega
              case rel => exact ⟨(wrap64 (x8_1 + 1)), (by first | rfl | (simp; done) | (simp [*]; done) | (simp; exact (fun l : List UInt8 => (by cases l <;> rfl : l.isEmpty = !(l != ([] : List UInt8)))) _)), H', ⟨by have := HK1.out; omega⟩, by repeat (first | exact Drawn0.refl _ | apply Drawn0.step)⟩
            · rw [if_neg c5] at H
              have c5b0 : ((rd l0 x8_1) == 0) = false := beq_eq_false_iff_ne.mpr c5
              have c5b1 : ((rd l0 x8_1) != 0) = true := bne_iff_ne.mpr c5
              obtain rfl := Option.some.inj H
              have p108 : 0 ≤ (x8_1 : Int) := of_decide_eq_true (by first | (with_reducible assumption) | assumption)
              have q108 : x8_1 < (l0.length : Int) := of_decide_eq_true (by first | (with_reducible assumption) | assumption)
              obtain ⟨ad108, e108, hx108_0⟩ := Kd.at_int HR0.out x8_1 p108 q108
              cases e108
              replace p108 := eq_true p108
              replace q108 := eq_true q108
              go_wp2
              go_ret
              exact ⟨by first | rfl | (simp; done) | (simp [*]; done), by repeat (first | exact Drawn0.refl _ | apply Drawn0.step)⟩
          · rw [if_neg c4] at H
            exact absurd H (by simp)
        · rw [if_neg c3] at H
          exact absurd H (by simp)
      · rw [if_neg c2] at H
        have c2b0 : decide (x8_1 < (l0.length : Int)) = false := decide_eq_false c2
        clear c2
        obtain rfl := Option.some.inj H
        go_wp2
        go_ret
        exact ⟨by first | rfl | (simp; done) | (simp [*]; done), by repeat (first | exact Drawn0.refl _ | apply Drawn0.step)⟩
def cmp_Compare_uint64.f (a0 : Int) (a1 : Int) : Option (Int) := (cmp_isNaN_uint64.f a0).bind fun t109 => ((cmp_isNaN_uint64.f a1).bind fun t110 => (if t109 = true then (if t110 = true then (some 0) else (some (-1))) else (if t110 = true then (some 1) else (if a0 < a1 then (some (-1)) else (if a0 > a1 then (some 1) else (some 0))))))
set_option maxHeartbeats 8000000 in
set_option maxRecDepth 100000 in
theorem cmp_Compare_uint64.calls (a0 : Int) (a1 : Int) (r : Int) (w : World) (h : cmp_Compare_uint64.f a0 a1 = some r) :
    Calls Try.prog 138 #[.int .u64 a0, .int .u64 a1] w fun e w' => e = .returned (.int .i64 r) ∧ Drawn0 w w' := by
  have H : ((cmp_isNaN_uint64.f a0).bind fun t109 => ((cmp_isNaN_uint64.f a1).bind fun t110 => (if t109 = true then (if t110 = true then (some 0) else (some (-1))) else (if t110 = true then (some 1) else (if a0 < a1 then (some (-1)) else (if a0 > a1 then (some 1) else (some 0))))))) = some r := h
  clear h
  replace H := Option.bind_eq_some_iff.mp H
  obtain ⟨t109, A30, H⟩ := H
  replace H : ((cmp_isNaN_uint64.f a1).bind fun t110 => (if t109 = true then (if t110 = true then (some 0) else (some (-1))) else (if t110 = true then (some 1) else (if a0 < a1 then (some (-1)) else (if a0 > a1 then (some 1) else (some 0)))))) = some r := H
  have A3 := Aside0.mk A30
  clear A30
  replace H := Option.bind_eq_some_iff.mp H
  obtain ⟨t110, A40, H⟩ := H
  replace H : (if t109 = true then (if t110 = true then (some 0) else (some (-1))) else (if t110 = true then (some 1) else (if a0 < a1 then (some (-1)) else (if a0 > a1 then (some 1) else (some 0))))) = some r := H
  have A4 := Aside0.mk A40
  clear A40
  by_cases c5 : t109 = true
  · subst c5
    have H1 : (if t110 = true then (some 0) else (some (-1))) = some r := by rw [if_pos rfl] at H; exact H
    clear H
    have H := H1
    clear H1
    by_cases c6 : t110 = true
    · subst c6
      have H1 : (some 0) = some r := by rw [if_pos rfl] at H; exact H
      clear H
      have H := H1
      clear H1
      obtain rfl := Option.some.inj H
      go_enter Try.func138, Try.ntmps138
      go_wp2_with (first | ((with_reducible refine gate_callee (f := 158) rfl ?_); refine goesL_ (some 8) rfl rfl Try.func158 (by kernel_rfl) rfl #[.int .u64 a0] rfl (by (try simp only [List.map_toArray, List.map_cons, List.map_nil]); first | done | rfl | (simp only [List.length_drop, List.length_take]; rfl) | (refine congrArg (fun z => #[Value.int .u64 z]) ?_; rw [IntKind.wrap_u64]; omega)) ?_; (with_reducible refine (cmp_isNaN_uint64.calls a0 true _ A3.out).mono ?_); rintro e w' ⟨rfl, ⟨nd, rfl⟩⟩; refine ⟨_, rfl, ?_⟩) | ((with_reducible refine gate_callee (f := 158) rfl ?_); refine goesL_ (some 10) rfl rfl Try.func158 (by kernel_rfl) rfl #[.int .u64 a1] rfl (by (try simp only [List.map_toArray, List.map_cons, List.map_nil]); first | done | rfl | (simp only [List.length_drop, List.length_take]; rfl) | (refine congrArg (fun z => #[Value.int .u64 z]) ?_; rw [IntKind.wrap_u64]; omega)) ?_; (with_reducible refine (cmp_isNaN_uint64.calls a1 true _ A4.out).mono ?_); rintro e w' ⟨rfl, ⟨nd, rfl⟩⟩; refine ⟨_, rfl, ?_⟩))
      go_ret
      exact ⟨by first | rfl | (simp; done) | (simp [*]; done), by repeat (first | exact Drawn0.refl _ | apply Drawn0.step)⟩
    · replace c6 := Bool.eq_false_iff.mpr c6
      subst c6
      have H1 : (some (-1)) = some r := by rw [if_neg (show ¬ (false = true) by decide)] at H; exact H
      clear H
      have H := H1
      clear H1
      obtain rfl := Option.some.inj H
      go_enter Try.func138, Try.ntmps138
      go_wp2_with (first | ((with_reducible refine gate_callee (f := 158) rfl ?_); refine goesL_ (some 8) rfl rfl Try.func158 (by kernel_rfl) rfl #[.int .u64 a0] rfl (by (try simp only [List.map_toArray, List.map_cons, List.map_nil]); first | done | rfl | (simp only [List.length_drop, List.length_take]; rfl) | (refine congrArg (fun z => #[Value.int .u64 z]) ?_; rw [IntKind.wrap_u64]; omega)) ?_; (with_reducible refine (cmp_isNaN_uint64.calls a0 true _ A3.out).mono ?_); rintro e w' ⟨rfl, ⟨nd, rfl⟩⟩; refine ⟨_, rfl, ?_⟩) | ((with_reducible refine gate_callee (f := 158) rfl ?_); refine goesL_ (some 10) rfl rfl Try.func158 (by kernel_rfl) rfl #[.int .u64 a1] rfl (by (try simp only [List.map_toArray, List.map_cons, List.map_nil]); first | done | rfl | (simp only [List.length_drop, List.length_take]; rfl) | (refine congrArg (fun z => #[Value.int .u64 z]) ?_; rw [IntKind.wrap_u64]; omega)) ?_; (with_reducible refine (cmp_isNaN_uint64.calls a1 false _ A4.out).mono ?_); rintro e w' ⟨rfl, ⟨nd, rfl⟩⟩; refine ⟨_, rfl, ?_⟩))
      go_ret
      exact ⟨by first | rfl | (simp; done) | (simp [*]; done), by repeat (first | exact Drawn0.refl _ | apply Drawn0.step)⟩
  · replace c5 := Bool.eq_false_iff.mpr c5
    subst c5
    have H1 : (if t110 = true then (some 1) else (if a0 < a1 then (some (-1)) else (if a0 > a1 then (some 1) else (some 0)))) = some r := by rw [if_neg (show ¬ (false = true) by decide)] at H; exact H
    clear H
    have H := H1
    clear H1
    by_cases c7 : t110 = true
    · subst c7
      have H1 : (some 1) = some r := by rw [if_pos rfl] at H; exact H
      clear H
      have H := H1
      clear H1
      obtain rfl := Option.some.inj H
      go_enter Try.func138, Try.ntmps138
      go_wp2_with (first | ((with_reducible refine gate_callee (f := 158) rfl ?_); refine goesL_ (some 8) rfl rfl Try.func158 (by kernel_rfl) rfl #[.int .u64 a0] rfl (by (try simp only [List.map_toArray, List.map_cons, List.map_nil]); first | done | rfl | (simp only [List.length_drop, List.length_take]; rfl) | (refine congrArg (fun z => #[Value.int .u64 z]) ?_; rw [IntKind.wrap_u64]; omega)) ?_; (with_reducible refine (cmp_isNaN_uint64.calls a0 false _ A3.out).mono ?_); rintro e w' ⟨rfl, ⟨nd, rfl⟩⟩; refine ⟨_, rfl, ?_⟩) | ((with_reducible refine gate_callee (f := 158) rfl ?_); refine goesL_ (some 10) rfl rfl Try.func158 (by kernel_rfl) rfl #[.int .u64 a1] rfl (by (try simp only [List.map_toArray, List.map_cons, List.map_nil]); first | done | rfl | (simp only [List.length_drop, List.length_take]; rfl) | (refine congrArg (fun z => #[Value.int .u64 z]) ?_; rw [IntKind.wrap_u64]; omega)) ?_; (with_reducible refine (cmp_isNaN_uint64.calls a1 true _ A4.out).mono ?_); rintro e w' ⟨rfl, ⟨nd, rfl⟩⟩; refine ⟨_, rfl, ?_⟩))
      go_ret
      exact ⟨by first | rfl | (simp; done) | (simp [*]; done), by repeat (first | exact Drawn0.refl _ | apply Drawn0.step)⟩
    · replace c7 := Bool.eq_false_iff.mpr c7
      subst c7
      have H1 : (if a0 < a1 then (some (-1)) else (if a0 > a1 then (some 1) else (some 0))) = some r := by rw [if_neg (show ¬ (false = true) by decide)] at H; exact H
      clear H
      have H := H1
      clear H1
      by_cases c8 : a0 < a1
      · rw [if_pos c8] at H
        have c8b0 : decide (a0 < a1) = true := decide_eq_true c8
        clear c8
        obtain rfl := Option.some.inj H
        go_enter Try.func138, Try.ntmps138
        go_wp2_with (first | ((with_reducible refine gate_callee (f := 158) rfl ?_); refine goesL_ (some 8) rfl rfl Try.func158 (by kernel_rfl) rfl #[.int .u64 a0] rfl (by (try simp only [List.map_toArray, List.map_cons, List.map_nil]); first | done | rfl | (simp only [List.length_drop, List.length_take]; rfl) | (refine congrArg (fun z => #[Value.int .u64 z]) ?_; rw [IntKind.wrap_u64]; omega)) ?_; (with_reducible refine (cmp_isNaN_uint64.calls a0 false _ A3.out).mono ?_); rintro e w' ⟨rfl, ⟨nd, rfl⟩⟩; refine ⟨_, rfl, ?_⟩) | ((with_reducible refine gate_callee (f := 158) rfl ?_); refine goesL_ (some 10) rfl rfl Try.func158 (by kernel_rfl) rfl #[.int .u64 a1] rfl (by (try simp only [List.map_toArray, List.map_cons, List.map_nil]); first | done | rfl | (simp only [List.length_drop, List.length_take]; rfl) | (refine congrArg (fun z => #[Value.int .u64 z]) ?_; rw [IntKind.wrap_u64]; omega)) ?_; (with_reducible refine (cmp_isNaN_uint64.calls a1 false _ A4.out).mono ?_); rintro e w' ⟨rfl, ⟨nd, rfl⟩⟩; refine ⟨_, rfl, ?_⟩))
        go_ret
        exact ⟨by first | rfl | (simp; done) | (simp [*]; done), by repeat (first | exact Drawn0.refl _ | apply Drawn0.step)⟩
      · rw [if_neg c8] at H
        have c8b0 : decide (a0 < a1) = false := decide_eq_false c8
        clear c8
        by_cases c9 : a0 > a1
        · rw [if_pos c9] at H
          have c9b0 : decide (a1 < a0) = true := decide_eq_true c9
          clear c9
          obtain rfl := Option.some.inj H
          go_enter Try.func138, Try.ntmps138
          go_wp2_with (first | ((with_reducible refine gate_callee (f := 158) rfl ?_); refine goesL_ (some 8) rfl rfl Try.func158 (by kernel_rfl) rfl #[.int .u64 a0] rfl (by (try simp only [List.map_toArray, List.map_cons, List.map_nil]); first | done | rfl | (simp only [List.length_drop, List.length_take]; rfl) | (refine congrArg (fun z => #[Value.int .u64 z]) ?_; rw [IntKind.wrap_u64]; omega)) ?_; (with_reducible refine (cmp_isNaN_uint64.calls a0 false _ A3.out).mono ?_); rintro e w' ⟨rfl, ⟨nd, rfl⟩⟩; refine ⟨_, rfl, ?_⟩) | ((with_reducible refine gate_callee (f := 158) rfl ?_); refine goesL_ (some 10) rfl rfl Try.func158 (by kernel_rfl) rfl #[.int .u64 a1] rfl (by (try simp only [List.map_toArray, List.map_cons, List.map_nil]); first | done | rfl | (simp only [List.length_drop, List.length_take]; rfl) | (refine congrArg (fun z => #[Value.int .u64 z]) ?_; rw [IntKind.wrap_u64]; omega)) ?_; (with_reducible refine (cmp_isNaN_uint64.calls a1 false _ A4.out).mono ?_); rintro e w' ⟨rfl, ⟨nd, rfl⟩⟩; refine ⟨_, rfl, ?_⟩))
          go_ret
          exact ⟨by first | rfl | (simp; done) | (simp [*]; done), by repeat (first | exact Drawn0.refl _ | apply Drawn0.step)⟩
        · rw [if_neg c9] at H
          have c9b0 : decide (a1 < a0) = false := decide_eq_false c9
          clear c9
          obtain rfl := Option.some.inj H
          go_enter Try.func138, Try.ntmps138
          go_wp2_with (first | ((with_reducible refine gate_callee (f := 158) rfl ?_); refine goesL_ (some 8) rfl rfl Try.func158 (by kernel_rfl) rfl #[.int .u64 a0] rfl (by (try simp only [List.map_toArray, List.map_cons, List.map_nil]); first | done | rfl | (simp only [List.length_drop, List.length_take]; rfl) | (refine congrArg (fun z => #[Value.int .u64 z]) ?_; rw [IntKind.wrap_u64]; omega)) ?_; (with_reducible refine (cmp_isNaN_uint64.calls a0 false _ A3.out).mono ?_); rintro e w' ⟨rfl, ⟨nd, rfl⟩⟩; refine ⟨_, rfl, ?_⟩) | ((with_reducible refine gate_callee (f := 158) rfl ?_); refine goesL_ (some 10) rfl rfl Try.func158 (by kernel_rfl) rfl #[.int .u64 a1] rfl (by (try simp only [List.map_toArray, List.map_cons, List.map_nil]); first | done | rfl | (simp only [List.length_drop, List.length_take]; rfl) | (refine congrArg (fun z => #[Value.int .u64 z]) ?_; rw [IntKind.wrap_u64]; omega)) ?_; (with_reducible refine (cmp_isNaN_uint64.calls a1 false _ A4.out).mono ?_); rintro e w' ⟨rfl, ⟨nd, rfl⟩⟩; refine ⟨_, rfl, ?_⟩))
          go_ret
          exact ⟨by first | rfl | (simp; done) | (simp [*]; done), by repeat (first | exact Drawn0.refl _ | apply Drawn0.step)⟩
def cmp_isNaN_uint32.f (a0 : Int) : Option (Bool) := some (a0 != a0)
set_option maxHeartbeats 8000000 in
set_option maxRecDepth 100000 in
theorem cmp_isNaN_uint32.calls (a0 : Int) (r : Bool) (w : World) (h : cmp_isNaN_uint32.f a0 = some r) :
    Calls Try.prog 159 #[.int .u32 a0] w fun e w' => e = .returned (.bool r) ∧ Drawn0 w w' := by
  have H : (some (a0 != a0)) = some r := h
  clear h
  obtain rfl := Option.some.inj H
  go_enter Try.func159, Try.ntmps159
  go_wp2
  go_ret
  exact ⟨by first | rfl | (simp; done) | (simp [*]; done), by repeat (first | exact Drawn0.refl _ | apply Drawn0.step)⟩
def cmp_Compare_uint32.f (a0 : Int) (a1 : Int) : Option (Int) := (cmp_isNaN_uint32.f a0).bind fun t111 => ((cmp_isNaN_uint32.f a1).bind fun t112 => (if t111 = true then (if t112 = true then (some 0) else (some (-1))) else (if t112 = true then (some 1) else (if a0 < a1 then (some (-1)) else (if a0 > a1 then (some 1) else (some 0))))))
set_option maxHeartbeats 8000000 in
set_option maxRecDepth 100000 in
theorem cmp_Compare_uint32.calls (a0 : Int) (a1 : Int) (r : Int) (w : World) (h : cmp_Compare_uint32.f a0 a1 = some r) :
    Calls Try.prog 139 #[.int .u32 a0, .int .u32 a1] w fun e w' => e = .returned (.int .i64 r) ∧ Drawn0 w w' := by
  have H : ((cmp_isNaN_uint32.f a0).bind fun t111 => ((cmp_isNaN_uint32.f a1).bind fun t112 => (if t111 = true then (if t112 = true then (some 0) else (some (-1))) else (if t112 = true then (some 1) else (if a0 < a1 then (some (-1)) else (if a0 > a1 then (some 1) else (some 0))))))) = some r := h
  clear h
  replace H := Option.bind_eq_some_iff.mp H
  obtain ⟨t111, A30, H⟩ := H
  replace H : ((cmp_isNaN_uint32.f a1).bind fun t112 => (if t111 = true then (if t112 = true then (some 0) else (some (-1))) else (if t112 = true then (some 1) else (if a0 < a1 then (some (-1)) else (if a0 > a1 then (some 1) else (some 0)))))) = some r := H
  have A3 := Aside0.mk A30
  clear A30
  replace H := Option.bind_eq_some_iff.mp H
  obtain ⟨t112, A40, H⟩ := H
  replace H : (if t111 = true then (if t112 = true then (some 0) else (some (-1))) else (if t112 = true then (some 1) else (if a0 < a1 then (some (-1)) else (if a0 > a1 then (some 1) else (some 0))))) = some r := H
  have A4 := Aside0.mk A40
  clear A40
  by_cases c5 : t111 = true
  · subst c5
    have H1 : (if t112 = true then (some 0) else (some (-1))) = some r := by rw [if_pos rfl] at H; exact H
    clear H
    have H := H1
    clear H1
    by_cases c6 : t112 = true
    · subst c6
      have H1 : (some 0) = some r := by rw [if_pos rfl] at H; exact H
      clear H
      have H := H1
      clear H1
      obtain rfl := Option.some.inj H
      go_enter Try.func139, Try.ntmps139
      go_wp2_with (first | ((with_reducible refine gate_callee (f := 159) rfl ?_); refine goesL_ (some 8) rfl rfl Try.func159 (by kernel_rfl) rfl #[.int .u32 a0] rfl (by (try simp only [List.map_toArray, List.map_cons, List.map_nil]); first | done | rfl | (simp only [List.length_drop, List.length_take]; rfl) | (refine congrArg (fun z => #[Value.int .u64 z]) ?_; rw [IntKind.wrap_u64]; omega)) ?_; (with_reducible refine (cmp_isNaN_uint32.calls a0 true _ A3.out).mono ?_); rintro e w' ⟨rfl, ⟨nd, rfl⟩⟩; refine ⟨_, rfl, ?_⟩) | ((with_reducible refine gate_callee (f := 159) rfl ?_); refine goesL_ (some 10) rfl rfl Try.func159 (by kernel_rfl) rfl #[.int .u32 a1] rfl (by (try simp only [List.map_toArray, List.map_cons, List.map_nil]); first | done | rfl | (simp only [List.length_drop, List.length_take]; rfl) | (refine congrArg (fun z => #[Value.int .u64 z]) ?_; rw [IntKind.wrap_u64]; omega)) ?_; (with_reducible refine (cmp_isNaN_uint32.calls a1 true _ A4.out).mono ?_); rintro e w' ⟨rfl, ⟨nd, rfl⟩⟩; refine ⟨_, rfl, ?_⟩))
      go_ret
      exact ⟨by first | rfl | (simp; done) | (simp [*]; done), by repeat (first | exact Drawn0.refl _ | apply Drawn0.step)⟩
    · replace c6 := Bool.eq_false_iff.mpr c6
      subst c6
      have H1 : (some (-1)) = some r := by rw [if_neg (show ¬ (false = true) by decide)] at H; exact H
      clear H
      have H := H1
      clear H1
      obtain rfl := Option.some.inj H
      go_enter Try.func139, Try.ntmps139
      go_wp2_with (first | ((with_reducible refine gate_callee (f := 159) rfl ?_); refine goesL_ (some 8) rfl rfl Try.func159 (by kernel_rfl) rfl #[.int .u32 a0] rfl (by (try simp only [List.map_toArray, List.map_cons, List.map_nil]); first | done | rfl | (simp only [List.length_drop, List.length_take]; rfl) | (refine congrArg (fun z => #[Value.int .u64 z]) ?_; rw [IntKind.wrap_u64]; omega)) ?_; (with_reducible refine (cmp_isNaN_uint32.calls a0 true _ A3.out).mono ?_); rintro e w' ⟨rfl, ⟨nd, rfl⟩⟩; refine ⟨_, rfl, ?_⟩) | ((with_reducible refine gate_callee (f := 159) rfl ?_); refine goesL_ (some 10) rfl rfl Try.func159 (by kernel_rfl) rfl #[.int .u32 a1] rfl (by (try simp only [List.map_toArray, List.map_cons, List.map_nil]); first | done | rfl | (simp only [List.length_drop, List.length_take]; rfl) | (refine congrArg (fun z => #[Value.int .u64 z]) ?_; rw [IntKind.wrap_u64]; omega)) ?_; (with_reducible refine (cmp_isNaN_uint32.calls a1 false _ A4.out).mono ?_); rintro e w' ⟨rfl, ⟨nd, rfl⟩⟩; refine ⟨_, rfl, ?_⟩))
      go_ret
      exact ⟨by first | rfl | (simp; done) | (simp [*]; done), by repeat (first | exact Drawn0.refl _ | apply Drawn0.step)⟩
  · replace c5 := Bool.eq_false_iff.mpr c5
    subst c5
    have H1 : (if t112 = true then (some 1) else (if a0 < a1 then (some (-1)) else (if a0 > a1 then (some 1) else (some 0)))) = some r := by rw [if_neg (show ¬ (false = true) by decide)] at H; exact H
    clear H
    have H := H1
    clear H1
    by_cases c7 : t112 = true
    · subst c7
      have H1 : (some 1) = some r := by rw [if_pos rfl] at H; exact H
      clear H
      have H := H1
      clear H1
      obtain rfl := Option.some.inj H
      go_enter Try.func139, Try.ntmps139
      go_wp2_with (first | ((with_reducible refine gate_callee (f := 159) rfl ?_); refine goesL_ (some 8) rfl rfl Try.func159 (by kernel_rfl) rfl #[.int .u32 a0] rfl (by (try simp only [List.map_toArray, List.map_cons, List.map_nil]); first | done | rfl | (simp only [List.length_drop, List.length_take]; rfl) | (refine congrArg (fun z => #[Value.int .u64 z]) ?_; rw [IntKind.wrap_u64]; omega)) ?_; (with_reducible refine (cmp_isNaN_uint32.calls a0 false _ A3.out).mono ?_); rintro e w' ⟨rfl, ⟨nd, rfl⟩⟩; refine ⟨_, rfl, ?_⟩) | ((with_reducible refine gate_callee (f := 159) rfl ?_); refine goesL_ (some 10) rfl rfl Try.func159 (by kernel_rfl) rfl #[.int .u32 a1] rfl (by (try simp only [List.map_toArray, List.map_cons, List.map_nil]); first | done | rfl | (simp only [List.length_drop, List.length_take]; rfl) | (refine congrArg (fun z => #[Value.int .u64 z]) ?_; rw [IntKind.wrap_u64]; omega)) ?_; (with_reducible refine (cmp_isNaN_uint32.calls a1 true _ A4.out).mono ?_); rintro e w' ⟨rfl, ⟨nd, rfl⟩⟩; refine ⟨_, rfl, ?_⟩))
      go_ret
      exact ⟨by first | rfl | (simp; done) | (simp [*]; done), by repeat (first | exact Drawn0.refl _ | apply Drawn0.step)⟩
    · replace c7 := Bool.eq_false_iff.mpr c7
      subst c7
      have H1 : (if a0 < a1 then (some (-1)) else (if a0 > a1 then (some 1) else (some 0))) = some r := by rw [if_neg (show ¬ (false = true) by decide)] at H; exact H
      clear H
      have H := H1
      clear H1
      by_cases c8 : a0 < a1
      · rw [if_pos c8] at H
        have c8b0 : decide (a0 < a1) = true := decide_eq_true c8
        clear c8
        obtain rfl := Option.some.inj H
        go_enter Try.func139, Try.ntmps139
        go_wp2_with (first | ((with_reducible refine gate_callee (f := 159) rfl ?_); refine goesL_ (some 8) rfl rfl Try.func159 (by kernel_rfl) rfl #[.int .u32 a0] rfl (by (try simp only [List.map_toArray, List.map_cons, List.map_nil]); first | done | rfl | (simp only [List.length_drop, List.length_take]; rfl) | (refine congrArg (fun z => #[Value.int .u64 z]) ?_; rw [IntKind.wrap_u64]; omega)) ?_; (with_reducible refine (cmp_isNaN_uint32.calls a0 false _ A3.out).mono ?_); rintro e w' ⟨rfl, ⟨nd, rfl⟩⟩; refine ⟨_, rfl, ?_⟩) | ((with_reducible refine gate_callee (f := 159) rfl ?_); refine goesL_ (some 10) rfl rfl Try.func159 (by kernel_rfl) rfl #[.int .u32 a1] rfl (by (try simp only [List.map_toArray, List.map_cons, List.map_nil]); first | done | rfl | (simp only [List.length_drop, List.length_take]; rfl) | (refine congrArg (fun z => #[Value.int .u64 z]) ?_; rw [IntKind.wrap_u64]; omega)) ?_; (with_reducible refine (cmp_isNaN_uint32.calls a1 false _ A4.out).mono ?_); rintro e w' ⟨rfl, ⟨nd, rfl⟩⟩; refine ⟨_, rfl, ?_⟩))
        go_ret
        exact ⟨by first | rfl | (simp; done) | (simp [*]; done), by repeat (first | exact Drawn0.refl _ | apply Drawn0.step)⟩
      · rw [if_neg c8] at H
        have c8b0 : decide (a0 < a1) = false := decide_eq_false c8
        clear c8
        by_cases c9 : a0 > a1
        · rw [if_pos c9] at H
          have c9b0 : decide (a1 < a0) = true := decide_eq_true c9
          clear c9
          obtain rfl := Option.some.inj H
          go_enter Try.func139, Try.ntmps139
          go_wp2_with (first | ((with_reducible refine gate_callee (f := 159) rfl ?_); refine goesL_ (some 8) rfl rfl Try.func159 (by kernel_rfl) rfl #[.int .u32 a0] rfl (by (try simp only [List.map_toArray, List.map_cons, List.map_nil]); first | done | rfl | (simp only [List.length_drop, List.length_take]; rfl) | (refine congrArg (fun z => #[Value.int .u64 z]) ?_; rw [IntKind.wrap_u64]; omega)) ?_; (with_reducible refine (cmp_isNaN_uint32.calls a0 false _ A3.out).mono ?_); rintro e w' ⟨rfl, ⟨nd, rfl⟩⟩; refine ⟨_, rfl, ?_⟩) | ((with_reducible refine gate_callee (f := 159) rfl ?_); refine goesL_ (some 10) rfl rfl Try.func159 (by kernel_rfl) rfl #[.int .u32 a1] rfl (by (try simp only [List.map_toArray, List.map_cons, List.map_nil]); first | done | rfl | (simp only [List.length_drop, List.length_take]; rfl) | (refine congrArg (fun z => #[Value.int .u64 z]) ?_; rw [IntKind.wrap_u64]; omega)) ?_; (with_reducible refine (cmp_isNaN_uint32.calls a1 false _ A4.out).mono ?_); rintro e w' ⟨rfl, ⟨nd, rfl⟩⟩; refine ⟨_, rfl, ?_⟩))
          go_ret
          exact ⟨by first | rfl | (simp; done) | (simp [*]; done), by repeat (first | exact Drawn0.refl _ | apply Drawn0.step)⟩
        · rw [if_neg c9] at H
          have c9b0 : decide (a1 < a0) = false := decide_eq_false c9
          clear c9
          obtain rfl := Option.some.inj H
          go_enter Try.func139, Try.ntmps139
          go_wp2_with (first | ((with_reducible refine gate_callee (f := 159) rfl ?_); refine goesL_ (some 8) rfl rfl Try.func159 (by kernel_rfl) rfl #[.int .u32 a0] rfl (by (try simp only [List.map_toArray, List.map_cons, List.map_nil]); first | done | rfl | (simp only [List.length_drop, List.length_take]; rfl) | (refine congrArg (fun z => #[Value.int .u64 z]) ?_; rw [IntKind.wrap_u64]; omega)) ?_; (with_reducible refine (cmp_isNaN_uint32.calls a0 false _ A3.out).mono ?_); rintro e w' ⟨rfl, ⟨nd, rfl⟩⟩; refine ⟨_, rfl, ?_⟩) | ((with_reducible refine gate_callee (f := 159) rfl ?_); refine goesL_ (some 10) rfl rfl Try.func159 (by kernel_rfl) rfl #[.int .u32 a1] rfl (by (try simp only [List.map_toArray, List.map_cons, List.map_nil]); first | done | rfl | (simp only [List.length_drop, List.length_take]; rfl) | (refine congrArg (fun z => #[Value.int .u64 z]) ?_; rw [IntKind.wrap_u64]; omega)) ?_; (with_reducible refine (cmp_isNaN_uint32.calls a1 false _ A4.out).mono ?_); rintro e w' ⟨rfl, ⟨nd, rfl⟩⟩; refine ⟨_, rfl, ?_⟩))
          go_ret
          exact ⟨by first | rfl | (simp; done) | (simp [*]; done), by repeat (first | exact Drawn0.refl _ | apply Drawn0.step)⟩
end Go.Proofs.Ytekanmieppnpeaa.G
end
section
namespace Go.Proofs.Ytekanmieppnpeaa.G
open Go.RowKit Go.Proofs.YtekanmieppnpeaaW.PrintWords Go.Proofs.YtekanmieppnpeaaW.PrintLast Go.Proofs.YtekanmieppnpeaaW.PrintMore
attribute [local go_sem] max2_int min2_int max_two min_two max_three min_three max_four min_four   -- for this text's walks alone
set_option linter.unusedVariables false
set_option linter.unusedSimpArgs false
def table_Compare.f (k : Nat) (a0_0 : Int) (a0_1 : Int) (a1_0 : Int) (a1_1 : Int) : Option (Int) := (cmp_Compare_uint64.f a0_0 a1_0).bind fun t115 => ((cmp_Compare_uint32.f a0_1 a1_1).bind fun t116 => ((cmp_Or_int.f k (([t115, t116] : List Int))).bind fun t120 => (some t120)))
theorem table_Compare.mono : ∀ a0 a1 a2 a3 k, LeO (table_Compare.f k a0 a1 a2 a3) (table_Compare.f (k + 1) a0 a1 a2 a3) := by
  intro a0 a1 a2 a3 k
  unfold table_Compare.f
  repeat' first
      | (with_reducible exact cmp_Or_int.mono _ _)
      | (with_reducible exact LeO.refl _)
      | (with_reducible exact LeO.none _)
      | (with_reducible refine LeO.ite ?_ ?_)
      | (with_reducible refine LeO.bind ?_ (fun _ => ?_))
      | exact cmp_Or_int.mono _ _
      | exact LeO.none _
      | refine LeO.ite ?_ ?_
      | refine LeO.bind ?_ (fun _ => ?_)
def table_Compare.T1 : Bool × List (List Nat × List Nat) := (true, [([], []), ([0], [0]), ([], []), ([2], [2]), ([1, 3], [1, 3]), ([], []), ([5], [5]), ([], []), ([7], [7]), ([6, 8, 4], [6, 8]), ([4, 9], [4, 9]), ([10, 9], [10]), ([11, 11, 0, 1, 2, 3, 4, 5, 6, 7, 8, 9, 10, 11], [11])])
def table_Compare.B1 : List Nat := [0, 1, 0, 4, 15, 0, 32, 0, 128, 511, 1023, 2047, 4095]
theorem table_Compare.tab1 : rtab .any (opsOf Try.f100 1) = table_Compare.T1 := by kernel_rfl
theorem table_Compare.bits1 : waitsOk table_Compare.T1.2 table_Compare.B1 = true := by kernel_rfl
set_option maxHeartbeats 8000000 in
set_option maxRecDepth 100000 in
theorem table_Compare.calls (k : Nat) (a0_0 : Int) (a0_1 : Int) (a1_0 : Int) (a1_1 : Int) (r : Int) (w : World) (h : table_Compare.f k a0_0 a0_1 a1_0 a1_1 = some r) :
    Calls Try.prog 100 #[.agg #[.int .u64 a0_0, .int .u32 a0_1], .agg #[.int .u64 a1_0, .int .u32 a1_1]] w fun e w' => e = .returned (.int .i64 r) ∧ Below w.heap.size w w' := by
  have hu33 := Try.underlying33
  have HB := Aside0.mk (Below.refl w.heap.size w)
  have H : ((cmp_Compare_uint64.f a0_0 a1_0).bind fun t115 => ((cmp_Compare_uint32.f a0_1 a1_1).bind fun t116 => ((cmp_Or_int.f k (([t115, t116] : List Int))).bind fun t120 => (some t120)))) = some r := h
  clear h
  replace H := Option.bind_eq_some_iff.mp H
  obtain ⟨t115, A30, H⟩ := H
  replace H : ((cmp_Compare_uint32.f a0_1 a1_1).bind fun t116 => ((cmp_Or_int.f k (([t115, t116] : List Int))).bind fun t120 => (some t120))) = some r := H
  have A3 := Aside0.mk A30
  clear A30
  replace H := Option.bind_eq_some_iff.mp H
  obtain ⟨t116, A40, H⟩ := H
  replace H : ((cmp_Or_int.f k (([t115, t116] : List Int))).bind fun t120 => (some t120)) = some r := H
  have A4 := Aside0.mk A40
  clear A40
  obtain ⟨y117, hy117⟩ : ∃ y_ : List Int, y_ = (([t115, t116] : List Int)) := ⟨_, rfl⟩
  replace H : ((cmp_Or_int.f k y117).bind fun t120 => (some t120)) = some r := by first | (rw [hy117]; with_reducible exact H) | (have H2_ := (Option.bind_some _ _).symm.trans H; rw [hy117]; with_reducible exact H2_) | (have H2_ := (Option.bind_some _ _).symm.trans H; with_reducible exact H2_) | with_reducible exact H | (rw [hy117]; exact H) | exact H
  have Ny117 := Aside0.mk hy117
  clear hy117
  replace H := Option.bind_eq_some_iff.mp H
  obtain ⟨t120, A50, H⟩ := H
  replace H : (some t120) = some r := H
  have A5 := Aside0.mk A50
  clear A50
  obtain rfl := Option.some.inj H
  go_enter Try.func100, Try.ntmps100
  try go_wp2_with (first | ((with_reducible refine gate_dst (N := 2) rfl ?_); refine box_event ?hg (N := 2) ?hd (cs := #[.int .u64 a0_0, .int .u32 a0_1]) (t := 33) ?hr ?_; (case hd => rfl); (case hg => rfl); (case hr => first | (go_simp; done) | (go_simp; rfl)); intro gb113 hg w6 hbox hb; have n0_ := Aside0.mk (below_step (by repeat (first | (with_reducible first | exact HB.out | apply below_alloc | apply pw_below_drewN | apply below_drew1) | exact HB.out)) hb); have n1_ := Aside0.mk (hbox); have n2_ := Aside0.mk ((by rw [hg]; exact (below_size (by repeat (first | (with_reducible first | exact HB.out | apply below_alloc | apply pw_below_drewN | apply below_drew1) | exact HB.out))) : w.heap.size ≤ gb113)); have n3_ := Aside0.mk ((by rw [hg]; exact (below_size (by repeat (first | (with_reducible first | exact HB.out | apply below_alloc | apply pw_below_drewN | apply below_drew1) | exact HB.out))) : w.heap.size ≤ gb113)); clear HB; have HB := n0_; have BK113 := n1_; have GW113 := n2_; have GE113 := n3_; clear n0_ n1_ n2_ n3_; clear hb hbox hg) | ((with_reducible refine gate_dst (N := 3) rfl ?_); refine box_event ?hg (N := 3) ?hd (cs := #[.int .u64 a1_0, .int .u32 a1_1]) (t := 33) ?hr ?_; (case hd => rfl); (case hg => rfl); (case hr => first | (go_simp; done) | (go_simp; rfl)); intro gb114 hg w7 hbox hb; have n0_ := Aside0.mk (blk_below (g := gb113) (o := .cells #[.int .u64 a0_0, .int .u32 a0_1] 33 (0, 0)) (by (with_reducible repeat (first | refine blk_drewN ?_ _ | refine blk_drew ?_ | refine blk_alloc ?_ _)); exact BK113.out) hb); have n1_ := Aside0.mk (below_step (by repeat (first | (with_reducible first | exact HB.out | apply below_alloc | apply pw_below_drewN | apply below_drew1 | refine below_set ?_ GE113.out) | exact HB.out)) hb); have n2_ := Aside0.mk (hbox); have n3_ := Aside0.mk ((by rw [hg]; exact (below_size (by repeat (first | (with_reducible first | exact HB.out | apply below_alloc | apply pw_below_drewN | apply below_drew1 | refine below_set ?_ GE113.out) | exact HB.out))) : w.heap.size ≤ gb114)); have n4_ := Aside0.mk ((by rw [hg]; exact (below_size (by repeat (first | (with_reducible first | exact HB.out | apply below_alloc | apply pw_below_drewN | apply below_drew1 | refine below_set ?_ GE113.out) | exact HB.out))) : w.heap.size ≤ gb114)); have n5_ := Aside0.mk ((by rw [hg]; exact Nat.ne_of_lt (blk_lt (g := gb113) (o := .cells #[.int .u64 a0_0, .int .u32 a0_1] 33 (0, 0)) (by (with_reducible repeat (first | refine blk_drewN ?_ _ | refine blk_drew ?_ | refine blk_alloc ?_ _)); exact BK113.out)) : gb113 ≠ gb114)); have n6_ := Aside0.mk ((by rw [hg]; exact Nat.ne_of_gt (blk_lt (g := gb113) (o := .cells #[.int .u64 a0_0, .int .u32 a0_1] 33 (0, 0)) (by (with_reducible repeat (first | refine blk_drewN ?_ _ | refine blk_drew ?_ | refine blk_alloc ?_ _)); exact BK113.out)) : gb114 ≠ gb113)); clear BK113; clear HB; have BK113 := n0_; have HB := n1_; have BK114 := n2_; have GW114 := n3_; have GE114 := n4_; have NB113_114 := n5_; have NB114_113 := n6_; clear n0_ n1_ n2_ n3_ n4_ n5_ n6_; clear hb hbox hg))
  have n0_ := Aside0.mk (blk_drew BK113.out)
  have n1_ := Aside0.mk (blk_drew BK114.out)
  have n2_ := Aside0.mk (below_drew1 HB.out)
  clear BK113
  clear BK114
  clear HB
  have BK113 := n0_
  have BK114 := n1_
  have HB := n2_
  clear n0_ n1_ n2_
  refine start_ (n := 13) (S := fun w' => w'.cell? ⟨gb113, 0, none⟩ = some (.int .u64 a0_0) ∧ w'.cell? ⟨gb113, 1, none⟩ = some (.int .u32 a0_1) ∧ w'.cell? ⟨gb114, 0, none⟩ = some (.int .u64 a1_0) ∧ w'.cell? ⟨gb114, 1, none⟩ = some (.int .u32 a1_1)) (ds := []) #[false, false, false, false, false, false, false, false, false, false, false, false, false] (by kernel_rfl) rfl rfl ⟨(blk_cell BK113.out 0).trans rfl, (blk_cell BK113.out 1).trans rfl, (blk_cell BK114.out 0).trans rfl, (blk_cell BK114.out 1).trans rfl⟩ (fun hHeld => ?_); refine with_tabW table_Compare.tab1 table_Compare.bits1 (fun HT_ HW_ => ?_)
  generalize w7.drew = w8 at BK113 BK114 HB hHeld ⊢
  refine pure_ (i := 0) (N := some 5) (v := ?_) (a' := ?_) #[true, false, false, false, false, false, false, false, false, false, false, false, false] rfl rfl (any_of HT_.out (by kernel_rfl)) (fun _ _ _ h => h) (Or.inl ⟨by rfl, ?_⟩) ?_ ?_
  rotate_left
  · intro w'
    go_simp
    with_reducible rfl
  rotate_left
  · simp only [Act.put, List.setIfInBounds_toArray, List.set_cons_zero, List.set_cons_succ, i64_w, i32_w]
    rfl
  refine pure_ (i := 2) (N := some 7) (v := ?_) (a' := ?_) #[true, false, true, false, false, false, false, false, false, false, false, false, false] rfl rfl (any_of HT_.out (by kernel_rfl)) (fun _ _ _ h => h) (Or.inl ⟨by rfl, ?_⟩) ?_ ?_
  rotate_left
  · intro w'
    go_simp
    with_reducible rfl
  rotate_left
  · simp only [Act.put, List.setIfInBounds_toArray, List.set_cons_zero, List.set_cons_succ, i64_w, i32_w]
    rfl
  refine pure_ (i := 5) (N := some 10) (v := ?_) (a' := ?_) #[true, false, true, false, false, true, false, false, false, false, false, false, false] rfl rfl (any_of HT_.out (by kernel_rfl)) (fun _ _ _ h => h) (Or.inl ⟨by rfl, ?_⟩) ?_ ?_
  rotate_left
  · intro w'
    go_simp
    with_reducible rfl
  rotate_left
  · simp only [Act.put, List.setIfInBounds_toArray, List.set_cons_zero, List.set_cons_succ, i64_w, i32_w]
    rfl
  refine pure_ (i := 7) (N := some 12) (v := ?_) (a' := ?_) #[true, false, true, false, false, true, false, true, false, false, false, false, false] rfl rfl (any_of HT_.out (by kernel_rfl)) (fun _ _ _ h => h) (Or.inl ⟨by rfl, ?_⟩) ?_ ?_
  rotate_left
  · intro w'
    go_simp
    with_reducible rfl
  rotate_left
  · simp only [Act.put, List.setIfInBounds_toArray, List.set_cons_zero, List.set_cons_succ, i64_w, i32_w]
    rfl
  refine take_ (i := 1) (N := some 6) (v := ?_) (a' := ?_) #[true, true, true, false, false, true, false, true, false, false, false, false, false] rfl rfl (take_ofW HT_.out HW_.out (by kernel_rfl)) (fun _ _ _ h => h) (Or.inl ⟨by rfl, ?_⟩) hHeld ?_ ?_
  rotate_left
  · rintro w' ⟨s0, s1, s2, s3⟩
    go_simp
    with_reducible rfl
  rotate_left
  · simp only [Act.put, List.setIfInBounds_toArray, List.set_cons_zero, List.set_cons_succ, i64_w, i32_w]
    rfl
  refine take_ (i := 3) (N := some 8) (v := ?_) (a' := ?_) #[true, true, true, true, false, true, false, true, false, false, false, false, false] rfl rfl (take_ofW HT_.out HW_.out (by kernel_rfl)) (fun _ _ _ h => h) (Or.inl ⟨by rfl, ?_⟩) hHeld ?_ ?_
  rotate_left
  · rintro w' ⟨s0, s1, s2, s3⟩
    go_simp
    with_reducible rfl
  rotate_left
  · simp only [Act.put, List.setIfInBounds_toArray, List.set_cons_zero, List.set_cons_succ, i64_w, i32_w]
    rfl
  refine take_ (i := 6) (N := some 11) (v := ?_) (a' := ?_) #[true, true, true, true, false, true, true, true, false, false, false, false, false] rfl rfl (take_ofW HT_.out HW_.out (by kernel_rfl)) (fun _ _ _ h => h) (Or.inl ⟨by rfl, ?_⟩) hHeld ?_ ?_
  rotate_left
  · rintro w' ⟨s0, s1, s2, s3⟩
    go_simp
    with_reducible rfl
  rotate_left
  · simp only [Act.put, List.setIfInBounds_toArray, List.set_cons_zero, List.set_cons_succ, i64_w, i32_w]
    rfl
  refine take_ (i := 8) (N := some 13) (v := ?_) (a' := ?_) #[true, true, true, true, false, true, true, true, true, false, false, false, false] rfl rfl (take_ofW HT_.out HW_.out (by kernel_rfl)) (fun _ _ _ h => h) (Or.inl ⟨by rfl, ?_⟩) hHeld ?_ ?_
  rotate_left
  · rintro w' ⟨s0, s1, s2, s3⟩
    go_simp
    with_reducible rfl
  rotate_left
  · simp only [Act.put, List.setIfInBounds_toArray, List.set_cons_zero, List.set_cons_succ, i64_w, i32_w]
    rfl
  refine one_ (i := 4) (N := some 9) #[true, true, true, true, true, true, true, true, true, false, false, false, false] rfl rfl (one_of HT_.out (by kernel_rfl)) (by decide) (fun K hK => ?_)
  refine goes_ Try.func138 (by kernel_rfl) rfl #[.int .u64 a0_0, .int .u64 a1_0] (by rfl) rfl rfl (by (try simp only [List.map_toArray, List.map_cons, List.map_nil]); first | done | rfl | (simp only [List.length_drop, List.length_take]; rfl) | (refine congrArg (fun z => #[Value.int .u64 z]) ?_; rw [IntKind.wrap_u64]; omega)) ?_
  with_reducible refine (cmp_Compare_uint64.calls a0_0 a1_0 t115 _ A3.out).mono ?_
  rintro e w' ⟨rfl, ⟨nd, rfl⟩⟩
  refine ⟨_, rfl, ?_⟩
  refine hK.out _ _ ⟨(blk_cell BK113.out 0).trans rfl, (blk_cell BK113.out 1).trans rfl, (blk_cell BK114.out 0).trans rfl, (blk_cell BK114.out 1).trans rfl⟩ (fun hHeld => ?_)
  clear hK K
  refine norm_ (a' := ?_) ?_ ?_
  rotate_left
  · show Act.put _ (some 9) _ = _
    simp only [Act.put, List.setIfInBounds_toArray, List.set_cons_zero, List.set_cons_succ, i64_w, i32_w]
    rfl
  refine one_ (i := 9) (N := some 14) #[true, true, true, true, true, true, true, true, true, true, false, false, false] rfl rfl (one_of HT_.out (by kernel_rfl)) (by decide) (fun K hK => ?_)
  refine goes_ Try.func139 (by kernel_rfl) rfl #[.int .u32 a0_1, .int .u32 a1_1] (by rfl) rfl rfl (by (try simp only [List.map_toArray, List.map_cons, List.map_nil]); first | done | rfl | (simp only [List.length_drop, List.length_take]; rfl) | (refine congrArg (fun z => #[Value.int .u64 z]) ?_; rw [IntKind.wrap_u64]; omega)) ?_
  with_reducible refine (cmp_Compare_uint32.calls a0_1 a1_1 t116 _ A4.out).mono ?_
  rintro e w' ⟨rfl, ⟨nd, rfl⟩⟩
  refine ⟨_, rfl, ?_⟩
  refine hK.out _ _ ⟨(blk_cell BK113.out 0).trans rfl, (blk_cell BK113.out 1).trans rfl, (blk_cell BK114.out 0).trans rfl, (blk_cell BK114.out 1).trans rfl⟩ (fun hHeld => ?_)
  clear hK K
  refine norm_ (a' := ?_) ?_ ?_
  rotate_left
  · show Act.put _ (some 14) _ = _
    simp only [Act.put, List.setIfInBounds_toArray, List.set_cons_zero, List.set_cons_succ, i64_w, i32_w]
    rfl
  refine one_ (i := 10) (N := some 15) #[true, true, true, true, true, true, true, true, true, true, true, false, false] rfl rfl (one_of HT_.out (by kernel_rfl)) (by decide) (fun K hK => ?_)
  refine Kd.R_lit_step (Kd.int .i64) _ 3 ?hg (N := 15) ?hd (xs := ([t115, t116] : List Int)) (inner := [.int .i64 t115, .int .i64 t116]) (ok := fun _ => True) (okp := fun _ => True) ?hr ?hp (fun _ hk => hk) trivial (Below.refl _ _) (Nat.le_refl _) (by simp) ?_; (case hd => rfl); (case hg => rfl); (case hr => first | (go_simp; done) | (go_simp; rfl)); (case hp => exact (Reps.one (show Kd.M (Kd.int .i64) _ _ _ t115 [.int .i64 t115] from rfl) (Reps.one (show Kd.M (Kd.int .i64) _ _ _ t116 [.int .i64 t116] from rfl) (Reps.none _ _))))
  intro v118 w9 ho10 hb hg_ hnew_
  clear hg_ hnew_
  (first | rw [← Ny117.out] at ho10 | (simp only [Int.reduceToNat] at ho10; rw [← Ny117.out] at ho10))
  have n0_ := Aside0.mk (Kd.R_lower ho10 (below_size (by repeat (first | (with_reducible first | exact HB.out | apply below_alloc | apply pw_below_drewN | apply below_drew1 | refine below_set ?_ GE113.out | refine below_set ?_ GE114.out) | exact HB.out))))
  have n1_ := Aside0.mk (blk_below (g := gb113) (o := .cells #[.int .u64 a0_0, .int .u32 a0_1] 33 (0, 0)) (by (with_reducible repeat (first | refine blk_drewN ?_ _ | refine blk_drew ?_ | refine blk_alloc ?_ _)); exact BK113.out) hb)
  have n2_ := Aside0.mk (blk_below (g := gb114) (o := .cells #[.int .u64 a1_0, .int .u32 a1_1] 33 (0, 0)) (by (with_reducible repeat (first | refine blk_drewN ?_ _ | refine blk_drew ?_ | refine blk_alloc ?_ _)); exact BK114.out) hb)
  have n3_ := Aside0.mk (below_step (by repeat (first | (with_reducible first | exact HB.out | apply below_alloc | apply pw_below_drewN | apply below_drew1 | refine below_set ?_ GE113.out | refine below_set ?_ GE114.out) | exact HB.out)) hb)
  clear BK113
  clear BK114
  clear HB
  have HO119 := n0_
  have BK113 := n1_
  have BK114 := n2_
  have HB := n3_
  clear n0_ n1_ n2_ n3_
  clear hb ho10
  obtain ⟨Ao11, co11, eo11⟩ := Kd.R_slice HO119.out
  (first | subst eo11 | (injection eo11 with f1_ f2_ f3_; have f4_ := f1_.symm; have f5_ := f3_.symm; clear f1_ f2_ f3_; subst f4_; subst f5_))
  refine hK.out _ _ ⟨(blk_cell BK113.out 0).trans rfl, (blk_cell BK113.out 1).trans rfl, (blk_cell BK114.out 0).trans rfl, (blk_cell BK114.out 1).trans rfl⟩ (fun hHeld => ?_)
  clear hK K
  refine norm_ (a' := ?_) ?_ ?_
  rotate_left
  · show Act.put _ (some 15) _ = _
    simp only [Act.put, List.setIfInBounds_toArray, List.set_cons_zero, List.set_cons_succ, i64_w, i32_w]
    rfl
  refine one_ (i := 11) (N := some 16) #[true, true, true, true, true, true, true, true, true, true, true, true, false] rfl rfl (one_of HT_.out (by kernel_rfl)) (by decide) (fun K hK => ?_)
  refine goes_ Try.func137 (by kernel_rfl) rfl #[.slice Ao11 y117.length co11] (by rfl) rfl rfl (by (try simp only [List.map_toArray, List.map_cons, List.map_nil]); first | done | rfl | (simp only [List.length_drop, List.length_take]; rfl) | (refine congrArg (fun z => #[Value.int .u64 z]) ?_; rw [IntKind.wrap_u64]; omega)) ?_
  with_reducible refine (cmp_Or_int.calls k _ _ y117 t120 _ ?side1 ?side2 A5.out).mono ?_
  (case side1 => repeat (first | exact (Kd.R_reads' HO119.out).2.2 | (with_reducible refine Kd.C_alloc ?_ _) | (with_reducible refine Kd.C_drewN ?_ _) | (with_reducible refine Kd.C_drew ?_)))
  (case side2 => exact (Kd.R_reads' HO119.out).2.1)
  rintro e w' ⟨rfl, ⟨nd, rfl⟩⟩
  refine ⟨_, rfl, ?_⟩
  refine hK.out _ _ ⟨(blk_cell BK113.out 0).trans rfl, (blk_cell BK113.out 1).trans rfl, (blk_cell BK114.out 0).trans rfl, (blk_cell BK114.out 1).trans rfl⟩ (fun hHeld => ?_)
  clear hK K
  refine norm_ (a' := ?_) ?_ ?_
  rotate_left
  · show Act.put _ (some 16) _ = _
    simp only [Act.put, List.setIfInBounds_toArray, List.set_cons_zero, List.set_cons_succ, i64_w, i32_w]
    rfl
  refine pure_ (i := 12) (N := some 4) (v := ?_) (a' := ?_) #[true, true, true, true, true, true, true, true, true, true, true, true, true] rfl rfl (any_of HT_.out (by kernel_rfl)) (fun _ _ _ h => h) (Or.inl ⟨by rfl, ?_⟩) ?_ ?_
  rotate_left
  · intro w'
    go_simp
    with_reducible rfl
  rotate_left
  · simp only [Act.put, List.setIfInBounds_toArray, List.set_cons_zero, List.set_cons_succ, i64_w, i32_w]
    rfl
  refine done_ (done_of HT_.out (by kernel_rfl)) ?_
  try go_wp2
  go_ret
  exact ⟨by first | rfl | (simp [errW_none, errW_some] <;> rfl) | (simp [*, errW_none, errW_some] <;> rfl), by repeat (first | (with_reducible first | exact HB.out | apply below_alloc | apply pw_below_drewN | apply below_drew1 | refine below_set ?_ GE113.out | refine below_set ?_ GE114.out) | exact HB.out)⟩
def table_Rising.l0 : Nat → List (S33) → Int → Option (Bool)
  | 0, _, _ => none
  | k + 1, x0, x3 => if x3 < (x0.length : Int) then (if 0 ≤ (wrap64 (x3 - 1)) then (if (wrap64 (x3 - 1)) < (x0.length : Int) then (if 0 ≤ x3 then ((table_Compare.f k ((rd_T33 x0 (wrap64 (x3 - 1))).f0) ((rd_T33 x0 (wrap64 (x3 - 1))).f1) ((rd_T33 x0 x3).f0) ((rd_T33 x0 x3).f1)).bind fun t123 => (if t123 ≥ 0 then (some false) else (table_Rising.l0 k x0 (wrap64 (x3 + 1))))) else (none)) else (none)) else (none)) else (some true)
def table_Rising.f (k : Nat) (l0 : List (S33)) : Option (Bool) := table_Rising.l0 k l0 1
theorem table_Rising.mono_l : ∀ k, (∀ y0 y1, LeO (table_Rising.l0 k y0 y1) (table_Rising.l0 (k + 1) y0 y1))
  | 0 => fun _ _ r h => by simp [table_Rising.l0] at h
  | k + 1 => by
    have ih0 := table_Rising.mono_l k
    · intro y0 y1
      unfold table_Rising.l0
      repeat' first
      | (with_reducible exact ih0 _ _)
      | (with_reducible exact table_Compare.mono _ _ _ _ _)
      | (with_reducible exact LeO.refl _)
      | (with_reducible exact LeO.none _)
      | (with_reducible refine LeO.ite ?_ ?_)
      | (with_reducible refine LeO.bind ?_ (fun _ => ?_))
      | exact ih0 _ _
      | exact table_Compare.mono _ _ _ _ _
      | exact LeO.none _
      | refine LeO.ite ?_ ?_
      | refine LeO.bind ?_ (fun _ => ?_)
theorem table_Rising.mono : ∀ a0 k, LeO (table_Rising.f k a0) (table_Rising.f (k + 1) a0) := by
  intro a0 k
  have ih0 := table_Rising.mono_l k
  unfold table_Rising.f
  repeat' first
      | (with_reducible exact ih0 _ _)
      | (with_reducible exact table_Compare.mono _ _ _ _ _)
      | (with_reducible exact LeO.refl _)
      | (with_reducible exact LeO.none _)
      | (with_reducible refine LeO.ite ?_ ?_)
      | (with_reducible refine LeO.bind ?_ (fun _ => ?_))
      | exact ih0 _ _
      | exact table_Compare.mono _ _ _ _ _
      | exact LeO.none _
      | refine LeO.ite ?_ ?_
      | refine LeO.bind ?_ (fun _ => ?_)
def table_Rising.T4 : Bool × List (List Nat × List Nat) := (true, [([], []), ([], []), ([1], [1]), ([0, 2], [0, 2]), ([3], [3]), ([], []), ([], []), ([5, 6], [5, 6]), ([7], [7]), ([4, 8], [4, 8]), ([9], [9])])
def table_Rising.B4 : List Nat := [0, 0, 2, 7, 15, 0, 0, 96, 224, 511, 1023]
theorem table_Rising.tab4 : rtab .any (opsOf Try.f48 4) = table_Rising.T4 := by kernel_rfl
theorem table_Rising.bits4 : waitsOk table_Rising.T4.2 table_Rising.B4 = true := by kernel_rfl
set_option maxHeartbeats 8000000 in
set_option maxRecDepth 100000 in
theorem table_Rising.calls (k : Nat) (A0 : Option Addr) (c0 : Nat) (l0 : List (S33)) (r : Bool) (w : World) (hr0 : Kd.C k33 w A0 l0.length l0) (hc0 : l0.length ≤ c0) (h : table_Rising.f k l0 = some r) :
    Calls Try.prog 48 #[.slice A0 l0.length c0] w fun e w' => e = .returned (.bool r) ∧ Below w.heap.size w w' := by
  have hu33 := Try.underlying33
  have HR0 := Aside0.mk hr0
  have HC0 := Aside0.mk hc0
  clear hr0 hc0
  have HB := Aside0.mk (Below.refl w.heap.size w)
  have H : (table_Rising.l0 k l0 1) = some r := h
  clear h
  have H' := Aside0.mk H
  clear H
  go_enter Try.func48, Try.ntmps48
  go_wp2
  go_loopg [3] k (fun kq v3 w' => ∃ (x3_1 : Int), v3 = .int .i64 x3_1 ∧ Aside0 (table_Rising.l0 kq l0 x3_1 = some r) ∧ Aside0 (kq ≤ k) ∧ Aside0 (Below w.heap.size w w'))
  case atStart => exact ⟨(1), (by first | rfl | (simp; done) | (simp [*]; done) | (simp; exact (fun l : List UInt8 => (by cases l <;> rfl : l.isEmpty = !(l != ([] : List UInt8)))) _)), H', ⟨Nat.le_refl _⟩, ⟨by repeat (first | (with_reducible first | exact HB.out | apply below_alloc | apply pw_below_drewN | apply below_drew1) | exact HB.out)⟩⟩
  case round =>
    clear H'
    obtain ⟨x3_1, rfl, HA, HK1, HB⟩ := hrel
    cases gk with
    | zero => exact absurd HA.out (by simp [table_Rising.l0])
    | succ k1 =>
      have H := HA.out
      clear HA
      simp only [table_Rising.l0] at H
      by_cases c2 : x3_1 < (l0.length : Int)
      · rw [if_pos c2] at H
        have c2b0 : decide (x3_1 < (l0.length : Int)) = true := decide_eq_true c2
        clear c2
        obtain ⟨ji3, hji3⟩ : ∃ j_ : Int, (wrap64 (x3_1 - 1)) = j_ := ⟨_, rfl⟩
        replace H : (if 0 ≤ (ji3) then (if (ji3) < (l0.length : Int) then (if 0 ≤ x3_1 then ((table_Compare.f k1 ((rd_T33 l0 (ji3)).f0) ((rd_T33 l0 (ji3)).f1) ((rd_T33 l0 x3_1).f0) ((rd_T33 l0 x3_1).f1)).bind fun t123 => (if t123 ≥ 0 then (some false) else (table_Rising.l0 k1 l0 (wrap64 (x3_1 + 1))))) else (none)) else (none)) else (none)) = some r := by first | (rw [hji3] at H; exact H) | (simp only [hji3] at H ⊢; exact H)
        have hji3w : (IntKind.i64.wrap (x3_1 - 1)) = ji3 := (i64_w _).trans hji3
        by_cases c4 : 0 ≤ (ji3)
        · rw [if_pos c4] at H
          have c4b0 : decide (0 ≤ (ji3)) = true := decide_eq_true c4
          clear c4
          by_cases c5 : (ji3) < (l0.length : Int)
          · rw [if_pos c5] at H
            have c5b0 : decide ((ji3) < (l0.length : Int)) = true := decide_eq_true c5
            clear c5
            by_cases c6 : 0 ≤ x3_1
            · rw [if_pos c6] at H
              have c6b0 : decide (0 ≤ x3_1) = true := decide_eq_true c6
              clear c6
              replace H := Option.bind_eq_some_iff.mp H
              obtain ⟨t123, A70, H⟩ := H
              replace H : (if t123 ≥ 0 then (some false) else (table_Rising.l0 k1 l0 (wrap64 (x3_1 + 1)))) = some r := H
              have A7 := Aside0.mk A70
              clear A70
              by_cases c8 : t123 ≥ 0
              · rw [if_pos c8] at H
                have c8b0 : decide (0 ≤ t123) = true := decide_eq_true c8
                clear c8
                obtain rfl := Option.some.inj H
                try go_wp2
                have n0_ := Aside0.mk (below_drew1 HB.out)
                clear HB
                have HB := n0_
                clear n0_
                have p121 : 0 ≤ ((ji3) : Int) := of_decide_eq_true (by first | (with_reducible assumption) | assumption)
                have q121 : (ji3) < (l0.length : Int) := of_decide_eq_true (by first | (with_reducible assumption) | assumption)
                obtain ⟨ad121, e121, hx121_0, hx121_1⟩ := at_T33 HR0.out (ji3) p121 q121
                have hw121_1 := hx121_1
                have hw121_0 := hx121_0
                cases e121
                replace hx121_0 := (HB.out.cell (World.block_lt_of_cell? w _ hx121_0)).trans hx121_0
                replace hx121_1 := (HB.out.cell (World.block_lt_of_cell? w _ hx121_1)).trans hx121_1
                replace p121 := eq_true p121
                replace q121 := eq_true q121
                have p122 : 0 ≤ (x3_1 : Int) := of_decide_eq_true (by first | (with_reducible assumption) | assumption)
                have q122 : x3_1 < (l0.length : Int) := of_decide_eq_true (by first | (with_reducible assumption) | assumption)
                obtain ⟨ad122, e122, hx122_0, hx122_1⟩ := at_T33 HR0.out x3_1 p122 q122
                have hw122_1 := hx122_1
                have hw122_0 := hx122_0
                obtain rfl : ad121 = ad122 := (by injection e122)
                replace hx122_0 := (HB.out.cell (World.block_lt_of_cell? w _ hx122_0)).trans hx122_0
                replace hx122_1 := (HB.out.cell (World.block_lt_of_cell? w _ hx122_1)).trans hx122_1
                replace p122 := eq_true p122
                replace q122 := eq_true q122
                refine start_ (n := 11) (S := fun w' => w'.cell? (ad121.add (((ji3)).toNat * 2)) = some (.int .u64 ((rd_T33 l0 (ji3)).f0)) ∧ w'.cell? ⟨(ad121.add (((ji3)).toNat * 2)).block, (ad121.add (((ji3)).toNat * 2)).off + 1, none⟩ = some (.int .u32 ((rd_T33 l0 (ji3)).f1)) ∧ w'.cell? (ad121.add ((x3_1).toNat * 2)) = some (.int .u64 ((rd_T33 l0 x3_1).f0)) ∧ w'.cell? ⟨(ad121.add ((x3_1).toNat * 2)).block, (ad121.add ((x3_1).toNat * 2)).off + 1, none⟩ = some (.int .u32 ((rd_T33 l0 x3_1).f1))) (ds := []) #[false, false, false, false, false, false, false, false, false, false, false] (by kernel_rfl) rfl rfl ⟨((HB.out.cell (World.block_lt_of_cell? w _ hw121_0)).trans hw121_0), ((HB.out.cell (World.block_lt_of_cell? w _ hw121_1)).trans hw121_1), ((HB.out.cell (World.block_lt_of_cell? w _ hw122_0)).trans hw122_0), ((HB.out.cell (World.block_lt_of_cell? w _ hw122_1)).trans hw122_1)⟩ (fun hHeld => ?_); refine with_tabW table_Rising.tab4 table_Rising.bits4 (fun HT_ HW_ => ?_)
                generalize wr.drew = w9 at HB hx121_0 hx121_1 hx122_0 hx122_1 hHeld ⊢
                refine pure_ (i := 0) (N := some 10) (v := ?_) (a' := ?_) #[true, false, false, false, false, false, false, false, false, false, false] rfl rfl (any_of HT_.out (by kernel_rfl)) (fun _ _ _ h => h) (Or.inl ⟨by rfl, ?_⟩) ?_ ?_
                rotate_left
                · intro w'
                  go_simp
                  with_reducible rfl
                rotate_left
                · simp only [Act.put, List.setIfInBounds_toArray, List.set_cons_zero, List.set_cons_succ, i64_w, i32_w]
                  rfl
                refine pure_ (i := 1) (N := some 11) (v := ?_) (a' := ?_) #[true, true, false, false, false, false, false, false, false, false, false] rfl rfl (any_of HT_.out (by kernel_rfl)) (fun _ _ _ h => h) (Or.inl ⟨by rfl, ?_⟩) ?_ ?_
                rotate_left
                · intro w'
                  go_simp
                  with_reducible rfl
                rotate_left
                · simp only [Act.put, List.setIfInBounds_toArray, List.set_cons_zero, List.set_cons_succ, i64_w, i32_w]
                  rfl
                refine pure_ (i := 2) (N := some 12) (v := ?_) (a' := ?_) #[true, true, true, false, false, false, false, false, false, false, false] rfl rfl (any_of HT_.out (by kernel_rfl)) (fun _ _ _ h => h) (Or.inl ⟨by rfl, ?_⟩) ?_ ?_
                rotate_left
                · intro w'
                  go_simp
                  with_reducible rfl
                rotate_left
                · simp only [Act.put, List.setIfInBounds_toArray, List.set_cons_zero, List.set_cons_succ, i64_w, i32_w]
                  rfl
                refine pure_ (i := 3) (N := some 13) (v := ?_) (a' := ?_) #[true, true, true, true, false, false, false, false, false, false, false] rfl rfl (any_of HT_.out (by kernel_rfl)) (fun _ _ _ h => h) (Or.inl ⟨by rfl, ?_⟩) ?_ ?_
                rotate_left
                · intro w'
                  go_simp
                  with_reducible rfl
                rotate_left
                · simp only [Act.put, List.setIfInBounds_toArray, List.set_cons_zero, List.set_cons_succ, i64_w, i32_w]
                  rfl
                refine pure_ (i := 5) (N := some 15) (v := ?_) (a' := ?_) #[true, true, true, true, false, true, false, false, false, false, false] rfl rfl (any_of HT_.out (by kernel_rfl)) (fun _ _ _ h => h) (Or.inl ⟨by rfl, ?_⟩) ?_ ?_
                rotate_left
                · intro w'
                  go_simp
                  with_reducible rfl
                rotate_left
                · simp only [Act.put, List.setIfInBounds_toArray, List.set_cons_zero, List.set_cons_succ, i64_w, i32_w]
                  rfl
                refine pure_ (i := 6) (N := some 16) (v := ?_) (a' := ?_) #[true, true, true, true, false, true, true, false, false, false, false] rfl rfl (any_of HT_.out (by kernel_rfl)) (fun _ _ _ h => h) (Or.inl ⟨by rfl, ?_⟩) ?_ ?_
                rotate_left
                · intro w'
                  go_simp
                  with_reducible rfl
                rotate_left
                · simp only [Act.put, List.setIfInBounds_toArray, List.set_cons_zero, List.set_cons_succ, i64_w, i32_w]
                  rfl
                refine pure_ (i := 7) (N := some 17) (v := ?_) (a' := ?_) #[true, true, true, true, false, true, true, true, false, false, false] rfl rfl (any_of HT_.out (by kernel_rfl)) (fun _ _ _ h => h) (Or.inl ⟨by rfl, ?_⟩) ?_ ?_
                rotate_left
                · intro w'
                  go_simp
                  with_reducible rfl
                rotate_left
                · simp only [Act.put, List.setIfInBounds_toArray, List.set_cons_zero, List.set_cons_succ, i64_w, i32_w]
                  rfl
                refine take_ (i := 4) (N := some 14) (v := ?_) (a' := ?_) #[true, true, true, true, true, true, true, true, false, false, false] rfl rfl (take_ofW HT_.out HW_.out (by kernel_rfl)) (fun _ _ _ h => h) (Or.inl ⟨by rfl, ?_⟩) hHeld ?_ ?_
                rotate_left
                · rintro w' ⟨s0, s1, s2, s3⟩
                  go_simp
                  with_reducible rfl
                rotate_left
                · simp only [Act.put, List.setIfInBounds_toArray, List.set_cons_zero, List.set_cons_succ, i64_w, i32_w]
                  rfl
                refine take_ (i := 8) (N := some 18) (v := ?_) (a' := ?_) #[true, true, true, true, true, true, true, true, true, false, false] rfl rfl (take_ofW HT_.out HW_.out (by kernel_rfl)) (fun _ _ _ h => h) (Or.inl ⟨by rfl, ?_⟩) hHeld ?_ ?_
                rotate_left
                · rintro w' ⟨s0, s1, s2, s3⟩
                  go_simp
                  with_reducible rfl
                rotate_left
                · simp only [Act.put, List.setIfInBounds_toArray, List.set_cons_zero, List.set_cons_succ, i64_w, i32_w]
                  rfl
                refine one_ (i := 9) (N := some 19) #[true, true, true, true, true, true, true, true, true, true, false] rfl rfl (one_of HT_.out (by kernel_rfl)) (by decide) (fun K hK => ?_)
                refine goes_ Try.func100 (by kernel_rfl) rfl #[.agg #[.int .u64 ((rd_T33 l0 (ji3)).f0), .int .u32 ((rd_T33 l0 (ji3)).f1)], .agg #[.int .u64 ((rd_T33 l0 x3_1).f0), .int .u32 ((rd_T33 l0 x3_1).f1)]] (by rfl) rfl rfl (by (try simp only [List.map_toArray, List.map_cons, List.map_nil]); first | done | (simp only [hji3]; rfl) | rfl | (simp only [List.length_drop, List.length_take]; rfl)) ?_
                with_reducible refine (table_Compare.calls k1 ((rd_T33 l0 (ji3)).f0) ((rd_T33 l0 (ji3)).f1) ((rd_T33 l0 x3_1).f0) ((rd_T33 l0 x3_1).f1) t123 _ A7.out).mono ?_
                rintro e w10 ⟨rfl, hb⟩
                refine ⟨_, rfl, ?_⟩
                have n0_ := Aside0.mk (below_step (by repeat (first | (with_reducible first | exact HB.out | apply below_alloc | apply pw_below_drewN | apply below_drew1) | exact HB.out)) hb)
                clear HB
                have HB := n0_
                clear n0_
                (try clear hb)
                (try clear hb2)
                (try clear hk)
                (try clear hi)
                refine hK.out _ _ ⟨((HB.out.cell (World.block_lt_of_cell? w _ hw121_0)).trans hw121_0), ((HB.out.cell (World.block_lt_of_cell? w _ hw121_1)).trans hw121_1), ((HB.out.cell (World.block_lt_of_cell? w _ hw122_0)).trans hw122_0), ((HB.out.cell (World.block_lt_of_cell? w _ hw122_1)).trans hw122_1)⟩ (fun hHeld => ?_)
                clear hK K
                refine norm_ (a' := ?_) ?_ ?_
                rotate_left
                · show Act.put _ (some 19) _ = _
                  simp only [Act.put, List.setIfInBounds_toArray, List.set_cons_zero, List.set_cons_succ, i64_w, i32_w]
                  rfl
                refine pure_ (i := 10) (N := some 20) (v := ?_) (a' := ?_) #[true, true, true, true, true, true, true, true, true, true, true] rfl rfl (any_of HT_.out (by kernel_rfl)) (fun _ _ _ h => h) (Or.inl ⟨by rfl, ?_⟩) ?_ ?_
                rotate_left
                · intro w'
                  go_simp
                  with_reducible rfl
                rotate_left
                · simp only [Act.put, List.setIfInBounds_toArray, List.set_cons_zero, List.set_cons_succ, i64_w, i32_w]
                  rfl
                refine done_ (done_of HT_.out (by kernel_rfl)) ?_
                try go_wp2
                go_ret
                exact ⟨by first | rfl | (simp [errW_none, errW_some] <;> rfl) | (simp only [← hji3]; first | rfl | (simp [errW_none, errW_some] <;> rfl)) | (simp [*, errW_none, errW_some] <;> rfl), by repeat (first | (with_reducible first | exact HB.out | apply below_alloc | apply pw_below_drewN | apply below_drew1) | exact HB.out)⟩
              · rw [if_neg c8] at H
                have c8b0 : decide (0 ≤ t123) = false := decide_eq_false c8
                clear c8
                have H' := Aside0.mk H
                clear H
                try go_wp2
                have n0_ := Aside0.mk (below_drew1 HB.out)
                clear HB
                have HB := n0_
                clear n0_
                have p121 : 0 ≤ ((ji3) : Int) := of_decide_eq_true (by first | (with_reducible assumption) | assumption)
                have q121 : (ji3) < (l0.length : Int) := of_decide_eq_true (by first | (with_reducible assumption) | assumption)
                obtain ⟨ad121, e121, hx121_0, hx121_1⟩ := at_T33 HR0.out (ji3) p121 q121
                have hw121_1 := hx121_1
                have hw121_0 := hx121_0
                cases e121
                replace hx121_0 := (HB.out.cell (World.block_lt_of_cell? w _ hx121_0)).trans hx121_0
                replace hx121_1 := (HB.out.cell (World.block_lt_of_cell? w _ hx121_1)).trans hx121_1
                replace p121 := eq_true p121
                replace q121 := eq_true q121
                have p122 : 0 ≤ (x3_1 : Int) := of_decide_eq_true (by first | (with_reducible assumption) | assumption)
                have q122 : x3_1 < (l0.length : Int) := of_decide_eq_true (by first | (with_reducible assumption) | assumption)
                obtain ⟨ad122, e122, hx122_0, hx122_1⟩ := at_T33 HR0.out x3_1 p122 q122
                have hw122_1 := hx122_1
                have hw122_0 := hx122_0
                obtain rfl : ad121 = ad122 := (by injection e122)
                replace hx122_0 := (HB.out.cell (World.block_lt_of_cell? w _ hx122_0)).trans hx122_0
                replace hx122_1 := (HB.out.cell (World.block_lt_of_cell? w _ hx122_1)).trans hx122_1
                replace p122 := eq_true p122
                replace q122 := eq_true q122
                refine start_ (n := 11) (S := fun w' => w'.cell? (ad121.add (((ji3)).toNat * 2)) = some (.int .u64 ((rd_T33 l0 (ji3)).f0)) ∧ w'.cell? ⟨(ad121.add (((ji3)).toNat * 2)).block, (ad121.add (((ji3)).toNat * 2)).off + 1, none⟩ = some (.int .u32 ((rd_T33 l0 (ji3)).f1)) ∧ w'.cell? (ad121.add ((x3_1).toNat * 2)) = some (.int .u64 ((rd_T33 l0 x3_1).f0)) ∧ w'.cell? ⟨(ad121.add ((x3_1).toNat * 2)).block, (ad121.add ((x3_1).toNat * 2)).off + 1, none⟩ = some (.int .u32 ((rd_T33 l0 x3_1).f1))) (ds := []) #[false, false, false, false, false, false, false, false, false, false, false] (by kernel_rfl) rfl rfl ⟨((HB.out.cell (World.block_lt_of_cell? w _ hw121_0)).trans hw121_0), ((HB.out.cell (World.block_lt_of_cell? w _ hw121_1)).trans hw121_1), ((HB.out.cell (World.block_lt_of_cell? w _ hw122_0)).trans hw122_0), ((HB.out.cell (World.block_lt_of_cell? w _ hw122_1)).trans hw122_1)⟩ (fun hHeld => ?_); refine with_tabW table_Rising.tab4 table_Rising.bits4 (fun HT_ HW_ => ?_)
                generalize wr.drew = w11 at HB hx121_0 hx121_1 hx122_0 hx122_1 hHeld ⊢
                refine pure_ (i := 0) (N := some 10) (v := ?_) (a' := ?_) #[true, false, false, false, false, false, false, false, false, false, false] rfl rfl (any_of HT_.out (by kernel_rfl)) (fun _ _ _ h => h) (Or.inl ⟨by rfl, ?_⟩) ?_ ?_
                rotate_left
                · intro w'
                  go_simp
                  with_reducible rfl
                rotate_left
                · simp only [Act.put, List.setIfInBounds_toArray, List.set_cons_zero, List.set_cons_succ, i64_w, i32_w]
                  rfl
                refine pure_ (i := 1) (N := some 11) (v := ?_) (a' := ?_) #[true, true, false, false, false, false, false, false, false, false, false] rfl rfl (any_of HT_.out (by kernel_rfl)) (fun _ _ _ h => h) (Or.inl ⟨by rfl, ?_⟩) ?_ ?_
                rotate_left
                · intro w'
                  go_simp
                  with_reducible rfl
                rotate_left
                · simp only [Act.put, List.setIfInBounds_toArray, List.set_cons_zero, List.set_cons_succ, i64_w, i32_w]
                  rfl
                refine pure_ (i := 2) (N := some 12) (v := ?_) (a' := ?_) #[true, true, true, false, false, false, false, false, false, false, false] rfl rfl (any_of HT_.out (by kernel_rfl)) (fun _ _ _ h => h) (Or.inl ⟨by rfl, ?_⟩) ?_ ?_
                rotate_left
                · intro w'
                  go_simp
                  with_reducible rfl
                rotate_left
                · simp only [Act.put, List.setIfInBounds_toArray, List.set_cons_zero, List.set_cons_succ, i64_w, i32_w]
                  rfl
                refine pure_ (i := 3) (N := some 13) (v := ?_) (a' := ?_) #[true, true, true, true, false, false, false, false, false, false, false] rfl rfl (any_of HT_.out (by kernel_rfl)) (fun _ _ _ h => h) (Or.inl ⟨by rfl, ?_⟩) ?_ ?_
                rotate_left
                · intro w'
                  go_simp
                  with_reducible rfl
                rotate_left
                · simp only [Act.put, List.setIfInBounds_toArray, List.set_cons_zero, List.set_cons_succ, i64_w, i32_w]
                  rfl
                refine pure_ (i := 5) (N := some 15) (v := ?_) (a' := ?_) #[true, true, true, true, false, true, false, false, false, false, false] rfl rfl (any_of HT_.out (by kernel_rfl)) (fun _ _ _ h => h) (Or.inl ⟨by rfl, ?_⟩) ?_ ?_
                rotate_left
                · intro w'
                  go_simp
                  with_reducible rfl
                rotate_left
                · simp only [Act.put, List.setIfInBounds_toArray, List.set_cons_zero, List.set_cons_succ, i64_w, i32_w]
                  rfl
                refine pure_ (i := 6) (N := some 16) (v := ?_) (a' := ?_) #[true, true, true, true, false, true, true, false, false, false, false] rfl rfl (any_of HT_.out (by kernel_rfl)) (fun _ _ _ h => h) (Or.inl ⟨by rfl, ?_⟩) ?_ ?_
                rotate_left
                · intro w'
                  go_simp
                  with_reducible rfl
                rotate_left
                · simp only [Act.put, List.setIfInBounds_toArray, List.set_cons_zero, List.set_cons_succ, i64_w, i32_w]
                  rfl
                refine pure_ (i := 7) (N := some 17) (v := ?_) (a' := ?_) #[true, true, true, true, false, true, true, true, false, false, false] rfl rfl (any_of HT_.out (by kernel_rfl)) (fun _ _ _ h => h) (Or.inl ⟨by rfl, ?_⟩) ?_ ?_
                rotate_left
                · intro w'
                  go_simp
                  with_reducible rfl
                rotate_left
                · simp only [Act.put, List.setIfInBounds_toArray, List.set_cons_zero, List.set_cons_succ, i64_w, i32_w]
                  rfl
                refine take_ (i := 4) (N := some 14) (v := ?_) (a' := ?_) #[true, true, true, true, true, true, true, true, false, false, false] rfl rfl (take_ofW HT_.out HW_.out (by kernel_rfl)) (fun _ _ _ h => h) (Or.inl ⟨by rfl, ?_⟩) hHeld ?_ ?_
                rotate_left
                · rintro w' ⟨s0, s1, s2, s3⟩
                  go_simp
                  with_reducible rfl
                rotate_left
                · simp only [Act.put, List.setIfInBounds_toArray, List.set_cons_zero, List.set_cons_succ, i64_w, i32_w]
                  rfl
                refine take_ (i := 8) (N := some 18) (v := ?_) (a' := ?_) #[true, true, true, true, true, true, true, true, true, false, false] rfl rfl (take_ofW HT_.out HW_.out (by kernel_rfl)) (fun _ _ _ h => h) (Or.inl ⟨by rfl, ?_⟩) hHeld ?_ ?_
                rotate_left
                · rintro w' ⟨s0, s1, s2, s3⟩
                  go_simp
                  with_reducible rfl
                rotate_left
                · simp only [Act.put, List.setIfInBounds_toArray, List.set_cons_zero, List.set_cons_succ, i64_w, i32_w]
                  rfl
                refine one_ (i := 9) (N := some 19) #[true, true, true, true, true, true, true, true, true, true, false] rfl rfl (one_of HT_.out (by kernel_rfl)) (by decide) (fun K hK => ?_)
                refine goes_ Try.func100 (by kernel_rfl) rfl #[.agg #[.int .u64 ((rd_T33 l0 (ji3)).f0), .int .u32 ((rd_T33 l0 (ji3)).f1)], .agg #[.int .u64 ((rd_T33 l0 x3_1).f0), .int .u32 ((rd_T33 l0 x3_1).f1)]] (by rfl) rfl rfl (by (try simp only [List.map_toArray, List.map_cons, List.map_nil]); first | done | (simp only [hji3]; rfl) | rfl | (simp only [List.length_drop, List.length_take]; rfl)) ?_
                with_reducible refine (table_Compare.calls k1 ((rd_T33 l0 (ji3)).f0) ((rd_T33 l0 (ji3)).f1) ((rd_T33 l0 x3_1).f0) ((rd_T33 l0 x3_1).f1) t123 _ A7.out).mono ?_
                rintro e w12 ⟨rfl, hb⟩
                refine ⟨_, rfl, ?_⟩
                have n0_ := Aside0.mk (below_step (by repeat (first | (with_reducible first | exact HB.out | apply below_alloc | apply pw_below_drewN | apply below_drew1) | exact HB.out)) hb)
                clear HB
                have HB := n0_
                clear n0_
                (try clear hb)
                (try clear hb2)
                (try clear hk)
                (try clear hi)
                refine hK.out _ _ ⟨((HB.out.cell (World.block_lt_of_cell? w _ hw121_0)).trans hw121_0), ((HB.out.cell (World.block_lt_of_cell? w _ hw121_1)).trans hw121_1), ((HB.out.cell (World.block_lt_of_cell? w _ hw122_0)).trans hw122_0), ((HB.out.cell (World.block_lt_of_cell? w _ hw122_1)).trans hw122_1)⟩ (fun hHeld => ?_)
                clear hK K
                refine norm_ (a' := ?_) ?_ ?_
                rotate_left
                · show Act.put _ (some 19) _ = _
                  simp only [Act.put, List.setIfInBounds_toArray, List.set_cons_zero, List.set_cons_succ, i64_w, i32_w]
                  rfl
                refine pure_ (i := 10) (N := some 20) (v := ?_) (a' := ?_) #[true, true, true, true, true, true, true, true, true, true, true] rfl rfl (any_of HT_.out (by kernel_rfl)) (fun _ _ _ h => h) (Or.inl ⟨by rfl, ?_⟩) ?_ ?_
                rotate_left
                · intro w'
                  go_simp
                  with_reducible rfl
                rotate_left
                · simp only [Act.put, List.setIfInBounds_toArray, List.set_cons_zero, List.set_cons_succ, i64_w, i32_w]
                  rfl
                refine done_ (done_of HT_.out (by kernel_rfl)) ?_
                try go_wp2
                go_roundg k1
                case measure => have := HK1.out; omega
                case rel => exact ⟨(wrap64 (x3_1 + 1)), (by first | rfl | (simp; done) | (simp [*]; done) | (simp; exact (fun l : List UInt8 => (by cases l <;> rfl : l.isEmpty = !(l != ([] : List UInt8)))) _)), H', ⟨by have := HK1.out; omega⟩, ⟨by repeat (first | (with_reducible first | exact HB.out | apply below_alloc | apply pw_below_drewN | apply below_drew1) | exact HB.out)⟩⟩
            · rw [if_neg c6] at H
              exact absurd H (by simp)
          · rw [if_neg c5] at H
            exact absurd H (by simp)
        · rw [if_neg c4] at H
          exact absurd H (by simp)
      · rw [if_neg c2] at H
        have c2b0 : decide (x3_1 < (l0.length : Int)) = false := decide_eq_false c2
        clear c2
        obtain rfl := Option.some.inj H
        go_wp2
        go_ret
        exact ⟨by first | rfl | (simp [errW_none, errW_some] <;> rfl) | (simp [*, errW_none, errW_some] <;> rfl), by repeat (first | (with_reducible first | exact HB.out | apply below_alloc | apply pw_below_drewN | apply below_drew1) | exact HB.out)⟩
def table_Rising.Pure : Prop := ∀ (l0 : List (S33)), l0.length ≤ maxLen → l0.length * 16 ≤ 140737488351232 → (∀ y ∈ l0, (((Lit.int .u64 y.f0).wf = true) ∧ ((Lit.int .u32 y.f1).wf = true))) → ∃ k, table_Rising.f k l0 = some true
def fence_Count.f (a0 : Int) : Option (Int) := some (wrap64 (Int.tdiv (wrap64 ((wrap64 ((mx 0 a0) + 16)) - 1)) 16))
set_option maxHeartbeats 8000000 in
set_option maxRecDepth 100000 in
theorem fence_Count.calls (a0 : Int) (r : Int) (w : World) (h : fence_Count.f a0 = some r) :
    Calls Try.prog 43 #[.int .i64 a0] w fun e w' => e = .returned (.int .i64 r) ∧ Below w.heap.size w w' := by
  have HB := Aside0.mk (Below.refl w.heap.size w)
  have H : (some (wrap64 (Int.tdiv (wrap64 ((wrap64 ((mx 0 a0) + 16)) - 1)) 16))) = some r := h
  clear h
  obtain ⟨ji2, hji2⟩ : ∃ j_ : Int, (mx 0 a0) = j_ := ⟨_, rfl⟩
  replace H : (some (wrap64 (Int.tdiv (wrap64 ((wrap64 ((ji2) + 16)) - 1)) 16))) = some r := by first | (rw [hji2] at H; exact H) | (simp only [hji2] at H ⊢; exact H)
  (try (have hji2l : 0 ≤ ji2 := by (rw [← hji2]; unfold mx; (repeat' split) <;> omega)))
  (try (have hji2m : 0 ≤ ji2 := by omega))
  have hji2_ : (if 0 < a0 then a0 else 0) = ji2 := hji2
  obtain rfl := Option.some.inj H
  go_enter Try.func43, Try.ntmps43
  go_wp2
  go_ret
  exact ⟨by first | rfl | (simp [errW_none, errW_some] <;> rfl) | (simp only [← hji2]; first | rfl | (simp [errW_none, errW_some] <;> rfl)) | (simp [*, errW_none, errW_some] <;> rfl), by repeat (first | (with_reducible first | exact HB.out | apply below_alloc | apply pw_below_drewN | apply below_drew1) | exact HB.out)⟩
def cobs_Most.f (a0 : Int) : Option (Int) := if a0 ≤ 0 then (some 1) else (some (wrap64 ((wrap64 (a0 + 1)) + (wrap64 (Int.tdiv (wrap64 (a0 - 1)) 254)))))
set_option maxHeartbeats 8000000 in
set_option maxRecDepth 100000 in
theorem cobs_Most.calls (a0 : Int) (r : Int) (w : World) (h : cobs_Most.f a0 = some r) :
    Calls Try.prog 64 #[.int .i64 a0] w fun e w' => e = .returned (.int .i64 r) ∧ Drawn0 w w' := by
  have H : (if a0 ≤ 0 then (some 1) else (some (wrap64 ((wrap64 (a0 + 1)) + (wrap64 (Int.tdiv (wrap64 (a0 - 1)) 254)))))) = some r := h
  clear h
  by_cases c2 : a0 ≤ 0
  · rw [if_pos c2] at H
    have c2b0 : decide (a0 ≤ 0) = true := decide_eq_true c2
    clear c2
    obtain rfl := Option.some.inj H
    go_enter Try.func64, Try.ntmps64
    go_wp2
    go_ret
    exact ⟨by first | rfl | (simp; done) | (simp [*]; done), by repeat (first | exact Drawn0.refl _ | apply Drawn0.step)⟩
  · rw [if_neg c2] at H
    have c2b0 : decide (a0 ≤ 0) = false := decide_eq_false c2
    clear c2
    obtain rfl := Option.some.inj H
    go_enter Try.func64, Try.ntmps64
    go_wp2
    go_ret
    exact ⟨by first | rfl | (simp; done) | (simp [*]; done), by repeat (first | exact Drawn0.refl _ | apply Drawn0.step)⟩
def frame_Size.f (a0 : Int) : Option (Int) := (cobs_Most.f (wrap64 ((mx 0 a0) + 8))).bind fun t124 => (some (wrap64 (t124 + 1)))
set_option maxHeartbeats 8000000 in
set_option maxRecDepth 100000 in
theorem frame_Size.calls (a0 : Int) (r : Int) (w : World) (h : frame_Size.f a0 = some r) :
    Calls Try.prog 23 #[.int .i64 a0] w fun e w' => e = .returned (.int .i64 r) ∧ Below w.heap.size w w' := by
  have HB := Aside0.mk (Below.refl w.heap.size w)
  have H : ((cobs_Most.f (wrap64 ((mx 0 a0) + 8))).bind fun t124 => (some (wrap64 (t124 + 1)))) = some r := h
  clear h
  obtain ⟨ji2, hji2⟩ : ∃ j_ : Int, (mx 0 a0) = j_ := ⟨_, rfl⟩
  replace H : ((cobs_Most.f (wrap64 ((ji2) + 8))).bind fun t124 => (some (wrap64 (t124 + 1)))) = some r := by first | (rw [hji2] at H; exact H) | (simp only [hji2] at H ⊢; exact H)
  (try (have hji2l : 0 ≤ ji2 := by (rw [← hji2]; unfold mx; (repeat' split) <;> omega)))
  (try (have hji2m : 0 ≤ ji2 := by omega))
  have hji2_ : (if 0 < a0 then a0 else 0) = ji2 := hji2
  replace H := Option.bind_eq_some_iff.mp H
  obtain ⟨t124, A30, H⟩ := H
  replace H : (some (wrap64 (t124 + 1))) = some r := H
  have A3 := Aside0.mk A30
  clear A30
  obtain rfl := Option.some.inj H
  go_enter Try.func23, Try.ntmps23
  go_wp2_with (first | ((with_reducible refine gate_callee (f := 64) rfl ?_); refine goesL_ (some 6) rfl rfl Try.func64 (by kernel_rfl) rfl #[.int .i64 (wrap64 ((ji2) + 8))] rfl (by (try simp only [List.map_toArray, List.map_cons, List.map_nil]); first | done | (simp only [hji2]; rfl) | rfl | (simp only [List.length_drop, List.length_take]; rfl)) ?_; (with_reducible refine (cobs_Most.calls (wrap64 ((ji2) + 8)) t124 _ A3.out).mono ?_); rintro e w' ⟨rfl, ⟨nd, rfl⟩⟩; refine ⟨_, rfl, ?_⟩))
  go_ret
  exact ⟨by first | rfl | (simp [errW_none, errW_some] <;> rfl) | (simp only [← hji2]; first | rfl | (simp [errW_none, errW_some] <;> rfl)) | (simp [*, errW_none, errW_some] <;> rfl), by repeat (first | (with_reducible first | exact HB.out | apply below_alloc | apply pw_below_drewN | apply below_drew1) | exact HB.out)⟩
def bits_RotateLeft64.f (a0 : Int) (a1 : Int) : Option (Int) := if 0 ≤ (Go.bits .and .u64 (IntKind.u64.wrap (a1)) 63) then (if 0 ≤ (IntKind.u64.wrap (64 - (Go.bits .and .u64 (IntKind.u64.wrap (a1)) 63))) then (some (Go.bits .or .u64 (shl .u64 a0 (Go.bits .and .u64 (IntKind.u64.wrap (a1)) 63)) (shr .u64 a0 (IntKind.u64.wrap (64 - (Go.bits .and .u64 (IntKind.u64.wrap (a1)) 63)))))) else (none)) else (none)
set_option maxHeartbeats 8000000 in
set_option maxRecDepth 100000 in
theorem bits_RotateLeft64.calls (a0 : Int) (a1 : Int) (r : Int) (w : World) (h : bits_RotateLeft64.f a0 a1 = some r) :
    Calls Try.prog 146 #[.int .u64 a0, .int .i64 a1] w fun e w' => e = .returned (.int .u64 r) ∧ Drawn0 w w' := by
  have H : (if 0 ≤ (Go.bits .and .u64 (IntKind.u64.wrap (a1)) 63) then (if 0 ≤ (IntKind.u64.wrap (64 - (Go.bits .and .u64 (IntKind.u64.wrap (a1)) 63))) then (some (Go.bits .or .u64 (shl .u64 a0 (Go.bits .and .u64 (IntKind.u64.wrap (a1)) 63)) (shr .u64 a0 (IntKind.u64.wrap (64 - (Go.bits .and .u64 (IntKind.u64.wrap (a1)) 63)))))) else (none)) else (none)) = some r := h
  clear h
  obtain ⟨ji3, hji3⟩ : ∃ j_ : Int, (Go.bits .and .u64 (IntKind.u64.wrap (a1)) 63) = j_ := ⟨_, rfl⟩
  replace H : (if 0 ≤ (ji3) then (if 0 ≤ (IntKind.u64.wrap (64 - (ji3))) then (some (Go.bits .or .u64 (shl .u64 a0 (ji3)) (shr .u64 a0 (IntKind.u64.wrap (64 - (ji3)))))) else (none)) else (none)) = some r := by first | (rw [hji3] at H; exact H) | (simp only [hji3] at H ⊢; exact H)
  by_cases c4 : 0 ≤ (ji3)
  · rw [if_pos c4] at H
    have c4b0 := eq_true c4
    have c4b1 : decide (0 ≤ (ji3)) = true := decide_eq_true c4
    clear c4
    obtain ⟨ji5, hji5⟩ : ∃ j_ : Int, (shl .u64 a0 (ji3)) = j_ := ⟨_, rfl⟩
    replace H : (if 0 ≤ (IntKind.u64.wrap (64 - (ji3))) then (some (Go.bits .or .u64 (ji5) (shr .u64 a0 (IntKind.u64.wrap (64 - (ji3)))))) else (none)) = some r := by first | (rw [hji5] at H; exact H) | (simp only [hji5] at H ⊢; exact H)
    have hji5_ : (IntKind.u64.wrap (a0 * 2 ^ min (ji3).toNat 64)) = ji5 := hji5
    have hji5z : (ji3) ≤ 64 → (IntKind.u64.wrap (a0 * 2 ^ (ji3).toNat)) = ji5 := shl_small hji5
    obtain ⟨ji6, hji6⟩ : ∃ j_ : Int, (IntKind.u64.wrap (64 - (ji3))) = j_ := ⟨_, rfl⟩
    replace H : (if 0 ≤ (ji6) then (some (Go.bits .or .u64 (ji5) (shr .u64 a0 (ji6)))) else (none)) = some r := by first | (rw [hji6] at H; exact H) | (simp only [hji6] at H ⊢; exact H)
    by_cases c7 : 0 ≤ (ji6)
    · rw [if_pos c7] at H
      have c7b0 := eq_true c7
      have c7b1 : decide (0 ≤ (ji6)) = true := decide_eq_true c7
      clear c7
      obtain ⟨ji8, hji8⟩ : ∃ j_ : Int, (shr .u64 a0 (ji6)) = j_ := ⟨_, rfl⟩
      replace H : (some (Go.bits .or .u64 (ji5) (ji8))) = some r := by first | (rw [hji8] at H; exact H) | (simp only [hji8] at H ⊢; exact H)
      have hji8_ : (a0 / 2 ^ min (ji6).toNat 64) = ji8 := hji8
      have hji8z : (ji6) ≤ 64 → (a0 / 2 ^ (ji6).toNat) = ji8 := shr_small hji8
      obtain rfl := Option.some.inj H
      go_enter Try.func146, Try.ntmps146
      go_wp2
      go_ret
      exact ⟨by first | rfl | (simp; done) | (simp only [← hji3, ← hji5, ← hji6, ← hji8] <;> (first | rfl | simp)) | (simp [*]; done), by repeat (first | exact Drawn0.refl _ | apply Drawn0.step)⟩
    · rw [if_neg c7] at H
      exact absurd H (by simp)
  · rw [if_neg c4] at H
    exact absurd H (by simp)
def wide_num.l0 : Nat → List Int → Int → Int → Int → Option (Int)
  | 0, _, _, _, _ => none
  | k + 1, x0, x5, x7, x8 => if x8 < x7 then (if 0 ≤ x8 then (if x8 < (x0.length : Int) then (if 0 ≤ (wrap64 (8 * x8)) then (wide_num.l0 k x0 (Go.bits .or .u64 x5 (shl .u64 (IntKind.u64.wrap (rd x0 x8)) (wrap64 (8 * x8)))) x7 (wrap64 (x8 + 1))) else (none)) else (none)) else (none)) else (some x5)
def wide_num.f (k : Nat) (l0 : List Int) (a1 : Int) : Option (Int) := wide_num.l0 k l0 0 a1 0
theorem wide_num.mono_l : ∀ k, (∀ y0 y1 y2 y3, LeO (wide_num.l0 k y0 y1 y2 y3) (wide_num.l0 (k + 1) y0 y1 y2 y3))
  | 0 => fun _ _ _ _ r h => by simp [wide_num.l0] at h
  | k + 1 => by
    have ih0 := wide_num.mono_l k
    · intro y0 y1 y2 y3
      unfold wide_num.l0
      repeat' first
      | (with_reducible exact ih0 _ _ _ _)
      | (with_reducible exact LeO.refl _)
      | (with_reducible exact LeO.none _)
      | (with_reducible refine LeO.ite ?_ ?_)
      | (with_reducible refine LeO.bind ?_ (fun _ => ?_))
      | exact ih0 _ _ _ _
      | exact LeO.none _
      | refine LeO.ite ?_ ?_
      | refine LeO.bind ?_ (fun _ => ?_)
theorem wide_num.mono : ∀ a0 a1 k, LeO (wide_num.f k a0 a1) (wide_num.f (k + 1) a0 a1) := by
  intro a0 a1 k
  have ih0 := wide_num.mono_l k
  unfold wide_num.f
  repeat' first
      | (with_reducible exact ih0 _ _ _ _)
      | (with_reducible exact LeO.refl _)
      | (with_reducible exact LeO.none _)
      | (with_reducible refine LeO.ite ?_ ?_)
      | (with_reducible refine LeO.bind ?_ (fun _ => ?_))
      | exact ih0 _ _ _ _
      | exact LeO.none _
      | refine LeO.ite ?_ ?_
      | refine LeO.bind ?_ (fun _ => ?_)
set_option maxHeartbeats 8000000 in
set_option maxRecDepth 100000 in
theorem wide_num.calls (k : Nat) (A0 : Option Addr) (c0 : Nat) (l0 : List Int) (a1 : Int) (r : Int) (w : World) (hr0 : Kd.C (Kd.int .u8) w A0 l0.length l0) (hc0 : l0.length ≤ c0) (h : wide_num.f k l0 a1 = some r) :
    Calls Try.prog 144 #[.slice A0 l0.length c0, .int .i64 a1] w fun e w' => e = .returned (.int .u64 r) ∧ Drawn0 w w' := by
  have HR0 := Aside0.mk hr0
  have HC0 := Aside0.mk hc0
  clear hr0 hc0
  have H : (wide_num.l0 k l0 0 a1 0) = some r := h
  clear h
  have H' := Aside0.mk H
  clear H
  go_enter Try.func144, Try.ntmps144
  go_wp2
  go_loopg [5, 8] k (fun kq v5 v8 w' => ∃ (x5_1 : Int) (x8_1 : Int), v5 = .int .u64 x5_1 ∧ v8 = .int .i64 x8_1 ∧ Aside0 (wide_num.l0 kq l0 x5_1 a1 x8_1 = some r) ∧ Aside0 (kq ≤ k) ∧ Drawn0 w w')
  case atStart => exact ⟨(0), (0), (by first | rfl | (simp; done) | (simp [*]; done) | (simp; exact (fun l : List UInt8 => (by cases l <;> rfl : l.isEmpty = !(l != ([] : List UInt8)))) _)), (by first | rfl | (simp; done) | (simp [*]; done) | (simp; exact (fun l : List UInt8 => (by cases l <;> rfl : l.isEmpty = !(l != ([] : List UInt8)))) _)), H', ⟨Nat.le_refl _⟩, by repeat (first | exact Drawn0.refl _ | apply Drawn0.step)⟩
  case round =>
    clear H'
    try clear c1
    try clear p2
    obtain ⟨x5_1, x8_1, rfl, rfl, HA, HK1, ⟨m1, rfl⟩⟩ := hrel
    cases gk with
    | zero => exact absurd HA.out (by simp [wide_num.l0])
    | succ k1 =>
      have H := HA.out
      clear HA
      simp only [wide_num.l0] at H
      by_cases c3 : x8_1 < a1
      · rw [if_pos c3] at H
        have c3b0 : decide (x8_1 < a1) = true := decide_eq_true c3
        clear c3
        by_cases c4 : 0 ≤ x8_1
        · rw [if_pos c4] at H
          have c4b0 : decide (0 ≤ x8_1) = true := decide_eq_true c4
          clear c4
          by_cases c5 : x8_1 < (l0.length : Int)
          · rw [if_pos c5] at H
            have c5b0 : decide (x8_1 < (l0.length : Int)) = true := decide_eq_true c5
            clear c5
            obtain ⟨ji6, hji6⟩ : ∃ j_ : Int, (wrap64 (8 * x8_1)) = j_ := ⟨_, rfl⟩
            replace H : (if 0 ≤ (ji6) then (wide_num.l0 k1 l0 (Go.bits .or .u64 x5_1 (shl .u64 (IntKind.u64.wrap (rd l0 x8_1)) (ji6))) a1 (wrap64 (x8_1 + 1))) else (none)) = some r := by first | (rw [hji6] at H; exact H) | (simp only [hji6] at H ⊢; exact H)
            have hji6w : (IntKind.i64.wrap (8 * x8_1)) = ji6 := (i64_w _).trans hji6
            by_cases c7 : 0 ≤ (ji6)
            · rw [if_pos c7] at H
              have c7b0 := eq_true c7
              have c7b1 : decide (0 ≤ (ji6)) = true := decide_eq_true c7
              clear c7
              obtain ⟨ji8, hji8⟩ : ∃ j_ : Int, (shl .u64 (IntKind.u64.wrap (rd l0 x8_1)) (ji6)) = j_ := ⟨_, rfl⟩
              replace H : (wide_num.l0 k1 l0 (Go.bits .or .u64 x5_1 (ji8)) a1 (wrap64 (x8_1 + 1))) = some r := by first | (rw [hji8] at H; exact H) | (simp only [hji8] at H ⊢; exact H)
              have hji8_ : (IntKind.u64.wrap ((IntKind.u64.wrap (rd l0 x8_1)) * 2 ^ min (ji6).toNat 64)) = ji8 := hji8
              have hji8z : (ji6) ≤ 64 → (IntKind.u64.wrap ((IntKind.u64.wrap (rd l0 x8_1)) * 2 ^ (ji6).toNat)) = ji8 := shl_small hji8
              have H' := Aside0.mk H
              clear H
              have p125 : 0 ≤ (x8_1 : Int) := of_decide_eq_true (by first | (with_reducible assumption) | assumption)
              have q125 : x8_1 < (l0.length : Int) := of_decide_eq_true (by first | (with_reducible assumption) | assumption)
              obtain ⟨ad125, e125, hx125_0⟩ := Kd.at_int HR0.out x8_1 p125 q125
              cases e125
              replace p125 := eq_true p125
              replace q125 := eq_true q125
              go_wp2
              go_roundg k1
              case measure => have := HK1.out; omega
              case rel => exact ⟨(Go.bits .or .u64 x5_1 (ji8)), (wrap64 (x8_1 + 1)), (by first | rfl | (simp; done) | (simp only [← hji8] <;> (first | rfl | simp)) | (simp [*]; done)), (by first | rfl | (simp; done) | (simp [*]; done) | (simp; exact (fun l : List UInt8 => (by cases l <;> rfl : l.isEmpty = !(l != ([] : List UInt8)))) _)), H', ⟨by have := HK1.out; omega⟩, by repeat (first | exact Drawn0.refl _ | apply Drawn0.step)⟩
            · rw [if_neg c7] at H
              exact absurd H (by simp)
          · rw [if_neg c5] at H
            exact absurd H (by simp)
        · rw [if_neg c4] at H
          exact absurd H (by simp)
      · rw [if_neg c3] at H
        have c3b0 : decide (x8_1 < a1) = false := decide_eq_false c3
        clear c3
        obtain rfl := Option.some.inj H
        go_wp2
        go_ret
        exact ⟨by first | rfl | (simp; done) | (simp [*]; done), by repeat (first | exact Drawn0.refl _ | apply Drawn0.step)⟩
def wide_into.f (a0 : Int) (a1 : Int) : Option (Int) := (bits_RotateLeft64.f (IntKind.u64.wrap (a0 + (IntKind.u64.wrap (a1 * 14029467366897019727)))) 31).bind fun t126 => (some (IntKind.u64.wrap (t126 * 11400714785074694791)))
set_option maxHeartbeats 8000000 in
set_option maxRecDepth 100000 in
theorem wide_into.calls (a0 : Int) (a1 : Int) (r : Int) (w : World) (h : wide_into.f a0 a1 = some r) :
    Calls Try.prog 143 #[.int .u64 a0, .int .u64 a1] w fun e w' => e = .returned (.int .u64 r) ∧ Drawn0 w w' := by
  have H : ((bits_RotateLeft64.f (IntKind.u64.wrap (a0 + (IntKind.u64.wrap (a1 * 14029467366897019727)))) 31).bind fun t126 => (some (IntKind.u64.wrap (t126 * 11400714785074694791)))) = some r := h
  clear h
  replace H := Option.bind_eq_some_iff.mp H
  obtain ⟨t126, A30, H⟩ := H
  replace H : (some (IntKind.u64.wrap (t126 * 11400714785074694791))) = some r := H
  have A3 := Aside0.mk A30
  clear A30
  obtain rfl := Option.some.inj H
  go_enter Try.func143, Try.ntmps143
  go_wp2_with (first | ((with_reducible refine gate_callee (f := 146) rfl ?_); refine goesL_ (some 9) rfl rfl Try.func146 (by kernel_rfl) rfl #[.int .u64 (IntKind.u64.wrap (a0 + (IntKind.u64.wrap (a1 * 14029467366897019727)))), .int .i64 31] rfl (by (try simp only [List.map_toArray, List.map_cons, List.map_nil]); first | done | rfl | (simp only [List.length_drop, List.length_take]; rfl) | (refine congrArg (fun z => #[Value.int .u64 z]) ?_; rw [IntKind.wrap_u64]; omega)) ?_; (with_reducible refine (bits_RotateLeft64.calls (IntKind.u64.wrap (a0 + (IntKind.u64.wrap (a1 * 14029467366897019727)))) 31 t126 _ A3.out).mono ?_); rintro e w' ⟨rfl, ⟨nd, rfl⟩⟩; refine ⟨_, rfl, ?_⟩))
  go_ret
  exact ⟨by first | rfl | (simp; done) | (simp [*]; done), by repeat (first | exact Drawn0.refl _ | apply Drawn0.step)⟩
def fascicleref04_turn.l0 : Nat → Int → Int → Int → Option (Int)
  | 0, _, _, _ => none
  | k + 1, x0, x6, x7 => if x7 < x6 then (fascicleref04_turn.l0 k (IntKind.u64.wrap ((IntKind.u64.wrap (2 * x0)) + (IntKind.u64.wrap (Int.tdiv x0 9223372036854775808)))) x6 (wrap64 (x7 + 1))) else (some x0)
def fascicleref04_turn.f (k : Nat) (a0 : Int) (a1 : Int) : Option (Int) := fascicleref04_turn.l0 k a0 a1 0
theorem fascicleref04_turn.mono_l : ∀ k, (∀ y0 y1 y2, LeO (fascicleref04_turn.l0 k y0 y1 y2) (fascicleref04_turn.l0 (k + 1) y0 y1 y2))
  | 0 => fun _ _ _ r h => by simp [fascicleref04_turn.l0] at h
  | k + 1 => by
    have ih0 := fascicleref04_turn.mono_l k
    · intro y0 y1 y2
      unfold fascicleref04_turn.l0
      repeat' first
      | (with_reducible exact ih0 _ _ _)
      | (with_reducible exact LeO.refl _)
      | (with_reducible exact LeO.none _)
      | (with_reducible refine LeO.ite ?_ ?_)
      | (with_reducible refine LeO.bind ?_ (fun _ => ?_))
      | exact ih0 _ _ _
      | exact LeO.none _
      | refine LeO.ite ?_ ?_
      | refine LeO.bind ?_ (fun _ => ?_)
theorem fascicleref04_turn.mono : ∀ a0 a1 k, LeO (fascicleref04_turn.f k a0 a1) (fascicleref04_turn.f (k + 1) a0 a1) := by
  intro a0 a1 k
  have ih0 := fascicleref04_turn.mono_l k
  unfold fascicleref04_turn.f
  repeat' first
      | (with_reducible exact ih0 _ _ _)
      | (with_reducible exact LeO.refl _)
      | (with_reducible exact LeO.none _)
      | (with_reducible refine LeO.ite ?_ ?_)
      | (with_reducible refine LeO.bind ?_ (fun _ => ?_))
      | exact ih0 _ _ _
      | exact LeO.none _
      | refine LeO.ite ?_ ?_
      | refine LeO.bind ?_ (fun _ => ?_)
set_option maxHeartbeats 8000000 in
set_option maxRecDepth 100000 in
theorem fascicleref04_turn.calls (k : Nat) (a0 : Int) (a1 : Int) (r : Int) (w : World) (h : fascicleref04_turn.f k a0 a1 = some r) :
    Calls Try.prog 119 #[.int .u64 a0, .int .i64 a1] w fun e w' => e = .returned (.int .u64 r) ∧ Drawn0 w w' := by
  have H : (fascicleref04_turn.l0 k a0 a1 0) = some r := h
  clear h
  have H' := Aside0.mk H
  clear H
  go_enter Try.func119, Try.ntmps119
  go_wp2
  go_loopg [0, 7] k (fun kq v0 v7 w' => ∃ (x0_1 : Int) (x7_1 : Int), v0 = .int .u64 x0_1 ∧ v7 = .int .i64 x7_1 ∧ Aside0 (fascicleref04_turn.l0 kq x0_1 a1 x7_1 = some r) ∧ Aside0 (kq ≤ k) ∧ Drawn0 w w')
  case atStart => exact ⟨(a0), (0), (by first | rfl | (simp; done) | (simp [*]; done) | (simp; exact (fun l : List UInt8 => (by cases l <;> rfl : l.isEmpty = !(l != ([] : List UInt8)))) _)), (by first | rfl | (simp; done) | (simp [*]; done) | (simp; exact (fun l : List UInt8 => (by cases l <;> rfl : l.isEmpty = !(l != ([] : List UInt8)))) _)), H', ⟨Nat.le_refl _⟩, by repeat (first | exact Drawn0.refl _ | apply Drawn0.step)⟩
  case round =>
    clear H'
    try clear c1
    try clear p2
    obtain ⟨x0_1, x7_1, rfl, rfl, HA, HK1, ⟨m1, rfl⟩⟩ := hrel
    cases gk with
    | zero => exact absurd HA.out (by simp [fascicleref04_turn.l0])
    | succ k1 =>
      have H := HA.out
      clear HA
      simp only [fascicleref04_turn.l0] at H
      by_cases c3 : x7_1 < a1
      · rw [if_pos c3] at H
        have c3b0 : decide (x7_1 < a1) = true := decide_eq_true c3
        clear c3
        have H' := Aside0.mk H
        clear H
        go_wp2
        go_roundg k1
        case measure => have := HK1.out; omega
        case rel => exact ⟨(IntKind.u64.wrap ((IntKind.u64.wrap (2 * x0_1)) + (IntKind.u64.wrap (Int.tdiv x0_1 9223372036854775808)))), (wrap64 (x7_1 + 1)), (by first | rfl | (simp; done) | (simp [*]; done) | (simp; exact (fun l : List UInt8 => (by cases l <;> rfl : l.isEmpty = !(l != ([] : List UInt8)))) _)), (by first | rfl | (simp; done) | (simp [*]; done) | (simp; exact (fun l : List UInt8 => (by cases l <;> rfl : l.isEmpty = !(l != ([] : List UInt8)))) _)), H', ⟨by have := HK1.out; omega⟩, by repeat (first | exact Drawn0.refl _ | apply Drawn0.step)⟩
      · rw [if_neg c3] at H
        have c3b0 : decide (x7_1 < a1) = false := decide_eq_false c3
        clear c3
        obtain rfl := Option.some.inj H
        go_wp2
        go_ret
        exact ⟨by first | rfl | (simp; done) | (simp [*]; done), by repeat (first | exact Drawn0.refl _ | apply Drawn0.step)⟩
end Go.Proofs.Ytekanmieppnpeaa.G
end
section
namespace Go.Proofs.Ytekanmieppnpeaa.G
open Go.RowKit Go.Proofs.YtekanmieppnpeaaW.PrintWords Go.Proofs.YtekanmieppnpeaaW.PrintLast Go.Proofs.YtekanmieppnpeaaW.PrintMore
attribute [local go_sem] max2_int min2_int max_two min_two max_three min_three max_four min_four   -- for this text's walks alone
set_option linter.unusedVariables false
set_option linter.unusedSimpArgs false
attribute [local go_sem high] eqA135
def fasciclelaw11_Same.l0 : Nat → List (S33) → List (S135) → Int → Int → Option (Bool)
  | 0, _, _, _, _ => none
  | k + 1, x0, x1, x12, x13 => if x13 < x12 then (if 0 ≤ x13 then (if x13 < (x0.length : Int) then (if x13 < (x1.length : Int) then (if (!(((rd_T33 x0 x13).f0) == ((rd_T135 x1 x13).f0)) || (!(((rd_T33 x0 x13).f1) == ((rd_T135 x1 x13).f1)))) = true then (some false) else (fasciclelaw11_Same.l0 k x0 x1 x12 (wrap64 (x13 + 1)))) else (none)) else (none)) else (none)) else (some true)
def fasciclelaw11_Same.f (k : Nat) (l0 : List (S33)) (l1 : List (S135)) : Option (Bool) := if (l0.length : Int) = (l1.length : Int) then (fasciclelaw11_Same.l0 k l0 l1 (l0.length : Int) 0) else (some false)
theorem fasciclelaw11_Same.mono_l : ∀ k, (∀ y0 y1 y2 y3, LeO (fasciclelaw11_Same.l0 k y0 y1 y2 y3) (fasciclelaw11_Same.l0 (k + 1) y0 y1 y2 y3))
  | 0 => fun _ _ _ _ r h => by simp [fasciclelaw11_Same.l0] at h
  | k + 1 => by
    have ih0 := fasciclelaw11_Same.mono_l k
    · intro y0 y1 y2 y3
      unfold fasciclelaw11_Same.l0
      repeat' first
      | (with_reducible exact ih0 _ _ _ _)
      | (with_reducible exact LeO.refl _)
      | (with_reducible exact LeO.none _)
      | (with_reducible refine LeO.ite ?_ ?_)
      | (with_reducible refine LeO.bind ?_ (fun _ => ?_))
      | exact ih0 _ _ _ _
      | exact LeO.none _
      | refine LeO.ite ?_ ?_
      | refine LeO.bind ?_ (fun _ => ?_)
theorem fasciclelaw11_Same.mono : ∀ a0 a1 k, LeO (fasciclelaw11_Same.f k a0 a1) (fasciclelaw11_Same.f (k + 1) a0 a1) := by
  intro a0 a1 k
  have ih0 := fasciclelaw11_Same.mono_l k
  unfold fasciclelaw11_Same.f
  repeat' first
      | (with_reducible exact ih0 _ _ _ _)
      | (with_reducible exact LeO.refl _)
      | (with_reducible exact LeO.none _)
      | (with_reducible refine LeO.ite ?_ ?_)
      | (with_reducible refine LeO.bind ?_ (fun _ => ?_))
      | exact ih0 _ _ _ _
      | exact LeO.none _
      | refine LeO.ite ?_ ?_
      | refine LeO.bind ?_ (fun _ => ?_)
set_option maxHeartbeats 8000000 in
set_option maxRecDepth 100000 in
theorem fasciclelaw11_Same.calls (k : Nat) (A0 : Option Addr) (c0 : Nat) (l0 : List (S33)) (A1 : Option Addr) (c1 : Nat) (l1 : List (S135)) (r : Bool) (w : World) (hr0 : Kd.C k33 w A0 l0.length l0) (hc0 : l0.length ≤ c0) (hr1 : Kd.C k135 w A1 l1.length l1) (hc1 : l1.length ≤ c1) (h : fasciclelaw11_Same.f k l0 l1 = some r) :
    Calls Try.prog 91 #[.slice A0 l0.length c0, .slice A1 l1.length c1] w fun e w' => e = .returned (.bool r) ∧ Drawn0 w w' := by
  have hu33 := Try.underlying33
  have hu135 := Try.underlying135
  have HR0 := Aside0.mk hr0
  have HC0 := Aside0.mk hc0
  clear hr0 hc0
  have HR1 := Aside0.mk hr1
  have HC1 := Aside0.mk hc1
  clear hr1 hc1
  have H : (if (l0.length : Int) = (l1.length : Int) then (fasciclelaw11_Same.l0 k l0 l1 (l0.length : Int) 0) else (some false)) = some r := h
  clear h
  by_cases c3 : (l0.length : Int) = (l1.length : Int)
  · rw [if_pos c3] at H
    have c3b0 : ((l0.length : Int) == (l1.length : Int)) = true := beq_iff_eq.mpr c3
    have c3b1 : ((l0.length : Int) != (l1.length : Int)) = false := bne_eq_false_iff_eq.mpr c3
    have c3b2 : (l0.length == l1.length) = true := by first | simpa using c3 | (simp at c3 ⊢; omega)
    clear c3
    have H' := Aside0.mk H
    clear H
    go_enter Try.func91, Try.ntmps91
    go_wp2
    repeat (go_quiet (fail); try go_wp2)
    go_loopg [13] k (fun kq v13 w' => ∃ (x13_1 : Int), v13 = .int .i64 x13_1 ∧ Aside0 (fasciclelaw11_Same.l0 kq l0 l1 (l0.length : Int) x13_1 = some r) ∧ Aside0 (kq ≤ k) ∧ Drawn0 w w')
    case atStart => exact ⟨(0), (by first | rfl | (simp; done) | (simp [*]; done) | (simp; exact (fun l : List UInt8 => (by cases l <;> rfl : l.isEmpty = !(l != ([] : List UInt8)))) _)), H', ⟨Nat.le_refl _⟩, by repeat (first | exact Drawn0.refl _ | apply Drawn0.step)⟩
    case round =>
      clear H'
      try clear c1
      try clear p2
      try clear c3
      try clear c3b0
      try clear c3b1
      try clear c3b2
      obtain ⟨x13_1, rfl, HA, HK1, ⟨m1, rfl⟩⟩ := hrel
      cases gk with
      | zero => exact absurd HA.out (by simp [fasciclelaw11_Same.l0])
      | succ k1 =>
        have H := HA.out
        clear HA
        simp only [fasciclelaw11_Same.l0] at H
        by_cases c4 : x13_1 < (l0.length : Int)
        · rw [if_pos c4] at H
          have c4b0 : decide (x13_1 < (l0.length : Int)) = true := decide_eq_true c4
          clear c4
          by_cases c5 : 0 ≤ x13_1
          · rw [if_pos c5] at H
            have c5b0 : decide (0 ≤ x13_1) = true := decide_eq_true c5
            clear c5
            by_cases c6 : x13_1 < (l0.length : Int)
            · rw [if_pos c6] at H
              have c6b0 : decide (x13_1 < (l0.length : Int)) = true := decide_eq_true c6
              clear c6
              by_cases c7 : x13_1 < (l1.length : Int)
              · rw [if_pos c7] at H
                have c7b0 : decide (x13_1 < (l1.length : Int)) = true := decide_eq_true c7
                clear c7
                by_cases c8 : (!(((rd_T33 l0 x13_1).f0) == ((rd_T135 l1 x13_1).f0)) || (!(((rd_T33 l0 x13_1).f1) == ((rd_T135 l1 x13_1).f1)))) = true
                · rw [if_pos c8] at H
                  have c8b0 : (!(((rd_T33 l0 x13_1).f0) == ((rd_T135 l1 x13_1).f0)) || (!(((rd_T33 l0 x13_1).f1) == ((rd_T135 l1 x13_1).f1)))) = true := c8
                  clear c8
                  obtain rfl := Option.some.inj H
                  have p183 : 0 ≤ (x13_1 : Int) := of_decide_eq_true (by first | (with_reducible assumption) | assumption)
                  have q183 : x13_1 < (l0.length : Int) := of_decide_eq_true (by first | (with_reducible assumption) | assumption)
                  obtain ⟨ad183, e183, hx183_0, hx183_1⟩ := at_T33 HR0.out x13_1 p183 q183
                  cases e183
                  replace p183 := eq_true p183
                  replace q183 := eq_true q183
                  have p184 : 0 ≤ (x13_1 : Int) := of_decide_eq_true (by first | (with_reducible assumption) | assumption)
                  have q184 : x13_1 < (l1.length : Int) := of_decide_eq_true (by first | (with_reducible assumption) | assumption)
                  obtain ⟨ad184, e184, hx184_0, hx184_1⟩ := at_T135 HR1.out x13_1 p184 q184
                  cases e184
                  replace p184 := eq_true p184
                  replace q184 := eq_true q184
                  go_wp2
                  repeat (go_quiet (fail); try go_wp2)
                  go_ret
                  exact ⟨by first | rfl | (simp; done) | (simp [*]; done), by repeat (first | exact Drawn0.refl _ | apply Drawn0.step)⟩
                · rw [if_neg c8] at H
                  have c8b0 : (!(((rd_T33 l0 x13_1).f0) == ((rd_T135 l1 x13_1).f0)) || (!(((rd_T33 l0 x13_1).f1) == ((rd_T135 l1 x13_1).f1)))) = false := by simpa using c8
                  clear c8
                  have H' := Aside0.mk H
                  clear H
                  have p183 : 0 ≤ (x13_1 : Int) := of_decide_eq_true (by first | (with_reducible assumption) | assumption)
                  have q183 : x13_1 < (l0.length : Int) := of_decide_eq_true (by first | (with_reducible assumption) | assumption)
                  obtain ⟨ad183, e183, hx183_0, hx183_1⟩ := at_T33 HR0.out x13_1 p183 q183
                  cases e183
                  replace p183 := eq_true p183
                  replace q183 := eq_true q183
                  have p184 : 0 ≤ (x13_1 : Int) := of_decide_eq_true (by first | (with_reducible assumption) | assumption)
                  have q184 : x13_1 < (l1.length : Int) := of_decide_eq_true (by first | (with_reducible assumption) | assumption)
                  obtain ⟨ad184, e184, hx184_0, hx184_1⟩ := at_T135 HR1.out x13_1 p184 q184
                  cases e184
                  replace p184 := eq_true p184
                  replace q184 := eq_true q184
                  go_wp2
                  repeat (go_quiet (fail); try go_wp2)
                  go_roundg k1
                  case measure => have := HK1.out; omega
                  case rel => exact ⟨(wrap64 (x13_1 + 1)), (by first | rfl | (simp; done) | (simp [*]; done) | (simp; exact (fun l : List UInt8 => (by cases l <;> rfl : l.isEmpty = !(l != ([] : List UInt8)))) _)), H', ⟨by have := HK1.out; omega⟩, by repeat (first | exact Drawn0.refl _ | apply Drawn0.step)⟩
              · rw [if_neg c7] at H
                exact absurd H (by simp)
            · rw [if_neg c6] at H
              exact absurd H (by simp)
          · rw [if_neg c5] at H
            exact absurd H (by simp)
        · rw [if_neg c4] at H
          have c4b0 : decide (x13_1 < (l0.length : Int)) = false := decide_eq_false c4
          clear c4
          obtain rfl := Option.some.inj H
          go_wp2
          repeat (go_quiet (fail); try go_wp2)
          go_ret
          exact ⟨by first | rfl | (simp; done) | (simp [*]; done), by repeat (first | exact Drawn0.refl _ | apply Drawn0.step)⟩
  · rw [if_neg c3] at H
    have c3b0 : ((l0.length : Int) == (l1.length : Int)) = false := beq_eq_false_iff_ne.mpr c3
    have c3b1 : ((l0.length : Int) != (l1.length : Int)) = true := bne_iff_ne.mpr c3
    have c3b2 : (l0.length == l1.length) = false := by first | simpa using c3 | (simp at c3 ⊢; omega)
    obtain rfl := Option.some.inj H
    go_enter Try.func91, Try.ntmps91
    go_wp2
    repeat (go_quiet (fail); try go_wp2)
    go_ret
    exact ⟨by first | rfl | (simp; done) | (simp [*]; done), by repeat (first | exact Drawn0.refl _ | apply Drawn0.step)⟩
def fasciclelaw11_Same.Pure : Prop := ∀ (l0 : List (S33)) (l1 : List (S135)), l0.length ≤ maxLen → l0.length * 16 ≤ 140737488351232 → (∀ y ∈ l0, (((Lit.int .u64 y.f0).wf = true) ∧ ((Lit.int .u32 y.f1).wf = true))) → l1.length ≤ maxLen → l1.length * 16 ≤ 140737488351232 → (∀ y ∈ l1, (((Lit.int .u64 y.f0).wf = true) ∧ ((Lit.int .u32 y.f1).wf = true))) → ∃ k, fasciclelaw11_Same.f k l0 l1 = some true
def footer_Most.f (a0 : Int) : Option (Int) := (fence_Count.f (mx 0 a0)).bind fun t185 => ((frame_Size.f (wrap64 ((wrap64 (9 + (wrap64 (12 * (mx 0 a0))))) + (wrap64 (8 * t185))))).bind fun t186 => (some t186))
set_option maxHeartbeats 8000000 in
set_option maxRecDepth 100000 in
theorem footer_Most.calls (a0 : Int) (r : Int) (w : World) (h : footer_Most.f a0 = some r) :
    Calls Try.prog 14 #[.int .i64 a0] w fun e w' => e = .returned (.int .i64 r) ∧ Below w.heap.size w w' := by
  have HB := Aside0.mk (Below.refl w.heap.size w)
  have H : ((fence_Count.f (mx 0 a0)).bind fun t185 => ((frame_Size.f (wrap64 ((wrap64 (9 + (wrap64 (12 * (mx 0 a0))))) + (wrap64 (8 * t185))))).bind fun t186 => (some t186))) = some r := h
  clear h
  obtain ⟨ji2, hji2⟩ : ∃ j_ : Int, (mx 0 a0) = j_ := ⟨_, rfl⟩
  replace H : ((fence_Count.f (ji2)).bind fun t185 => ((frame_Size.f (wrap64 ((wrap64 (9 + (wrap64 (12 * (ji2))))) + (wrap64 (8 * t185))))).bind fun t186 => (some t186))) = some r := by first | (rw [hji2] at H; exact H) | (simp only [hji2] at H ⊢; exact H)
  (try (have hji2l : 0 ≤ ji2 := by (rw [← hji2]; unfold mx; (repeat' split) <;> omega)))
  (try (have hji2m : 0 ≤ ji2 := by omega))
  have hji2_ : (if 0 < a0 then a0 else 0) = ji2 := hji2
  replace H := Option.bind_eq_some_iff.mp H
  obtain ⟨t185, A30, H⟩ := H
  replace H : ((frame_Size.f (wrap64 ((wrap64 (9 + (wrap64 (12 * (ji2))))) + (wrap64 (8 * t185))))).bind fun t186 => (some t186)) = some r := H
  have A3 := Aside0.mk A30
  clear A30
  replace H := Option.bind_eq_some_iff.mp H
  obtain ⟨t186, A40, H⟩ := H
  replace H : (some t186) = some r := H
  have A4 := Aside0.mk A40
  clear A40
  obtain rfl := Option.some.inj H
  go_enter Try.func14, Try.ntmps14
  go_wp2_with (first | ((with_reducible refine gate_callee (f := 43) rfl ?_); refine goesL_ (some 9) rfl rfl Try.func43 (by kernel_rfl) rfl #[.int .i64 ji2] rfl (by (try simp only [List.map_toArray, List.map_cons, List.map_nil]); first | done | (simp only [hji2]; rfl) | rfl | (simp only [List.length_drop, List.length_take]; rfl)) ?_; (with_reducible refine (fence_Count.calls ji2 t185 _ A3.out).mono ?_); rintro e w5 ⟨rfl, hb⟩; refine ⟨_, rfl, ?_⟩; have n0_ := Aside0.mk (below_step (by repeat (first | (with_reducible first | exact HB.out | apply below_alloc | apply pw_below_drewN | apply below_drew1) | exact HB.out)) hb); clear HB; have HB := n0_; clear n0_; (try clear hb); (try clear hb2); (try clear hk); (try clear hi)) | ((with_reducible refine gate_callee (f := 23) rfl ?_); refine goesL_ (some 12) rfl rfl Try.func23 (by kernel_rfl) rfl #[.int .i64 (wrap64 ((wrap64 (9 + (wrap64 (12 * (ji2))))) + (wrap64 (8 * t185))))] rfl (by (try simp only [List.map_toArray, List.map_cons, List.map_nil]); first | done | (simp only [hji2]; rfl) | rfl | (simp only [List.length_drop, List.length_take]; rfl)) ?_; (with_reducible refine (frame_Size.calls (wrap64 ((wrap64 (9 + (wrap64 (12 * (ji2))))) + (wrap64 (8 * t185)))) t186 _ A4.out).mono ?_); rintro e w6 ⟨rfl, hb⟩; refine ⟨_, rfl, ?_⟩; have n0_ := Aside0.mk (below_step (by repeat (first | (with_reducible first | exact HB.out | apply below_alloc | apply pw_below_drewN | apply below_drew1) | exact HB.out)) hb); clear HB; have HB := n0_; clear n0_; (try clear hb); (try clear hb2); (try clear hk); (try clear hi)))
  go_ret
  exact ⟨by first | rfl | (simp [errW_none, errW_some] <;> rfl) | (simp only [← hji2]; first | rfl | (simp [errW_none, errW_some] <;> rfl)) | (simp [*, errW_none, errW_some] <;> rfl), by repeat (first | (with_reducible first | exact HB.out | apply below_alloc | apply pw_below_drewN | apply below_drew1) | exact HB.out)⟩
def fasciclelaw13_lives.f  : Option (Bool) := (footer_Most.f 1).bind fun t187 => (some (t187 == 39))
set_option maxHeartbeats 8000000 in
set_option maxRecDepth 100000 in
theorem fasciclelaw13_lives.calls  (r : Bool) (w : World) (h : fasciclelaw13_lives.f  = some r) :
    Calls Try.prog 13 #[] w fun e w' => e = .returned (.bool r) ∧ Below w.heap.size w w' := by
  have HB := Aside0.mk (Below.refl w.heap.size w)
  have H : ((footer_Most.f 1).bind fun t187 => (some (t187 == 39))) = some r := h
  clear h
  replace H := Option.bind_eq_some_iff.mp H
  obtain ⟨t187, A10, H⟩ := H
  replace H : (some (t187 == 39)) = some r := H
  have A1 := Aside0.mk A10
  clear A10
  obtain rfl := Option.some.inj H
  go_enter Try.func13, Try.ntmps13
  go_wp2_with (first | ((with_reducible refine gate_callee (f := 14) rfl ?_); refine goesL_ (some 1) rfl rfl Try.func14 (by kernel_rfl) rfl #[.int .i64 1] rfl (by (try simp only [List.map_toArray, List.map_cons, List.map_nil]); first | done | rfl | (simp only [List.length_drop, List.length_take]; rfl) | (refine congrArg (fun z => #[Value.int .u64 z]) ?_; rw [IntKind.wrap_u64]; omega)) ?_; (with_reducible refine (footer_Most.calls 1 t187 _ A1.out).mono ?_); rintro e w2 ⟨rfl, hb⟩; refine ⟨_, rfl, ?_⟩; have n0_ := Aside0.mk (below_step (by repeat (first | (with_reducible first | exact HB.out | apply below_alloc | apply pw_below_drewN | apply below_drew1) | exact HB.out)) hb); clear HB; have HB := n0_; clear n0_; (try clear hb); (try clear hb2); (try clear hk); (try clear hi)))
  go_ret
  exact ⟨by first | rfl | (simp [errW_none, errW_some] <;> rfl) | (simp [*, errW_none, errW_some] <;> rfl), by repeat (first | (with_reducible first | exact HB.out | apply below_alloc | apply pw_below_drewN | apply below_drew1) | exact HB.out)⟩
end Go.Proofs.Ytekanmieppnpeaa.G
end
section
set_option linter.unusedVariables false
namespace Go.Proofs.Ytekanmieppnpeaa.Sep
open Go Go.RowKit Go.Proofs.YtekanmieppnpeaaW.PrintWords Go.Proofs.YtekanmieppnpeaaW.PrintLast Go.Proofs.YtekanmieppnpeaaW.PrintMore
structure HP where
  p : World → List Nat → Prop
  loc : ∀ {w w' : World} {bs : List Nat}, p w bs → (∀ b, b ∈ bs → w'.heap[b]? = w.heap[b]?) → p w' bs
def SepL (w : World) : List HP → List Nat → Prop
  | [], bs => bs = []
  | p :: ps, bs => ∃ b1 b2, bs = b1 ++ b2 ∧ p.p w b1 ∧ SepL w ps b2
def Sep (w0 w : World) (ps : List HP) : Prop :=
  Below w0.heap.size w0 w ∧ ∃ bs, SepL w ps bs ∧ bs.Nodup ∧ ∀ b, b ∈ bs → w0.heap.size ≤ b ∧ b < w.heap.size
theorem SepL.move {w w' : World} : ∀ {ps : List HP} {bs : List Nat}, SepL w ps bs → (∀ b, b ∈ bs → w'.heap[b]? = w.heap[b]?) → SepL w' ps bs
  | [], bs, h, _ => h
  | p :: ps, bs, ⟨b1, b2, e, hp, hs⟩, hm => ⟨b1, b2, e, p.loc hp (fun b hb => hm b (by rw [e]; exact List.mem_append_left _ hb)), SepL.move hs (fun b hb => hm b (by rw [e]; exact List.mem_append_right _ hb))⟩
theorem SepL.append {w : World} : ∀ {qs ps : List HP} {b1 b2 : List Nat}, SepL w qs b1 → SepL w ps b2 → SepL w (qs ++ ps) (b1 ++ b2)
  | [], ps, b1, b2, h, h2 => by cases h; simpa using h2
  | q :: qs, ps, b1, b2, ⟨c1, c2, e, hp, hs⟩, h2 => ⟨c1, c2 ++ b2, by rw [e, List.append_assoc], hp, SepL.append hs h2⟩
theorem SepL.split {w : World} : ∀ {qs ps : List HP} {bs : List Nat}, SepL w (qs ++ ps) bs → ∃ b1 b2, bs = b1 ++ b2 ∧ SepL w qs b1 ∧ SepL w ps b2
  | [], ps, bs, h => ⟨[], bs, rfl, rfl, h⟩
  | q :: qs, ps, bs, ⟨c1, c2, e, hp, hs⟩ => by
    obtain ⟨d1, d2, e2, h1, h2⟩ := SepL.split hs
    exact ⟨c1 ++ d1, d2, by rw [e, e2, List.append_assoc], ⟨c1, d1, rfl, hp, h1⟩, h2⟩
theorem SepL.perm {w : World} {ps qs : List HP} (h : ps.Perm qs) : ∀ {bs : List Nat}, SepL w ps bs → ∃ bs', bs.Perm bs' ∧ SepL w qs bs' := by
  induction h with
  | nil => intro bs h; exact ⟨bs, List.Perm.refl _, h⟩
  | cons x _ ih =>
    rintro bs ⟨b1, b2, e, hp, hs⟩
    obtain ⟨b2', hb, hs'⟩ := ih hs
    exact ⟨b1 ++ b2', by rw [e]; exact List.Perm.append_left _ hb, b1, b2', rfl, hp, hs'⟩
  | swap x y l =>
    rintro bs ⟨b1, b2, e, hp, b3, b4, e2, hq, hs⟩
    refine ⟨b3 ++ (b1 ++ b4), ?_, b3, b1 ++ b4, rfl, hq, b1, b4, rfl, hp, hs⟩
    rw [e, e2, ← List.append_assoc, ← List.append_assoc]
    exact List.Perm.append_right _ List.perm_append_comm
  | trans _ _ ih1 ih2 =>
    intro bs h
    obtain ⟨b1, h1, s1⟩ := ih1 h
    obtain ⟨b2, h2, s2⟩ := ih2 s1
    exact ⟨b2, h1.trans h2, s2⟩
theorem Sep.perm {w0 w : World} {ps qs : List HP} (h : Sep w0 w ps) (hp : ps.Perm qs) : Sep w0 w qs := by
  obtain ⟨hb, bs, hs, hn, hr⟩ := h
  obtain ⟨bs', hbp, hs'⟩ := SepL.perm hp hs
  exact ⟨hb, bs', hs', hbp.nodup_iff.1 hn, fun b hb => hr b (hbp.mem_iff.2 hb)⟩
theorem Sep.tail {w0 w : World} {p : HP} {ps : List HP} (h : Sep w0 w (p :: ps)) : Sep w0 w ps := by
  obtain ⟨hb, bs, ⟨b1, b2, e, hp, hs⟩, hn, hr⟩ := h
  exact ⟨hb, b2, hs, (List.nodup_append.1 (e ▸ hn)).2.1, fun b hb => hr b (by rw [e]; exact List.mem_append_right _ hb)⟩
theorem Sep.step {w0 w w' : World} {ps qs rs : List HP} (h : Sep w0 w (ps ++ rs)) (hq : Below 0 w w')
    (k : ∀ b1, SepL w ps b1 → (∀ b, b ∈ b1 → w0.heap.size ≤ b ∧ b < w.heap.size) → b1.Nodup → ∃ b1', SepL w' qs b1' ∧ b1'.Nodup ∧ (∀ b, b ∈ b1' → (b ∈ b1 ∨ w.heap.size ≤ b) ∧ b < w'.heap.size) ∧ ∀ j, j < w.heap.size → j ∉ b1 → w'.heap[j]? = w.heap[j]?) :
    Sep w0 w' (qs ++ rs) := by
  obtain ⟨hb, bs, hs, hn, hr⟩ := h
  obtain ⟨b1, b2, rfl, h1, h2⟩ := SepL.split hs
  obtain ⟨hn1, hn2, hn3⟩ := List.nodup_append.1 hn
  obtain ⟨c1, hc, hcn, hcr, hsame⟩ := k b1 h1 (fun b hb => hr b (List.mem_append_left _ hb)) hn1
  have hlt2 : ∀ b, b ∈ b2 → b < w.heap.size := fun b hb => (hr b (List.mem_append_right _ hb)).2
  have hm2 : ∀ b, b ∈ b2 → w'.heap[b]? = w.heap[b]? := fun b hb => hsame b (hlt2 b hb) (fun h => hn3 b h b hb rfl)
  refine ⟨⟨hq.os.trans hb.os, hq.tape.trans hb.tape, hq.output.trans hb.output, Nat.le_trans hb.size hq.size, fun j hj => ?_⟩, c1 ++ b2, SepL.append hc (SepL.move h2 hm2), ?_, ?_⟩
  · rw [hsame j (Nat.lt_of_lt_of_le hj hb.size) (fun h => absurd hj (Nat.not_lt.2 (hr j (List.mem_append_left _ h)).1)), hb.block j hj]
  · refine List.nodup_append.2 ⟨hcn, hn2, fun a ha b hb e => ?_⟩
    subst e
    rcases (hcr a ha).1 with h | h
    · exact hn3 a h a hb rfl
    · exact absurd (hlt2 a hb) (Nat.not_lt.2 h)
  · intro b hb'
    rcases List.mem_append.1 hb' with h | h
    · refine ⟨?_, (hcr b h).2⟩
      rcases (hcr b h).1 with h' | h'
      · exact (hr b (List.mem_append_left _ h')).1
      · exact Nat.le_trans hb.size h'
    · exact ⟨(hr b (List.mem_append_right _ h)).1, Nat.lt_of_lt_of_le (hlt2 b h) hq.size⟩
theorem Sep.below {w0 w w' : World} {ps : List HP} (h : Sep w0 w ps) (hb : Below w.heap.size w w') : Sep w0 w' ps := by
  have := Sep.step (ps := []) (qs := []) (rs := ps) h ⟨hb.os, hb.tape, hb.output, hb.size, fun j hj => absurd hj (Nat.not_lt_zero j)⟩ (fun b1 h1 _ _ => ⟨[], rfl, List.nodup_nil, (fun b hb => by cases hb), fun j hj _ => hb.block j hj⟩)
  exact this
theorem Sep.drew {w0 w : World} {ps : List HP} (h : Sep w0 w ps) : Sep w0 w.drew ps := h.below (below_drew (Below.refl _ _))
theorem Sep.drewN {w0 w : World} {ps : List HP} (h : Sep w0 w ps) (n : Nat) : Sep w0 (w.drewN n) ps := h.below (pw_below_drewN (Below.refl _ _) n)
theorem Sep.start (w : World) : Sep w w [] := ⟨Below.refl _ _, [], rfl, List.nodup_nil, fun b hb => by cases hb⟩
theorem Sep.pick1 {w0 w : World} {a x : HP} {ps : List HP} (h : Sep w0 w (a :: x :: ps)) : Sep w0 w (x :: a :: ps) := h.perm (List.perm_middle (l₁ := [a]) (a := x) (l₂ := ps))
theorem Sep.put1 {w0 w : World} {a x : HP} {ps : List HP} (h : Sep w0 w (x :: a :: ps)) : Sep w0 w (a :: x :: ps) := h.perm (List.perm_middle (l₁ := [a]) (a := x) (l₂ := ps)).symm
theorem Sep.pick2 {w0 w : World} {a b x : HP} {ps : List HP} (h : Sep w0 w (a :: b :: x :: ps)) : Sep w0 w (x :: a :: b :: ps) := h.perm (List.perm_middle (l₁ := [a, b]) (a := x) (l₂ := ps))
theorem Sep.put2 {w0 w : World} {a b x : HP} {ps : List HP} (h : Sep w0 w (x :: a :: b :: ps)) : Sep w0 w (a :: b :: x :: ps) := h.perm (List.perm_middle (l₁ := [a, b]) (a := x) (l₂ := ps)).symm
theorem Sep.pick3 {w0 w : World} {a b c x : HP} {ps : List HP} (h : Sep w0 w (a :: b :: c :: x :: ps)) : Sep w0 w (x :: a :: b :: c :: ps) := h.perm (List.perm_middle (l₁ := [a, b, c]) (a := x) (l₂ := ps))
theorem Sep.put3 {w0 w : World} {a b c x : HP} {ps : List HP} (h : Sep w0 w (x :: a :: b :: c :: ps)) : Sep w0 w (a :: b :: c :: x :: ps) := h.perm (List.perm_middle (l₁ := [a, b, c]) (a := x) (l₂ := ps)).symm
theorem Sep.pick4 {w0 w : World} {a b c d x : HP} {ps : List HP} (h : Sep w0 w (a :: b :: c :: d :: x :: ps)) : Sep w0 w (x :: a :: b :: c :: d :: ps) := h.perm (List.perm_middle (l₁ := [a, b, c, d]) (a := x) (l₂ := ps))
theorem Sep.dropR {w0 w : World} {R ps : List HP} (h : Sep w0 w (R ++ ps)) : Sep w0 w ps := by
  induction R with
  | nil => exact h
  | cons r R ih => exact ih h.tail
theorem Sep.pickR0 {w0 w : World} {x : HP} {ps : List HP} (R : List HP) (h : Sep w0 w (x :: (R ++ ps))) : Sep w0 w (x :: ps) := (h.perm List.perm_middle.symm).dropR
def blk (g : Nat) (cs : Array Value) (T : TypeId) : HP where
  p := fun w bs => bs = [g] ∧ w.heap[g]? = some (.cells cs T (0, 0))
  loc := fun {w w' bs} h hm => ⟨h.1, by rw [hm g (by rw [h.1]; exact List.mem_singleton.2 rfl)]; exact h.2⟩
theorem Sep.blk_at {w0 w : World} {g : Nat} {cs : Array Value} {T : TypeId} {ps : List HP} (h : Sep w0 w (blk g cs T :: ps)) : w.heap[g]? = some (.cells cs T (0, 0)) ∧ w0.heap.size ≤ g ∧ g < w.heap.size := by
  obtain ⟨hb, bs, ⟨b1, b2, e, ⟨e1, hp⟩, hs⟩, hn, hr⟩ := h
  exact ⟨hp, hr g (by rw [e, e1]; simp)⟩
theorem Sep.alloc {w0 w : World} {ps : List HP} (h : Sep w0 w ps) (cs : Array Value) (T : TypeId) : Sep w0 (w.alloc (.cells cs T (0, 0))) (blk w.heap.size cs T :: ps) := by
  have hb := below_alloc (Below.refl w.heap.size w) (.cells cs T (0, 0))
  have := Sep.step (ps := []) (qs := [blk w.heap.size cs T]) (rs := ps) h ⟨hb.os, hb.tape, hb.output, hb.size, fun j hj => absurd hj (Nat.not_lt_zero j)⟩
    (fun b1 h1 _ _ => ⟨[w.heap.size], ⟨[w.heap.size], [], rfl, ⟨rfl, (show (w.heap.push _)[w.heap.size]? = _ from by simp)⟩, rfl⟩, by simp, fun b hb => by
      rw [List.mem_singleton.1 hb]; exact ⟨.inr (Nat.le_refl _), (show w.heap.size < (w.heap.push _).size from by simp)⟩, fun j hj _ => hb.block j hj⟩)
  exact this
theorem Sep.set {w0 w : World} {g : Nat} {cs : Array Value} {T : TypeId} {ps : List HP} (h : Sep w0 w (blk g cs T :: ps)) (i : Nat) (v : Value) : Sep w0 (w.setCell ⟨g, i, none⟩ v) (blk g (cs.setIfInBounds i v) T :: ps) := by
  obtain ⟨hg, hg0, hlt⟩ := h.blk_at
  have hsz : (w.setCell ⟨g, i, none⟩ v).heap.size = w.heap.size := by simp [World.setCell]
  have hq : Below 0 w (w.setCell ⟨g, i, none⟩ v) := ⟨by simp [World.setCell], by simp [World.setCell], by simp [World.setCell], by rw [hsz]; exact Nat.le_refl _, fun j hj => absurd hj (Nat.not_lt_zero j)⟩
  have hat : (w.setCell ⟨g, i, none⟩ v).heap[g]? = some (.cells (cs.setIfInBounds i v) T (0, 0)) := by
    simp [World.setCell, Array.getElem?_modify, hg]
  have := Sep.step (ps := [blk g cs T]) (qs := [blk g (cs.setIfInBounds i v) T]) (rs := ps) h hq (fun b1 h1 _ _ => by
    obtain ⟨c1, c2, e, ⟨e1, _⟩, e2⟩ := h1
    cases e2
    subst e1
    rw [e]
    refine ⟨[g], ⟨[g], [], rfl, ⟨rfl, hat⟩, rfl⟩, by simp, fun b hb => ⟨.inl (by simpa using hb), by rw [List.mem_singleton.1 hb, hsz]; exact hlt⟩, fun j hj hne => ?_⟩
    exact Below.heap_setCell w ⟨g, i, none⟩ v j (fun e => hne (by simp [e])))
  exact this
theorem Sep.cell {w0 w : World} {g : Nat} {cs : Array Value} {T : TypeId} {ps : List HP} (h : Sep w0 w (blk g cs T :: ps)) (i : Nat) : w.cell? ⟨g, i, none⟩ = cs[i]? := by
  obtain ⟨hg, _, _⟩ := h.blk_at
  exact blk_cell hg i
theorem Sep.frozen {w0 w : World} {g : Nat} {cs : Array Value} {T : TypeId} {ps : List HP} (h : Sep w0 w (blk g cs T :: ps)) (i : Nat) : w.frozen? ⟨g, i, none⟩ = false := by
  obtain ⟨hg, _, _⟩ := h.blk_at
  exact blk_frozen hg i
def row {α : Type} (d : Kd α) (e : Nat) (v : Value) (xs : List α) : HP where
  p := fun w bs => d.R e w 0 (fun k => k ∈ bs) v xs
  loc := fun {w w' bs} h hm => Kd.R_move h hm
theorem Sep.row_open {α : Type} {d : Kd α} {w0 W : World} {e : Nat} {v : Value} {xs : List α} {ps : List HP} (h : Sep w0 W (row d e v xs :: ps)) :
    ∃ bs : List Nat, d.R e W 0 (fun k => k ∈ bs) v xs ∧ ∀ (w1 : World) (v1 : Value) (xs1 : List α), d.R e w1 0 (fun k => k ∈ bs ∨ W.heap.size ≤ k) v1 xs1 → W.grownBy w1 v.ownBlock → Sep w0 w1 (row d e v1 xs1 :: ps) := by
  obtain ⟨hb, bs, ⟨b1, b2, e1, hp, hs⟩, hn, hr⟩ := h
  refine ⟨b1, hp, fun w1 v1 xs1 h1 hg => ?_⟩
  have h : Sep w0 W ([row d e v xs] ++ ps) := ⟨hb, bs, ⟨b1, b2, e1, hp, hs⟩, hn, hr⟩
  have hlt : ∀ k, k ∈ b1 → k < W.heap.size := fun k hk => (hr k (by rw [e1]; exact List.mem_append_left _ hk)).2
  have hge : ∀ k, k ∈ b1 → w0.heap.size ≤ k := fun k hk => (hr k (by rw [e1]; exact List.mem_append_left _ hk)).1
  have hn1 : b1.Nodup := (List.nodup_append.1 (e1 ▸ hn)).1
  have hdis : ∀ k, k ∈ b1 → k ∉ b2 := fun k hk hk2 => (List.nodup_append.1 (e1 ▸ hn)).2.2 k hk k hk2 rfl
  have hsz : W.heap.size ≤ w1.heap.size := hg.size
  have hmem : ∀ k, (k ∈ b1 ∨ W.heap.size ≤ k) ∧ k < w1.heap.size → k ∈ b1 ++ List.range' W.heap.size (w1.heap.size - W.heap.size) := fun k hk => by
    rcases hk.1 with h2 | h2
    · exact List.mem_append_left _ h2
    · exact List.mem_append_right _ (List.mem_range'_1.2 ⟨h2, by omega⟩)
  have hR : d.R e w1 0 (fun k => k ∈ b1 ++ List.range' W.heap.size (w1.heap.size - W.heap.size)) v1 xs1 := Kd.R_mono (Kd.R_bound h1) (fun k hk => hmem k ⟨hk.1, hk.2.2.1⟩)
  have hblk : ∀ j, j < W.heap.size → j ∉ b1 → w1.heap[j]? = W.heap[j]? := fun j hj hne => hg.block j hj (fun e => hne (hp.1 j e.symm))
  refine ⟨⟨hg.os.trans hb.os, hg.tape.trans hb.tape, hg.output.trans hb.output, Nat.le_trans hb.size hsz, fun j hj => ?_⟩, (b1 ++ List.range' W.heap.size (w1.heap.size - W.heap.size)) ++ b2, ⟨_, b2, rfl, hR, SepL.move hs (fun k hk => hblk k (hr k (by rw [e1]; exact List.mem_append_right _ hk)).2 (fun h => hdis k h hk))⟩, ?_, ?_⟩
  · rw [hblk j (Nat.lt_of_lt_of_le hj hb.size) (fun h => absurd hj (Nat.not_lt.2 (hge j h))), hb.block j hj]
  · refine List.nodup_append.2 ⟨List.nodup_append.2 ⟨hn1, List.nodup_range', fun a ha b hb e => ?_⟩, (List.nodup_append.1 (e1 ▸ hn)).2.1, fun a ha b hb e => ?_⟩
    · subst e; have := hlt a ha; have := (List.mem_range'_1.1 hb).1; omega
    · subst e
      rcases List.mem_append.1 ha with h | h
      · exact hdis a h hb
      · have := (hr a (by rw [e1]; exact List.mem_append_right _ hb)).2; have := (List.mem_range'_1.1 h).1; omega
  · intro k hk
    rcases List.mem_append.1 hk with h | h
    · rcases List.mem_append.1 h with h | h
      · exact ⟨hge k h, Nat.lt_of_lt_of_le (hlt k h) hsz⟩
      · have h2 := List.mem_range'_1.1 h
        exact ⟨Nat.le_trans hb.size h2.1, by omega⟩
    · have h2 := hr k (by rw [e1]; exact List.mem_append_right _ h)
      exact ⟨h2.1, Nat.lt_of_lt_of_le h2.2 hsz⟩
theorem Sep.row_new {α : Type} {d : Kd α} {w0 W w1 : World} {e : Nat} {ok : Nat → Prop} {v : Value} {xs : List α} {ps : List HP} (h : Sep w0 W ps) (hb : Below W.heap.size W w1) (ho : d.R e w1 W.heap.size ok v xs) : Sep w0 w1 (row d e v xs :: ps) := by
  have hR : d.R e w1 0 (fun k => k ∈ List.range' W.heap.size (w1.heap.size - W.heap.size)) v xs := Kd.R_lower (Kd.R_mono (Kd.R_bound ho) (fun k hk => List.mem_range'_1.2 ⟨hk.2.1, by have := hk.2.2.1; omega⟩)) (Nat.zero_le _)
  have := Sep.step (ps := []) (qs := [row d e v xs]) (rs := ps) h ⟨hb.os, hb.tape, hb.output, hb.size, fun j hj => absurd hj (Nat.not_lt_zero j)⟩ (fun b1 h1 _ _ =>
    ⟨_, ⟨_, [], by rw [List.append_nil], hR, rfl⟩, List.nodup_range', fun k hk => by
      have h2 := List.mem_range'_1.1 hk
      have := hb.size
      exact ⟨.inr h2.1, by omega⟩, fun j hj _ => hb.block j hj⟩)
  exact this
theorem Sep.row_nil {α : Type} (d : Kd α) {w0 W : World} (e : Nat) {ps : List HP} (h : Sep w0 W ps) : Sep w0 W (row d e (.slice none 0 0) [] :: ps) :=
  Sep.row_new h (Below.refl _ _) (Kd.R_nil d e W W.heap.size (fun _ => True))
theorem Sep.row_R {α : Type} {d : Kd α} {w0 W : World} {e : Nat} {v : Value} {xs : List α} {ps : List HP} (h : Sep w0 W (row d e v xs :: ps)) : ∃ bs : List Nat, d.R e W 0 (fun k => k ∈ bs) v xs := by
  obtain ⟨bs, h1, _⟩ := h.row_open
  exact ⟨bs, h1⟩
theorem Sep.row_out {k : IntKind} {w0 W : World} {e : Nat} {v : Value} {xs : List Int} {ps : List HP} (h : Sep w0 W (row (Kd.int k) e v xs :: ps)) : (Kd.int k).R e W w0.heap.size (fun _ => True) v xs ∧ Below w0.heap.size w0 W := by
  obtain ⟨hb, bs, ⟨b1, b2, e1, hp, hs⟩, hn, hr⟩ := h
  exact ⟨Kd.R_raise (b := 0) (fun _ _ _ _ hm => hm) (Kd.R_mono hp (fun _ _ => trivial)) (fun j hj => (hr j (by rw [e1]; exact List.mem_append_left _ (hp.1 j hj))).1), hb⟩
section
variable {P : Program} {ops : Array Oper} {rest : List Oper} {o : Oper} {a : Act} {Q : Exit → Act → World → Prop}
theorem Sep.box_event {w0 W : World} {ps : List HP} (hgd : o.guard = none) {N : Tmp} (_hd : o.dst = some N) {cs : Array Value} {t : TypeId} (hS : Sep w0 W ps)
    (hrun : (execOp a.eval o).run P W = .ok (.value (.pointer (some ⟨W.heap.size, 0, none⟩))) (W.alloc (.cells cs t (0, 0))))
    (h : ∀ g w1, Sep w0 w1 (blk g cs t :: ps) → wpList P ops Q rest (a.put o.dst (.pointer (some ⟨g, 0, none⟩))) w1) : wpList P ops Q (o :: rest) a W :=
  Kd.event_run hgd hrun (h _ _ (hS.alloc cs t))
end
end Go.Proofs.Ytekanmieppnpeaa.Sep
end
section
namespace Go.Proofs.Ytekanmieppnpeaa.PureKit
open Go.RowKit Go.Proofs.YtekanmieppnpeaaW.PrintWords Go.Proofs.YtekanmieppnpeaaW.PrintLast Go.Proofs.YtekanmieppnpeaaW.PrintMore
def Bytes (xs : List Int) : Prop := ∀ x ∈ xs, 0 ≤ x ∧ x ≤ 255
theorem Bytes.nil : Bytes [] := fun _ h => by cases h
theorem Bytes.drop {xs : List Int} (h : Bytes xs) (n : Nat) : Bytes (xs.drop n) := fun x hx => h x (List.mem_of_mem_drop hx)
theorem Bytes.take {xs : List Int} (h : Bytes xs) (n : Nat) : Bytes (xs.take n) := fun x hx => h x (List.mem_of_mem_take hx)
theorem Bytes.append {xs ys : List Int} (h : Bytes xs) (h' : Bytes ys) : Bytes (xs ++ ys) := fun x hx => by
  rcases List.mem_append.1 hx with hx | hx
  · exact h x hx
  · exact h' x hx
theorem Bytes.tail {x : Int} {xs : List Int} (h : Bytes (x :: xs)) : Bytes xs := fun y hy => h y (List.mem_cons_of_mem _ hy)
theorem Bytes.head {x : Int} {xs : List Int} (h : Bytes (x :: xs)) : 0 ≤ x ∧ x ≤ 255 := h x List.mem_cons_self
theorem Bytes.cons {x : Int} {xs : List Int} (h0 : 0 ≤ x ∧ x ≤ 255) (h : Bytes xs) : Bytes (x :: xs) := fun y hy => by
  rcases List.mem_cons.1 hy with rfl | hy
  · exact h0
  · exact h y hy
theorem Bytes.of_wf {xs : List Int} (h : ∀ x ∈ xs, (Lit.int .u8 x).wf = true) : Bytes xs := fun x hx =>
  bounds_u8 (h x hx)
theorem w64 {x : Int} (h0 : -9223372036854775808 ≤ x) (h1 : x ≤ 9223372036854775807) : wrap64 x = x := by unfold wrap64; omega
theorem wu64 {x : Int} (h0 : 0 ≤ x) (h1 : x < 18446744073709551616) : IntKind.u64.wrap x = x := by
  rw [IntKind.wrap_u64]; omega
theorem rd_at (l : List Int) (i : Nat) (h : i < l.length) : rd l (i : Int) = l[i] := by
  simp [rd, List.getD_eq_getElem?_getD, h]
theorem nums_size (xs : List Int) : (strOfNums xs).size = xs.length := by simp [strOfNums, ByteArray.size]
theorem nums_bytes (xs : List Int) : (strOfNums xs).data.toList = xs.map fun n => UInt8.ofNat n.toNat := by simp [strOfNums]
theorem ext_bytes {s t : ByteArray} (h : s.data.toList = t.data.toList) : s = t := ByteArray.ext (by rw [← Array.toArray_toList (xs := s.data), h, Array.toArray_toList])
theorem bt_nums (xs : List Int) (hb : Bytes xs) (i : Nat) (h : i < xs.length) : bt (strOfNums xs) (i : Int) = xs[i] := by
  have h2 : i < (strOfNums xs).size := by rw [nums_size]; exact h
  have hx := hb xs[i] (List.getElem_mem h)
  rw [← bt_at (strOfNums xs) i (by simpa using h2)]
  have : (strOfNums xs)[i]'h2 = UInt8.ofNat (xs[i]).toNat := by simp [strOfNums, ByteArray.getElem_eq_getElem_data]
  simp only [Int.toNat_natCast, this]
  simp
  omega
theorem nums_extract (xs : List Int) (a b : Nat) : (strOfNums xs).extract a b = strOfNums ((xs.take b).drop a) := by
  apply ext_bytes
  rw [Lib.extract_data, nums_bytes, nums_bytes, List.map_drop, List.map_take, List.drop_take]
theorem nums_nil (xs : List Int) : ((strOfNums xs).toList = ([] : List UInt8)) ↔ xs = [] := by
  rw [Lib.toList_data, nums_bytes, List.map_eq_nil_iff]
theorem nums_append (xs ys : List Int) : strOfNums xs ++ strOfNums ys = strOfNums (xs ++ ys) := by
  apply ext_bytes
  simp [strOfNums, ByteArray.data_append]
theorem nums_inj {xs ys : List Int} (hx : Bytes xs) (hy : Bytes ys) (h : strOfNums xs = strOfNums ys) : xs = ys := by
  have h1 := congrArg (fun s => s.data.toList) h
  simp only [nums_bytes] at h1
  induction xs generalizing ys with
  | nil => cases ys with
    | nil => rfl
    | cons y ys => simp at h1
  | cons x xs ih => cases ys with
    | nil => simp at h1
    | cons y ys =>
      simp only [List.map_cons, List.cons.injEq] at h1
      have h2 := congrArg UInt8.toNat h1.1
      have a := hx.head
      have b := hy.head
      simp at h2
      have : x = y := by omega
      rw [this, ih hx.tail hy.tail (by apply ext_bytes; rw [nums_bytes, nums_bytes]; exact h1.2) h1.2]
theorem nums_eq {xs ys : List Int} (hx : Bytes xs) (hy : Bytes ys) : ((strOfNums xs).toList = (strOfNums ys).toList) ↔ xs = ys := by
  constructor
  · intro h
    rw [Lib.toList_data, Lib.toList_data] at h
    exact nums_inj hx hy (ext_bytes h)
  · rintro rfl; rfl
theorem nums_beq {xs ys : List Int} (hx : Bytes xs) (hy : Bytes ys) : ((strOfNums xs).toList == (strOfNums ys).toList) = decide (xs = ys) := by
  by_cases h : xs = ys
  · subst h; simp
  · rw [decide_eq_false h]
    exact beq_eq_false_iff_ne.2 (fun e => h ((nums_eq hx hy).1 e))
theorem rounds_of {α : Type} {g : Nat → Option α} {r : α} (h : Ev g r) : ∃ k, g k = some r := h.rounds
theorem Ev.eq {α : Type} {g : Nat → Option α} {a b : α} (h : Ev g a) (e : a = b) : Ev g b := e ▸ h
end Go.Proofs.Ytekanmieppnpeaa.PureKit
end
section
namespace Go.Proofs.Ytekanmieppnpeaa.G
open Go.RowKit Go.Proofs.YtekanmieppnpeaaW.PrintWords Go.Proofs.YtekanmieppnpeaaW.PrintLast Go.Proofs.YtekanmieppnpeaaW.PrintMore
attribute [local go_sem] max2_int min2_int max_two min_two max_three min_three max_four min_four
set_option linter.unusedVariables false
set_option linter.unusedSimpArgs false
theorem info5' : (Try.prog.info? 5).map (fun i => (i.zero, i.size, i.bytes)) = some (some (.int .u8 0), 1, 1) := by kernel_rfl
theorem C_none {d : Kd Int} {w : World} {l : List Int} (h : Kd.C d w none l.length l) : l = [] := by
  obtain ⟨_, _, h3⟩ := h
  rcases l with _ | ⟨x, l⟩
  · rfl
  · obtain ⟨ad, e, _⟩ := h3 (by simp)
    cases e
def bytes_Clone.f (l0 : List Int) : Option (List Int) := if l0.length < 140737488355328 then some l0 else none
set_option maxHeartbeats 1000000 in
set_option maxRecDepth 100000 in
theorem bytes_Clone.calls {n : Nat} (A0 : Option Addr) (c0 : Nat) (l0 : List Int) (r : List Int) (w : World) (hr0 : Kd.C (Kd.int .u8) w A0 l0.length l0) (hc0 : l0.length ≤ c0) (h : bytes_Clone.f l0 = some r)
    (hn : n = l0.length := by first | rfl | (simp only [List.length_drop, List.length_take]; rfl) | (simp only [List.length_drop, List.length_take]; (try simp only [decide_eq_true_eq, eq_iff_iff, iff_true] at *); omega)) :
    Calls Try.prog 111 #[.slice A0 n c0] w fun e w' => ∃ v0_ : Value, e = .returned (v0_) ∧ Kd.R (Kd.int .u8) 5 w' w.heap.size (fun _ => True) v0_ r ∧ Below w.heap.size w w' := by
  subst hn
  have HR0 := Aside0.mk hr0
  have HC0 := Aside0.mk hc0
  clear hr0 hc0
  unfold bytes_Clone.f at h
  by_cases hl : l0.length < 140737488355328
  · rw [if_pos hl] at h
    obtain rfl := Option.some.inj h
    have LM := Aside0.mk hl
    clear h hl
    have HB := Aside0.mk (Below.refl w.heap.size w)
    cases A0 with
    | none =>
      obtain rfl := C_none HR0.out
      have hnil := fun (wx : World) => Lib.run_eql_slice_nil (P := Try.prog) wx 39 5 none 0 c0 0 0 Try.underlying39
      simp only [List.length_nil]
      go_enter Try.func111, Try.ntmps111
      go_wp2
      go_ret
      exact ⟨_, rfl, Kd.R_nil _ _ _ _ _, HB.out⟩
    | some ad =>
      have hnil := fun (wx : World) => Lib.run_eql_slice_nil (P := Try.prog) wx 39 5 (some ad) l0.length c0 0 0 Try.underlying39
      go_enter Try.func111, Try.ntmps111
      go_wp2_with (first | ((with_reducible refine gate_dst (N := 5) rfl ?_); refine Kd.R_lit (Kd.int .u8) _ 5 ?hg (N := 5) ?hd (xs := ([] : List Int)) (inner := []) (ok := fun _ => True) (okp := fun _ => True) ?hr ?hp (fun _ hk => hk) trivial (Below.refl _ _) (Nat.le_refl _) (by simp) ?_; (case hd => rfl); (case hg => rfl); (case hr => first | (go_simp; done) | (go_simp; rfl)); (case hp => exact (Reps.none _ _)); intro v221 w4 ho5 hb hg_ hnew_; clear hg_ hnew_; have n0_ := Aside0.mk (Kd.R_lower ho5 (below_size (by repeat (first | (with_reducible first | exact HB.out | apply below_alloc | apply pw_below_drewN | apply below_drew1) | exact HB.out)))); have n1_ := Aside0.mk (below_step (by repeat (first | (with_reducible first | exact HB.out | apply below_alloc | apply pw_below_drewN | apply below_drew1) | exact HB.out)) hb); clear HB; have HO222 := n0_; have HB := n1_; clear n0_ n1_; clear hb ho5) | ((with_reducible refine gate_builtin (b := .append) (xs := #[.tmp 5, .tmp 6]) rfl ?_); at_builtin; refine Kd.R_append_rows (Kd.int .u8) (w0 := w) w.heap.size rfl (.tmp 5) (.tmp 6) 39 5 (.int .u8 0) 1 rfl Try.underlying39 info5' rfl (by decide) (by omega) v221 [] l0 _ _ _ (fun _ => True) (fun _ => False) rfl rfl ?aO ?aR (fun _ _ h => h) (fun _ h => h.elim) ?aF ?aB ?aS ?aL ?_; (case aR => repeat (first | exact (Kd.C_below HR0.out HB.out) | (with_reducible refine Kd.C_alloc ?_ _) | (with_reducible refine Kd.C_drewN ?_ _) | (with_reducible refine Kd.C_drew ?_))); (case aB => exact (by repeat (first | (with_reducible first | exact HB.out | apply below_alloc | apply pw_below_drewN | apply below_drew1) | exact HB.out))); (case aF => exact (fun _ _ => trivial)); (case aO => exact (by (with_reducible repeat (first | apply Kd.R_alloc | apply Kd.R_drewN | apply Kd.R_drew)); exact HO222.out)); (case aS => exact (below_size (by repeat (first | (with_reducible first | exact HB.out | apply below_alloc | apply pw_below_drewN | apply below_drew1) | exact HB.out)))); (case aL => have := LM.out; simp; omega); intro v224 w6 ho hb hg hat; have n0_ := Aside0.mk (hb); have n1_ := Aside0.mk (ho); clear HB; clear HO222; have HB := n0_; have HO225 := n1_; clear n0_ n1_; clear ho hb hg hat))
      go_ret
      exact ⟨_, rfl, by simpa using HO225.out, HB.out⟩
  · rw [if_neg hl] at h
    cases h
end Go.Proofs.Ytekanmieppnpeaa.G
end
section
set_option linter.unusedVariables false
set_option linter.unusedSimpArgs false
namespace Go.Proofs.Ytekanmieppnpeaa.Sep
open Go Go.RowKit Go.Proofs.YtekanmieppnpeaaW.PrintWords Go.Proofs.YtekanmieppnpeaaW.PrintLast Go.Proofs.YtekanmieppnpeaaW.PrintMore Go.Proofs.Ytekanmieppnpeaa.PureKit
def sby (s : ByteArray) : List Int := s.data.toList.map fun b => (b.toNat : Int)
theorem sby_len (s : ByteArray) : (sby s).length = s.size := by
  unfold sby
  rw [List.length_map, Array.length_toList]
  rfl
theorem sby_bytes (s : ByteArray) : Bytes (sby s) := by
  intro x hx
  obtain ⟨b, _, rfl⟩ := List.mem_map.1 hx
  have := b.toNat_lt
  omega
theorem nums_sby (s : ByteArray) : strOfNums (sby s) = s := by
  apply ext_bytes
  rw [nums_bytes, sby, List.map_map]
  conv => rhs; rw [← List.map_id s.data.toList]
  apply List.map_congr_left
  intro b _
  simp
theorem sby_nums (l : List Int) (h : Bytes l) : sby (strOfNums l) = l := by
  unfold sby
  rw [nums_bytes, List.map_map]
  conv => rhs; rw [← List.map_id l]
  apply List.map_congr_left
  intro x hx
  have := h x hx
  simp only [Function.comp, id, UInt8.toNat_ofNat']
  omega
end Go.Proofs.Ytekanmieppnpeaa.Sep
end
section
set_option linter.unusedVariables false
namespace Go.Proofs.Ytekanmieppnpeaa.Sep
open Go Go.RowKit Go.Proofs.YtekanmieppnpeaaW.PrintWords Go.Proofs.YtekanmieppnpeaaW.PrintLast Go.Proofs.YtekanmieppnpeaaW.PrintMore Go.Proofs.Ytekanmieppnpeaa.PureKit
def buf (g : Nat) (l : List Int) : HP where
  p := fun w bs => ∃ v bs', bs = g :: bs' ∧ w.heap[g]? = some (.cells #[v] 100 (0, 0)) ∧ Kd.R (Kd.int .u8) 5 w 0 (fun k => k ∈ bs') v l
  loc := by
    rintro w w' bs ⟨v, bs', e, h1, h2⟩ hm
    exact ⟨v, bs', e, by rw [hm g (by rw [e]; simp)]; exact h1, Kd.R_move h2 (fun k hk => hm k (by rw [e]; exact List.mem_cons_of_mem _ hk))⟩
theorem Sep.buf_open {w0 w : World} {g : Nat} {l : List Int} {ps : List HP} (h : Sep w0 w (buf g l :: ps)) : ∃ v, Sep w0 w (blk g #[v] 100 :: row (Kd.int .u8) 5 v l :: ps) := by
  obtain ⟨hb, bs, ⟨b1, b2, e, ⟨v, bs', e1, h1, h2⟩, hs⟩, hn, hr⟩ := h
  exact ⟨v, hb, bs, ⟨[g], bs' ++ b2, by rw [e, e1]; simp, ⟨rfl, h1⟩, bs', b2, rfl, h2, hs⟩, hn, hr⟩
theorem Sep.buf_close {w0 w : World} {g : Nat} {l : List Int} {v : Value} {ps : List HP} (h : Sep w0 w (blk g #[v] 100 :: row (Kd.int .u8) 5 v l :: ps)) : Sep w0 w (buf g l :: ps) := by
  obtain ⟨hb, bs, ⟨b1, b2, e, ⟨e1, h1⟩, b3, b4, e2, h2, hs⟩, hn, hr⟩ := h
  exact ⟨hb, bs, ⟨g :: b3, b4, by rw [e, e1, e2]; simp, ⟨v, b3, rfl, h1, h2⟩, hs⟩, hn, hr⟩
theorem Sep.buf_new {w0 w : World} {ps : List HP} (h : Sep w0 w ps) : Sep w0 (w.alloc (.cells #[.slice none 0 0] 100 (0, 0))) (buf w.heap.size [] :: ps) :=
  Sep.buf_close (((h.alloc #[.slice none 0 0] 100).row_nil (Kd.int .u8) 5).perm (List.Perm.swap _ _ _))
def nbytes : Nat → Int → List Int
  | 0, _ => []
  | n + 1, x => x % 256 :: nbytes n (x / 256)
theorem nbytes_len : ∀ (n : Nat) (x : Int), (nbytes n x).length = n
  | 0, _ => rfl
  | n + 1, x => by simp [nbytes, nbytes_len n]
set_option maxHeartbeats 4000000 in
set_option maxRecDepth 100000 in
theorem buf_num (w0 w : World) (g : Nat) (l : List Int) (ps : List HP) (x m : Int) (n : Nat) (hm : m = n) (hs : Sep w0 w (buf g l :: ps)) (hx : 0 ≤ x) (hx' : x < 18446744073709551616) (hn : n ≤ 8) (hl : l.length ≤ 1000000000000) :
    Calls Try.prog 121 #[.pointer (some ⟨g, 0, none⟩), .int .u64 x, .int .i64 m] w fun e w' => e = .returned (.pointer (some ⟨g, 0, none⟩)) ∧ Sep w0 w' (buf g (l ++ nbytes n x) :: ps) := by
  subst hm
  have hS := Aside0.mk hs
  clear hs
  go_enter Try.func121, Try.ntmps121
  go_wp2
  go_loopg [1, 8] n (fun kq v1 v8 w' => ∃ (i : Nat) (y : Int) (l1 : List Int), v8 = .int .i64 i ∧ v1 = .int .u64 y ∧ Aside0 (0 ≤ y ∧ y < 18446744073709551616 ∧ i + kq = n ∧ l1.length = l.length + i ∧ l ++ nbytes n x = l1 ++ nbytes kq y) ∧ Aside0 (Sep w0 w' (buf g l1 :: ps)))
  case atStart => exact ⟨0, x, l, rfl, rfl, ⟨⟨hx, hx', by omega, by omega, rfl⟩⟩, hS⟩
  case round =>
    obtain ⟨i, y, l1, rfl, rfl, hA, hS⟩ := hrel
    by_cases hin : i < n
    · obtain ⟨k1, rfl⟩ : ∃ k1, gk = k1 + 1 := ⟨gk - 1, by have := hA.out; omega⟩
      have hd : decide ((i : Int) < (n : Int)) = true := decide_eq_true (by omega)
      obtain ⟨v, hO⟩ := Sep.buf_open hS.out
      obtain ⟨bs, hR, hG⟩ := hO.tail.row_open
      obtain ⟨Av, cv, rfl⟩ := Kd.R_slice hR
      have hR := Aside0.mk hR
      have hc : wr.cell? ⟨g, 0, none⟩ = some (.slice Av l1.length cv) := (hO.cell 0).trans rfl
      obtain ⟨bs, hR, hG⟩ := (hO.perm (List.Perm.swap _ _ _)).row_open
      have hR := Aside0.mk hR
      have hG := Aside0.mk hG
      have hO := Aside0.mk hO
      go_wp2_with (first | ((with_reducible refine gate_builtin (b := .append) (xs := #[.tmp 14, .tmp 17]) rfl ?_); at_builtin; refine Kd.R_append (Kd.int .u8) (w0 := wr) 0 rfl (.tmp 14) (.tmp 17) 39 5 (.int .u8 0) 1 rfl Try.underlying39 (by kernel_rfl) rfl (by decide) (by decide) (.slice Av l1.length cv) l1 (y % 256) [.int .u8 (y % 256)] (fun k => k ∈ bs ∨ wr.heap.size ≤ k) (fun _ => False) rfl rfl rfl (fun _ h => h.elim) (fun _ h => .inr h) ?aO ?aB ?aS ?aL ?_; (case aO => exact Kd.R_mono hR.out (fun _ h => .inl h)); (case aB => exact Below.refl _ _); (case aS => exact Nat.zero_le _); (case aL => have := hA.out; omega); intro v1 w1 ho hb hg hat; obtain ⟨A1, c1, e1⟩ := Kd.R_slice ho; subst e1; have hO1 := Aside0.mk ((hG.out w1 _ _ ho hg).perm (List.Perm.swap _ _ _)); clear ho hb hg hat hc; have hc := (hO1.out.cell 0).trans rfl; have hz := hO1.out.frozen 0))
      go_roundg k1
      case measure => omega
      case rel =>
        refine ⟨i + 1, y / 256, l1 ++ [y % 256], by simp, rfl, ⟨?_⟩, ⟨?_⟩⟩
        · obtain ⟨h0, h1, h2, h3, h4⟩ := hA.out
          refine ⟨by omega, by omega, by omega, by simp; omega, ?_⟩
          rw [h4]
          simp [nbytes]
        · refine Sep.buf_close (v := .slice A1 (l1.length + 1) c1) ?_
          have := hO1.out.set 0 (.slice A1 (l1.length + 1) c1)
          simpa using this
    · have hA' := hA.out
      obtain ⟨h0, h1, h2, h3, h4⟩ := hA'
      obtain rfl : gk = 0 := by omega
      have hd : decide ((i : Int) < (n : Int)) = false := decide_eq_false (by omega)
      rw [show nbytes 0 y = [] from rfl, List.append_nil] at h4
      go_wp2
      go_ret
      exact ⟨rfl, by rw [h4]; exact hS.out⟩
set_option maxHeartbeats 4000000 in
theorem buf_Bytes (w0 w : World) (g : Nat) (l : List Int) (ps : List HP) (hs : Sep w0 w (buf g l :: ps)) (hl : l.length ≤ 1000000000000) :
    Calls Try.prog 61 #[.pointer (some ⟨g, 0, none⟩)] w fun e w' => ∃ v, e = .returned v ∧ Sep w0 w' (row (Kd.int .u8) 5 v l :: buf g l :: ps) := by
  obtain ⟨v, hO⟩ := Sep.buf_open hs
  obtain ⟨bs, hR⟩ := hO.tail.row_R
  obtain ⟨Av, cv, rfl⟩ := Kd.R_slice hR
  have hr := Kd.R_reads' hR
  have hS := Aside0.mk hs
  have hc : w.cell? ⟨g, 0, none⟩ = some (.slice Av l.length cv) := (hO.cell 0).trans rfl
  have hr := Aside0.mk hr
  clear hs hO hR
  go_enter Try.func61, Try.ntmps61
  go_wp2_with (first | ((with_reducible refine gate_callee (f := 111) rfl ?_); refine goesL_ (some 7) rfl rfl Try.func111 (by kernel_rfl) rfl #[.slice Av l.length cv] rfl (by (try simp only [List.map_toArray, List.map_cons, List.map_nil]); first | done | rfl) ?_; (with_reducible refine (G.bytes_Clone.calls Av cv l l _ hr.out.2.2 hr.out.2.1 (by unfold G.bytes_Clone.f; exact if_pos (by omega)) rfl).mono ?_); rintro e w1 ⟨v1, rfl, ho, hb⟩; refine ⟨_, rfl, ?_⟩; have hS1 := Aside0.mk (Sep.row_new hS.out hb ho); clear ho hb))
  go_ret
  exact ⟨_, rfl, hS1.out⟩
end Go.Proofs.Ytekanmieppnpeaa.Sep
set_option linter.unusedVariables false
set_option linter.unusedSimpArgs false
namespace Go.Proofs.Ytekanmieppnpeaa.G
open Go Go.RowKit Go.Proofs.YtekanmieppnpeaaW.PrintWords Go.Proofs.YtekanmieppnpeaaW.PrintLast Go.Proofs.YtekanmieppnpeaaW.PrintMore Go.Proofs.Ytekanmieppnpeaa.PureKit Go.Proofs.Ytekanmieppnpeaa.Sep
set_option maxHeartbeats 4000000 in
theorem buf_Eight (w0 w : World) (g : Nat) (l : List Int) (ps : List HP) (x : Int) (hs : Sep.Sep w0 w (buf g l :: ps)) (hx : 0 ≤ x) (hx' : x < 18446744073709551616) (hl : l.length ≤ 1000000000000) :
    Calls Try.prog 59 #[.pointer (some ⟨g, 0, none⟩), .int .u64 x] w fun e w' => e = .returned (.pointer (some ⟨g, 0, none⟩)) ∧ Sep.Sep w0 w' (buf g (l ++ nbytes 8 x) :: ps) := by
  have hS := Aside0.mk hs
  clear hs
  go_enter Try.func59, Try.ntmps59
  go_wp2_with (first | ((with_reducible refine gate_callee (f := 121) rfl ?_); refine goesL_ (some 7) rfl rfl Try.func121 (by kernel_rfl) rfl #[.pointer (some ⟨g, 0, none⟩), .int .u64 x, .int .i64 8] rfl (by (try simp only [List.map_toArray, List.map_cons, List.map_nil]); first | done | rfl) ?_; (with_reducible refine (buf_num w0 _ g l ps x 8 8 rfl hS.out hx hx' (by decide) hl).mono ?_); rintro e w1 ⟨rfl, h1⟩; refine ⟨_, rfl, ?_⟩; have hS1 := Aside0.mk h1; clear h1))
  go_ret
  exact ⟨rfl, hS1.out⟩
end Go.Proofs.Ytekanmieppnpeaa.G
set_option linter.unusedVariables false
namespace Go.Proofs.Ytekanmieppnpeaa.Sep
open Go Go.RowKit Go.Proofs.YtekanmieppnpeaaW.PrintWords Go.Proofs.YtekanmieppnpeaaW.PrintLast Go.Proofs.YtekanmieppnpeaaW.PrintMore Go.Proofs.Ytekanmieppnpeaa.PureKit
end Go.Proofs.Ytekanmieppnpeaa.Sep
set_option linter.unusedVariables false
set_option linter.unusedSimpArgs false
namespace Go.Proofs.Ytekanmieppnpeaa.Sep
open Go Go.RowKit Go.Proofs.YtekanmieppnpeaaW.PrintWords Go.Proofs.YtekanmieppnpeaaW.PrintLast Go.Proofs.YtekanmieppnpeaaW.PrintMore Go.Proofs.Ytekanmieppnpeaa.PureKit
set_option maxHeartbeats 4000000 in
set_option maxRecDepth 100000 in
theorem buf_Raw (w0 w : World) (g : Nat) (l : List Int) (ps : List HP) (A : Option Addr) (n c : Nat) (xs : List Int) (hs : Sep w0 w (buf g l :: ps)) (hr : Kd.C (Kd.int .u8) w A xs.length xs) (hn : n = xs.length) (hl : l.length ≤ 1000000000000) (hx : xs.length ≤ 100000000000) :
    Calls Try.prog 58 #[.pointer (some ⟨g, 0, none⟩), .slice A n c] w fun e w' => e = .returned (.pointer (some ⟨g, 0, none⟩)) ∧ Sep w0 w' (buf g (l ++ xs) :: ps) := by
  subst hn
  have hS := Aside0.mk hs
  obtain ⟨v, hO⟩ := Sep.buf_open hs
  obtain ⟨bs, hR, hG⟩ := hO.tail.row_open
  obtain ⟨Av, cv, rfl⟩ := Kd.R_slice hR
  have hc : w.cell? ⟨g, 0, none⟩ = some (.slice Av l.length cv) := (hO.cell 0).trans rfl
  obtain ⟨bs, hR, hG⟩ := (hO.perm (List.Perm.swap _ _ _)).row_open
  have hR := Aside0.mk hR
  have hG := Aside0.mk hG
  have hO := Aside0.mk hO
  have hX := Aside0.mk hr
  clear hs hr
  go_enter Try.func58, Try.ntmps58
  go_wp2_with (first | ((with_reducible refine gate_builtin (b := .append) (xs := #[.tmp 9, .tmp 10]) rfl ?_); at_builtin; refine Kd.R_append_rows (Kd.int .u8) (w0 := w) 0 rfl (.tmp 9) (.tmp 10) 39 5 (.int .u8 0) 1 rfl Try.underlying39 (by kernel_rfl) rfl (by decide) (by decide) (.slice Av l.length cv) l xs A xs.length c (fun k => k ∈ bs ∨ w.heap.size ≤ k) (fun _ => False) rfl rfl ?aO ?aR (fun _ _ h => h) (fun _ h => h.elim) (fun _ h => .inr h) ?aB ?aS ?aL ?_; (case aO => exact Kd.R_mono hR.out (fun _ h => .inl h)); (case aR => exact hX.out); (case aB => exact Below.refl _ _); (case aS => exact Nat.zero_le _); (case aL => omega); intro v1 w1 ho hb hg hat; obtain ⟨A1, c1, e1⟩ := Kd.R_slice ho; subst e1; have hO1 := Aside0.mk ((hG.out w1 _ _ ho hg).perm (List.Perm.swap _ _ _)); clear ho hb hg hat hc; have hc := (hO1.out.cell 0).trans rfl; have hz := hO1.out.frozen 0))
  go_ret
  refine ⟨rfl, ?_⟩
  refine Sep.buf_close (v := .slice A1 (l ++ xs).length c1) ?_
  have := hO1.out.set 0 (.slice A1 (l ++ xs).length c1)
  simpa using this
end Go.Proofs.Ytekanmieppnpeaa.Sep
end
section
set_option linter.unusedVariables false
set_option linter.unusedSimpArgs false
namespace Go.Proofs.Ytekanmieppnpeaa.Tb
open Go Go.RowKit Go.Proofs.YtekanmieppnpeaaW.PrintWords Go.Proofs.YtekanmieppnpeaaW.PrintLast Go.Proofs.YtekanmieppnpeaaW.PrintMore Go.Proofs.Ytekanmieppnpeaa.Sep Go.Proofs.Ytekanmieppnpeaa.G
abbrev E1 := S33
abbrev kE : Kd E1 := k33
def orI (a b : Int) : Int := if a ≠ 0 then a else b
def cmpE (x y : Int × Int) : Int := orI (Go.Lib.compareInt x.1 y.1) (Go.Lib.compareInt x.2 y.2)
def cfE (x y : E1) : Int := cmpE (x.f0, x.f1) (y.f0, y.f1)
def lessE (x y : E1) : Prop := x.f0 < y.f0 ∨ x.f0 = y.f0 ∧ x.f1 < y.f1
instance (x y : E1) : Decidable (lessE x y) := by unfold lessE; infer_instance
theorem cfE_lt {x y : E1} (h : lessE x y) : cfE x y = -1 := by
  unfold cfE cmpE orI Go.Lib.compareInt
  rcases h with h | ⟨h1, h2⟩
  · simp [h]
  · simp [h1, h2]
theorem cfE_gt {x y : E1} (h : lessE y x) : cfE x y = 1 := by
  unfold cfE cmpE orI Go.Lib.compareInt
  rcases h with h | ⟨h1, h2⟩
  · have : ¬ x.f0 < y.f0 := by omega
    simp [h, this]
  · have : ¬ x.f1 < y.f1 := by omega
    simp [h1, h2, this]
theorem lessE_tri (x y : E1) : lessE x y ∨ x = y ∨ lessE y x := by
  unfold lessE
  by_cases h1 : x.f0 < y.f0
  · exact .inl (.inl h1)
  by_cases h2 : y.f0 < x.f0
  · exact .inr (.inr (.inl h2))
  by_cases h3 : x.f1 < y.f1
  · exact .inl (.inr ⟨by omega, h3⟩)
  by_cases h4 : y.f1 < x.f1
  · exact .inr (.inr (.inr ⟨by omega, h4⟩))
  · refine .inr (.inl ?_)
    cases x; cases y
    simp only at h1 h2 h3 h4
    congr 1 <;> omega
theorem cfE_same (x : E1) : cfE x x = 0 := by
  unfold cfE cmpE orI Go.Lib.compareInt
  simp
instance : DecidableEq E1 := fun x y => decidable_of_iff (x.f0 = y.f0 ∧ x.f1 = y.f1) ⟨fun h => by cases x; cases y; simp only at h; rw [h.1, h.2], fun h => by rw [h]; exact ⟨rfl, rfl⟩⟩
end Go.Proofs.Ytekanmieppnpeaa.Tb
end
section
set_option linter.unusedVariables false
set_option linter.unusedSimpArgs false
namespace Go.Proofs.Ytekanmieppnpeaa.Tb
open Go Go.RowKit Go.Proofs.YtekanmieppnpeaaW.PrintWords Go.Proofs.YtekanmieppnpeaaW.PrintLast Go.Proofs.YtekanmieppnpeaaW.PrintMore Go.Proofs.Ytekanmieppnpeaa.PureKit Go.Proofs.Ytekanmieppnpeaa.Sep Go.Proofs.Ytekanmieppnpeaa.G
set_option maxHeartbeats 4000000
set_option maxRecDepth 100000
def OkE (x : E1) : Prop := 0 ≤ x.f0 ∧ x.f0 < 18446744073709551616 ∧ 0 ≤ x.f1 ∧ x.f1 ≤ 4294967295
end Go.Proofs.Ytekanmieppnpeaa.Tb
end
section
set_option linter.unusedVariables false
set_option linter.unusedSimpArgs false
namespace Go.Proofs.Ytekanmieppnpeaa.Sep
open Go Go.RowKit Go.Proofs.YtekanmieppnpeaaW.PrintWords Go.Proofs.YtekanmieppnpeaaW.PrintLast Go.Proofs.YtekanmieppnpeaaW.PrintMore Go.Proofs.Ytekanmieppnpeaa.PureKit
def cur (g : Nat) (l : List Int) (at_ : Nat) (live : Bool) : HP where
  p := fun w bs => ∃ A c bs', bs = g :: bs' ∧ w.heap[g]? = some (.cells #[.slice A l.length c, .int .i64 at_, .bool live] 149 (0, 0)) ∧ Kd.R (Kd.int .u8) 5 w 0 (fun k => k ∈ bs') (.slice A l.length c) l
  loc := by
    rintro w w' bs ⟨A, c, bs', e, h1, h2⟩ hm
    exact ⟨A, c, bs', e, by rw [hm g (by rw [e]; simp)]; exact h1, Kd.R_move h2 (fun k hk => hm k (by rw [e]; exact List.mem_cons_of_mem _ hk))⟩
theorem Sep.cur_open {w0 w : World} {g at_ : Nat} {l : List Int} {live : Bool} {ps : List HP} (h : Sep w0 w (cur g l at_ live :: ps)) :
    ∃ A c, Sep w0 w (blk g #[.slice A l.length c, .int .i64 at_, .bool live] 149 :: row (Kd.int .u8) 5 (.slice A l.length c) l :: ps) := by
  obtain ⟨hb, bs, ⟨b1, b2, e, ⟨A, c, bs', e1, h1, h2⟩, hs⟩, hn, hr⟩ := h
  exact ⟨A, c, hb, bs, ⟨[g], bs' ++ b2, by rw [e, e1]; simp, ⟨rfl, h1⟩, bs', b2, rfl, h2, hs⟩, hn, hr⟩
theorem Sep.cur_close {w0 w : World} {g at_ c : Nat} {l : List Int} {live : Bool} {A : Option Addr} {ps : List HP} (h : Sep w0 w (blk g #[.slice A l.length c, .int .i64 at_, .bool live] 149 :: row (Kd.int .u8) 5 (.slice A l.length c) l :: ps)) : Sep w0 w (cur g l at_ live :: ps) := by
  obtain ⟨hb, bs, ⟨b1, b2, e, ⟨e1, h1⟩, b3, b4, e2, h2, hs⟩, hn, hr⟩ := h
  exact ⟨hb, bs, ⟨g :: b3, b4, by rw [e, e1, e2]; simp, ⟨A, c, b3, rfl, h1, h2⟩, hs⟩, hn, hr⟩
def fault (g : Nat) (e : Int) : PanicEntry := { v := .iface 151 (.agg #[.pointer (some ⟨g, 0, none⟩), .int .i64 e]), recovered := false }
set_option maxHeartbeats 4000000 in
theorem cur_dead (w0 w : World) (g at_ : Nat) (l : List Int) (live : Bool) (ps : List HP) (hs : Sep w0 w (cur g l at_ live :: ps)) :
    Calls Try.prog 123 #[.pointer (some ⟨g, 0, none⟩)] w fun e w' => e = .returned (.bool (!live)) ∧ Sep w0 w' (cur g l at_ live :: ps) := by
  have hS := Aside0.mk hs
  obtain ⟨A, c, hO⟩ := Sep.cur_open hs
  have hc0 : w.cell? ⟨g, 0, none⟩ = some (.slice A l.length c) := (hO.cell 0).trans rfl
  have hc1 : w.cell? ⟨g, 1, none⟩ = some (.int .i64 at_) := (hO.cell 1).trans rfl
  have hc2 : w.cell? ⟨g, 2, none⟩ = some (.bool live) := (hO.cell 2).trans rfl
  clear hs hO
  go_enter Try.func123, Try.ntmps123
  go_wp2
  go_ret
  exact ⟨rfl, hS.out⟩
set_option maxHeartbeats 4000000 in
theorem cur_Fail (w0 w : World) (g at_ : Nat) (l : List Int) (ps : List HP) (x : Int) (hs : Sep w0 w (cur g l at_ true :: ps)) (hx : x ≠ 0) :
    Calls Try.prog 71 #[.pointer (some ⟨g, 0, none⟩), .int .i64 x] w fun e w' => e = .panicked [fault g x] ∧ Sep w0 w' (cur g l at_ true :: ps) := by
  have hS := Aside0.mk hs
  clear hs
  have hd : (x != 0) = true := bne_iff_ne.2 hx
  go_enter Try.func71, Try.ntmps71
  go_wp2_with (first | ((with_reducible refine gate_callee (f := 123) rfl ?_); refine goesL_ (some 5) rfl rfl Try.func123 (by kernel_rfl) rfl #[.pointer (some ⟨g, 0, none⟩)] rfl (by (try simp only [List.map_toArray, List.map_cons, List.map_nil]); first | done | rfl) ?_; (with_reducible refine (cur_dead w0 _ g at_ l true ps hS.out).mono ?_); rintro e w1 ⟨rfl, h1⟩; refine ⟨_, rfl, ?_⟩; have hS1 := Aside0.mk h1; clear h1))
  exact ⟨rfl, rfl, hS1.out⟩
set_option maxHeartbeats 4000000 in
set_option maxRecDepth 100000 in
theorem cur_Take_short (w0 w : World) (g at_ : Nat) (l : List Int) (ps : List HP) (n : Int) (hs : Sep w0 w (cur g l at_ true :: ps)) (hn : 0 < n) (hat : at_ ≤ l.length) (hl : l.length ≤ 1000000000000) (hsh : n > (l.length : Int) - at_) :
    Calls Try.prog 142 #[.pointer (some ⟨g, 0, none⟩), .int .i64 n] w fun e w' => e = .panicked [fault g 2] ∧ Sep w0 w' (cur g l at_ true :: ps) := by
  have hS := Aside0.mk hs
  clear hs
  have hd : decide (n ≤ 0) = false := decide_eq_false (by omega)
  have hd2 : decide (n > (l.length : Int) - (at_ : Int)) = true := decide_eq_true hsh
  go_enter Try.func142, Try.ntmps142
  go_wp2_with (first | ((with_reducible refine gate_callee (f := 123) rfl ?_); refine goesL_ (some 6) rfl rfl Try.func123 (by kernel_rfl) rfl #[.pointer (some ⟨g, 0, none⟩)] rfl (by (try simp only [List.map_toArray, List.map_cons, List.map_nil]); first | done | rfl) ?_; (with_reducible refine (cur_dead w0 _ g at_ l true ps hS.out).mono ?_); rintro e w1 ⟨rfl, h1⟩; refine ⟨_, rfl, ?_⟩; have hS1 := Aside0.mk h1; clear h1))
  obtain ⟨A, c, hO⟩ := Sep.cur_open hS1.out
  have hc0 : w1.cell? ⟨g, 0, none⟩ = some (.slice A l.length c) := (hO.cell 0).trans rfl
  have hc1 : w1.cell? ⟨g, 1, none⟩ = some (.int .i64 at_) := (hO.cell 1).trans rfl
  have hc2 : w1.cell? ⟨g, 2, none⟩ = some (.bool true) := (hO.cell 2).trans rfl
  have hO := Aside0.mk hO
  repeat (go_quiet (fail); try go_wp2)
  refine ⟨rfl, rfl, ?_⟩
  exact ⟨rfl, hS1.out.drewN _⟩
theorem info8 : (Try.prog.info? 5).map (fun i => (i.zero, i.size, i.bytes)) = some (some (.int .u8 0), 1, 1) := by kernel_rfl
set_option maxHeartbeats 4000000 in
set_option maxRecDepth 100000 in
theorem cur_Take_some (w0 w : World) (g at_ : Nat) (l : List Int) (ps : List HP) (m : Nat) (n : Int) (hm : n = m) (hs : Sep w0 w (cur g l at_ true :: ps)) (hn : 0 < m) (hl : l.length ≤ 1000000000000) (hsh : at_ + m ≤ l.length) :
    Calls Try.prog 142 #[.pointer (some ⟨g, 0, none⟩), .int .i64 n] w fun e w' => ∃ v, e = .returned v ∧ Sep w0 w' (row (Kd.int .u8) 5 v ((l.take (at_ + m)).drop at_) :: cur g l (at_ + m) true :: ps) := by
  have hS := Aside0.mk hs
  clear hs
  subst hm
  have hd : decide ((m : Int) ≤ 0) = false := decide_eq_false (by omega)
  have hd2 : decide ((m : Int) > (l.length : Int) - (at_ : Int)) = false := decide_eq_false (by omega)
  go_enter Try.func142, Try.ntmps142
  go_wp2_with (first | ((with_reducible refine gate_callee (f := 123) rfl ?_); refine goesL_ (some 6) rfl rfl Try.func123 (by kernel_rfl) rfl #[.pointer (some ⟨g, 0, none⟩)] rfl (by (try simp only [List.map_toArray, List.map_cons, List.map_nil]); first | done | rfl) ?_; (with_reducible refine (cur_dead w0 _ g at_ l true ps hS.out).mono ?_); rintro e w1 ⟨rfl, h1⟩; refine ⟨_, rfl, ?_⟩; have hS1 := Aside0.mk h1; clear h1))
  obtain ⟨A, c, hO⟩ := Sep.cur_open hS1.out
  have hc0 : w1.cell? ⟨g, 0, none⟩ = some (.slice A l.length c) := (hO.cell 0).trans rfl
  have hc1 : w1.cell? ⟨g, 1, none⟩ = some (.int .i64 at_) := (hO.cell 1).trans rfl
  have hz1 := hO.frozen 1
  have hO := Aside0.mk hO
  go_quiet (fail)
  go_wp2
  have hS2 : Sep w0 ((w1.drewN nq).setCell ⟨g, 1, none⟩ (.int .i64 ((at_ : Int) + (m : Int)))) (cur g l (at_ + m) true :: ps) := by
    refine Sep.cur_close (A := A) (c := c) ?_
    have := (hO.out.drewN nq).set 1 (.int .i64 ((at_ : Int) + (m : Int)))
    simpa using this
  clear hc0 hc1 hz1 hO
  generalize (w1.drewN nq).setCell ⟨g, 1, none⟩ (.int .i64 ((at_ : Int) + (m : Int))) = w2 at hS2 ⊢
  obtain ⟨A2, c2, hO2⟩ := hS2.drew.cur_open
  obtain ⟨bs, hR⟩ := hO2.tail.row_R
  have hr := Kd.R_reads' hR
  have hc0 : w2.drew.cell? ⟨g, 0, none⟩ = some (.slice A2 l.length c2) := (hO2.cell 0).trans rfl
  have hc1 : w2.drew.cell? ⟨g, 1, none⟩ = some (.int .i64 ((at_ : Int) + (m : Int))) := by have := hO2.cell 1; simpa using this
  obtain ⟨i0, hi0, _, hsz, _⟩ := info_parts info8
  have hcut := cut_mid (P := Try.prog) 39 5 .i64 .i64 Try.underlying39 hi0 1 hsz A2 l.length c2 (at_ : Int) ((at_ : Int) + (m : Int)) (by omega) (by omega) (by omega) hr.2.1
  have hC := Kd.C_mid (lo := at_) (hi := at_ + m) (c := c2) hr.2.2 (by omega) (by omega) hr.2.1
  obtain ⟨A3, hA3⟩ : ∃ A3, A3 = (if c2 = at_ then A2 else A2.map (·.add (at_ * 1))) := ⟨_, rfl⟩
  rw [show ((at_ : Int) + (m : Int)).toNat - (at_ : Int).toNat = m by omega, show (at_ : Int).toNat = at_ by omega, ← hA3] at hcut
  have hlen : ((l.take (at_ + m)).drop at_).length = m := by rw [List.length_drop, List.length_take]; omega
  have hC := Aside0.mk (show Kd.C (Kd.int .u8) w2.drew A3 ((l.take (at_ + m)).drop at_).length ((l.take (at_ + m)).drop at_) by rw [hA3]; exact hC)
  have hcl := Aside0.mk hr.2.1
  have hS2 := Aside0.mk hS2.drew
  have hwat : wrap64 (at_ : Int) = (at_ : Int) := w64 (by omega) (by omega)
  clear hO2 hR hr hA3
  refine start_ (n := 17) (S := fun w' => w'.cell? ⟨g, 0, none⟩ = some (.slice A2 l.length c2) ∧ w'.cell? ⟨g, 1, none⟩ = some (.int .i64 ((at_ : Int) + (m : Int)))) (ds := [15]) #[false, false, false, false, false, false, false, false, false, false, false, false, false, false, false, false, false] (by kernel_rfl) rfl rfl ⟨hc0, hc1⟩ (fun hHeld => ?_)
  refine pure_ (i := 0) (N := some 33) (v := ?_) (a' := ?_) #[true, false, false, false, false, false, false, false, false, false, false, false, false, false, false, false, false] rfl rfl (by kernel_rfl) (fun _ _ _ h => h) (Or.inl ⟨by rfl, ?_⟩) ?_ ?_
  rotate_left
  · intro w'
    go_simp
    with_reducible rfl
  rotate_left
  · simp only [Act.put, List.setIfInBounds_toArray, List.set_cons_zero, List.set_cons_succ, i64_w, i32_w]
    rfl
  refine pure_ (i := 1) (N := some 34) (v := ?_) (a' := ?_) #[true, true, false, false, false, false, false, false, false, false, false, false, false, false, false, false, false] rfl rfl (by kernel_rfl) (fun _ _ _ h => h) (Or.inl ⟨by rfl, ?_⟩) ?_ ?_
  rotate_left
  · intro w'
    go_simp
    with_reducible rfl
  rotate_left
  · simp only [Act.put, List.setIfInBounds_toArray, List.set_cons_zero, List.set_cons_succ, i64_w, i32_w]
    rfl
  refine pure_ (i := 2) (N := some 35) (v := ?_) (a' := ?_) #[true, true, true, false, false, false, false, false, false, false, false, false, false, false, false, false, false] rfl rfl (by kernel_rfl) (fun _ _ _ h => h) (Or.inl ⟨by rfl, ?_⟩) ?_ ?_
  rotate_left
  · intro w'
    go_simp
    with_reducible rfl
  rotate_left
  · simp only [Act.put, List.setIfInBounds_toArray, List.set_cons_zero, List.set_cons_succ, i64_w, i32_w]
    rfl
  refine pure_ (i := 4) (N := some 37) (v := ?_) (a' := ?_) #[true, true, true, false, true, false, false, false, false, false, false, false, false, false, false, false, false] rfl rfl (by kernel_rfl) (fun _ _ _ h => h) (Or.inl ⟨by rfl, ?_⟩) ?_ ?_
  rotate_left
  · intro w'
    go_simp
    with_reducible rfl
  rotate_left
  · simp only [Act.put, List.setIfInBounds_toArray, List.set_cons_zero, List.set_cons_succ, i64_w, i32_w]
    rfl
  refine pure_ (i := 5) (N := some 38) (v := ?_) (a' := ?_) #[true, true, true, false, true, true, false, false, false, false, false, false, false, false, false, false, false] rfl rfl (by kernel_rfl) (fun _ _ _ h => h) (Or.inl ⟨by rfl, ?_⟩) ?_ ?_
  rotate_left
  · intro w'
    go_simp
    with_reducible rfl
  rotate_left
  · simp only [Act.put, List.setIfInBounds_toArray, List.set_cons_zero, List.set_cons_succ, i64_w, i32_w]
    rfl
  refine pure_ (i := 6) (N := some 39) (v := ?_) (a' := ?_) #[true, true, true, false, true, true, true, false, false, false, false, false, false, false, false, false, false] rfl rfl (by kernel_rfl) (fun _ _ _ h => h) (Or.inl ⟨by rfl, ?_⟩) ?_ ?_
  rotate_left
  · intro w'
    go_simp
    with_reducible rfl
  rotate_left
  · simp only [Act.put, List.setIfInBounds_toArray, List.set_cons_zero, List.set_cons_succ, i64_w, i32_w]
    rfl
  refine pure_ (i := 8) (N := some 41) (v := ?_) (a' := ?_) #[true, true, true, false, true, true, true, false, true, false, false, false, false, false, false, false, false] rfl rfl (by kernel_rfl) (fun _ _ _ h => h) (Or.inl ⟨by rfl, ?_⟩) ?_ ?_
  rotate_left
  · intro w'
    go_simp
    with_reducible rfl
  rotate_left
  · simp only [Act.put, List.setIfInBounds_toArray, List.set_cons_zero, List.set_cons_succ, i64_w, i32_w]
    rfl
  refine pure_ (i := 10) (N := some 43) (v := ?_) (a' := ?_) #[true, true, true, false, true, true, true, false, true, false, true, false, false, false, false, false, false] rfl rfl (by kernel_rfl) (fun _ _ _ h => h) (Or.inl ⟨by rfl, ?_⟩) ?_ ?_
  rotate_left
  · intro w'
    go_simp
    with_reducible rfl
  rotate_left
  · simp only [Act.put, List.setIfInBounds_toArray, List.set_cons_zero, List.set_cons_succ, i64_w, i32_w]
    rfl
  refine pure_ (i := 11) (N := some 44) (v := ?_) (a' := ?_) #[true, true, true, false, true, true, true, false, true, false, true, true, false, false, false, false, false] rfl rfl (by kernel_rfl) (fun _ _ _ h => h) (Or.inl ⟨by rfl, ?_⟩) ?_ ?_
  rotate_left
  · intro w'
    go_simp
    with_reducible rfl
  rotate_left
  · simp only [Act.put, List.setIfInBounds_toArray, List.set_cons_zero, List.set_cons_succ, i64_w, i32_w]
    rfl
  refine pure_ (i := 12) (N := some 45) (v := ?_) (a' := ?_) #[true, true, true, false, true, true, true, false, true, false, true, true, true, false, false, false, false] rfl rfl (by kernel_rfl) (fun _ _ _ h => h) (Or.inl ⟨by rfl, ?_⟩) ?_ ?_
  rotate_left
  · intro w'
    go_simp
    with_reducible rfl
  rotate_left
  · simp only [Act.put, List.setIfInBounds_toArray, List.set_cons_zero, List.set_cons_succ, i64_w, i32_w]
    rfl
  refine take_ (i := 3) (N := some 36) (v := ?_) (a' := ?_) #[true, true, true, true, true, true, true, false, true, false, true, true, true, false, false, false, false] rfl rfl (by kernel_rfl) (fun _ _ _ h => h) (Or.inl ⟨by rfl, ?_⟩) hHeld ?_ ?_
  rotate_left
  · rintro w' ⟨s0, s1⟩
    go_simp
    with_reducible rfl
  rotate_left
  · simp only [Act.put, List.setIfInBounds_toArray, List.set_cons_zero, List.set_cons_succ, i64_w, i32_w]
    rfl
  refine take_ (i := 7) (N := some 40) (v := ?_) (a' := ?_) #[true, true, true, true, true, true, true, true, true, false, true, true, true, false, false, false, false] rfl rfl (by kernel_rfl) (fun _ _ _ h => h) (Or.inl ⟨by rfl, ?_⟩) hHeld ?_ ?_
  rotate_left
  · rintro w' ⟨s0, s1⟩
    go_simp
    with_reducible rfl
  rotate_left
  · simp only [Act.put, List.setIfInBounds_toArray, List.set_cons_zero, List.set_cons_succ, i64_w, i32_w]
    rfl
  refine pure_ (i := 9) (N := some 42) (v := ?_) (a' := ?_) #[true, true, true, true, true, true, true, true, true, true, true, true, true, false, false, false, false] rfl rfl (by kernel_rfl) (fun _ _ _ h => h) (Or.inl ⟨by rfl, ?_⟩) ?_ ?_
  rotate_left
  · intro w'
    go_simp
    with_reducible rfl
  rotate_left
  · simp only [Act.put, List.setIfInBounds_toArray, List.set_cons_zero, List.set_cons_succ, i64_w, i32_w]
    rfl
  refine take_ (i := 13) (N := some 46) (v := ?_) (a' := ?_) #[true, true, true, true, true, true, true, true, true, true, true, true, true, true, false, false, false] rfl rfl (by kernel_rfl) (fun _ _ _ h => h) (Or.inl ⟨by rfl, ?_⟩) hHeld ?_ ?_
  rotate_left
  · rintro w' ⟨s0, s1⟩
    go_simp
    with_reducible rfl
  rotate_left
  · simp only [Act.put, List.setIfInBounds_toArray, List.set_cons_zero, List.set_cons_succ, i64_w, i32_w]
    rfl
  refine pure_ (i := 14) (N := some 47) (v := ?_) (a' := ?_) #[true, true, true, true, true, true, true, true, true, true, true, true, true, true, true, false, false] rfl rfl (by kernel_rfl) (fun _ _ _ h => h) (Or.inl ⟨by rfl, ?_⟩) ?_ ?_
  rotate_left
  · intro w'
    go_simp
    with_reducible rfl
  rotate_left
  · simp only [Act.put, List.setIfInBounds_toArray, List.set_cons_zero, List.set_cons_succ, i64_w, i32_w]
    rfl
  refine last_ (i := 15) (N := some 48) #[true, true, true, true, true, true, true, true, true, true, true, true, true, true, true, true, false] rfl rfl (by kernel_rfl) (by decide) (fun K hK => ?_)
  refine goes_ Try.func111 (by kernel_rfl) rfl #[.slice A3 m (c2 - at_)] (by rfl) rfl rfl (by (try simp only [List.map_toArray, List.map_cons, List.map_nil]); first | done | rfl) ?_
  refine (G.bytes_Clone.calls (n := m) A3 (c2 - at_) ((l.take (at_ + m)).drop at_) _ _ hC.out (by rw [hlen]; have := hcl.out; omega) (by unfold G.bytes_Clone.f; exact if_pos (by omega)) hlen.symm).mono ?_
  rintro e w3 ⟨v3, rfl, ho, hb⟩
  refine ⟨_, rfl, ?_⟩
  have hS3 := Aside0.mk (Sep.row_new hS2.out hb ho)
  clear ho hb
  refine hK.out _ _ ?_
  clear hK K
  refine norm_ (a' := ?_) ?_ ?_
  rotate_left
  · show Act.put _ (some 48) _ = _
    simp only [Act.put, List.setIfInBounds_toArray, List.set_cons_zero, List.set_cons_succ, i64_w, i32_w]
    rfl
  refine pure_ (i := 16) (N := some 4) (v := ?_) (a' := ?_) #[true, true, true, true, true, true, true, true, true, true, true, true, true, true, true, true, true] rfl rfl (by kernel_rfl) (fun _ _ _ h => h) (Or.inl ⟨by rfl, ?_⟩) ?_ ?_
  rotate_left
  · intro w'
    go_simp
    with_reducible rfl
  rotate_left
  · simp only [Act.put, List.setIfInBounds_toArray, List.set_cons_zero, List.set_cons_succ, i64_w, i32_w]
    rfl
  refine done_ (by kernel_rfl) ?_
  go_wp2
  go_ret
  exact ⟨_, rfl, hS3.out⟩
end Go.Proofs.Ytekanmieppnpeaa.Sep
set_option linter.unusedVariables false
set_option linter.unusedSimpArgs false
namespace Go.Proofs.Ytekanmieppnpeaa.Sep
open Go Go.RowKit Go.Proofs.YtekanmieppnpeaaW.PrintWords Go.Proofs.YtekanmieppnpeaaW.PrintLast Go.Proofs.YtekanmieppnpeaaW.PrintMore Go.Proofs.Ytekanmieppnpeaa.PureKit
def lev : List Int → Int
  | [] => 0
  | b :: bs => b + 256 * lev bs
theorem lev_append : ∀ (a b : List Int), lev (a ++ b) = lev a + 256 ^ a.length * lev b
  | [], b => by simp [lev]
  | x :: xs, b => by
    simp only [List.cons_append, lev, lev_append xs b, List.length_cons, Int.pow_succ]
    rw [Int.mul_add, Int.add_assoc, ← Int.mul_assoc, Int.mul_comm 256 (256 ^ xs.length)]
theorem lev_take (ys : List Int) (i : Nat) (h : i < ys.length) (hb : Bytes ys) : lev (ys.take (i + 1)) = lev (ys.take i) + ys[i] * 256 ^ i := by
  rw [List.take_succ_eq_append_getElem h, lev_append, List.length_take, Nat.min_eq_left (by omega)]
  simp [lev, Int.mul_comm]
theorem lev_bound : ∀ (a : List Int), Bytes a → 0 ≤ lev a ∧ lev a < 256 ^ a.length
  | [], _ => by simp [lev]
  | x :: xs, h => by
    have := lev_bound xs h.tail
    have hx := h.head
    simp only [lev, List.length_cons, Int.pow_succ]
    omega
theorem or_step (X y : Int) (i : Nat) (hi : i < 8) (h0 : 0 ≤ X) (h1 : X < 256 ^ i) (hy0 : 0 ≤ y) (hy1 : y ≤ 255) : bits BinOp.or IntKind.u64 X (IntKind.u64.wrap (y * 2 ^ (8 * i))) = X + y * 256 ^ i := by
  obtain ⟨a, rfl⟩ := Int.eq_ofNat_of_zero_le h0
  obtain ⟨b, rfl⟩ := Int.eq_ofNat_of_zero_le hy0
  have hp : (256 : Int) ^ i = ((2 ^ (8 * i) : Nat) : Int) := by rw [Nat.pow_mul]; simp
  have hq : (2 : Int) ^ (8 * i) = ((2 ^ (8 * i) : Nat) : Int) := by simp
  have hle : 2 ^ (8 * i) ≤ 2 ^ 56 := Nat.pow_le_pow_right (by omega) (by omega)
  rw [hp] at h1 ⊢
  rw [hq]
  generalize hP : 2 ^ (8 * i) = P at *
  have ha : a < P := by omega
  have hbP : b * P ≤ 255 * 2 ^ 56 := Nat.mul_le_mul (by omega) hle
  have hm : (b : Int) * (P : Int) = ((b * P : Nat) : Int) := by simp
  rw [hm, wu64 (by omega) (by omega), bits_or_u64_nat a (b * P) (by omega) (by omega)]
  have := Nat.two_pow_add_eq_or_of_lt (i := 8 * i) (b := a) (by rw [hP]; exact ha) b
  rw [hP] at this
  rw [Nat.or_comm, Nat.mul_comm b P, ← this]
  omega
set_option maxHeartbeats 4000000 in
set_option maxRecDepth 100000 in
theorem cur_num_short (w0 w : World) (g at_ : Nat) (l : List Int) (ps : List HP) (n : Int) (hs : Sep w0 w (cur g l at_ true :: ps)) (hn : 0 < n) (hat : at_ ≤ l.length) (hl : l.length ≤ 1000000000000) (hsh : n > (l.length : Int) - at_) :
    Calls Try.prog 113 #[.pointer (some ⟨g, 0, none⟩), .int .i64 n] w fun e w' => e = .panicked [fault g 2] ∧ Sep w0 w' (cur g l at_ true :: ps) := by
  have hS := Aside0.mk hs
  clear hs
  go_enter Try.func113, Try.ntmps113
  go_wp2_with (fail)
  refine (cur_Take_short w0 _ g at_ l ps n hS.out hn hat hl hsh).mono ?_
  rintro e w1 ⟨rfl, h1⟩
  exact ⟨rfl, rfl, h1⟩
set_option maxHeartbeats 4000000 in
set_option maxRecDepth 100000 in
theorem cur_num_some (w0 w : World) (g at_ : Nat) (l : List Int) (ps : List HP) (m : Nat) (n : Int) (hm : n = m) (hs : Sep w0 w (cur g l at_ true :: ps)) (hb : Bytes l) (hn : 0 < m) (hm8 : m ≤ 8) (hl : l.length ≤ 1000000000000) (hsh : at_ + m ≤ l.length) :
    Calls Try.prog 113 #[.pointer (some ⟨g, 0, none⟩), .int .i64 n] w fun e w' => e = .returned (.int .u64 (lev ((l.take (at_ + m)).drop at_))) ∧ Sep w0 w' (cur g l (at_ + m) true :: ps) := by
  have hS := Aside0.mk hs
  clear hs
  have hlen : ((l.take (at_ + m)).drop at_).length = m := by rw [List.length_drop, List.length_take]; omega
  have hby : Bytes ((l.take (at_ + m)).drop at_) := (hb.take _).drop _
  generalize hys : (l.take (at_ + m)).drop at_ = ys at *
  go_enter Try.func113, Try.ntmps113
  go_wp2_with (first | ((with_reducible refine gate_callee (f := 142) rfl ?_); refine goesL_ (some 10) rfl rfl Try.func142 (by kernel_rfl) rfl #[.pointer (some ⟨g, 0, none⟩), .int .i64 n] rfl (by (try simp only [List.map_toArray, List.map_cons, List.map_nil]); first | done | rfl) ?_; (with_reducible refine (cur_Take_some w0 _ g at_ l ps m n hm hS.out hn hl hsh).mono ?_); rintro e w1 ⟨v1, rfl, h1⟩; refine ⟨_, rfl, ?_⟩; rw [hys] at h1; obtain ⟨bs1, hR1⟩ := h1.row_R; obtain ⟨A1, c1, e1⟩ := Kd.R_slice hR1; subst e1; have hS1 := Aside0.mk h1; clear h1 hR1))
  go_loopg [5, 12] m (fun kq v5 v12 w' => ∃ (i : Nat), v5 = .int .u64 (lev (ys.take i)) ∧ v12 = .int .i64 i ∧ Aside0 (i + kq = m) ∧ Aside0 (Sep w0 w' (row (Kd.int .u8) 5 (.slice A1 ys.length c1) ys :: cur g l (at_ + m) true :: ps)))
  case atStart => exact ⟨0, by simp [lev], rfl, ⟨by omega⟩, hS1⟩
  case round =>
    obtain ⟨i, rfl, rfl, hA, hS⟩ := hrel
    by_cases hin : i < m
    · have hd : decide ((i : Int) < (ys.length : Int)) = true := decide_eq_true (by omega)
      obtain ⟨k1, rfl⟩ : ∃ k1, gk = k1 + 1 := ⟨gk - 1, by have := hA.out; omega⟩
      obtain ⟨bs, hR⟩ := hS.out.row_R
      have hC := (Kd.R_reads' hR).2.2
      obtain ⟨ad, e0, hx⟩ := Kd.at_int hC (i : Int) (by omega) (by omega)
      cases e0
      simp only [Int.toNat_natCast] at hx
      rw [rd_at ys i (by omega)] at hx
      have hyb := hby ys[i] (List.getElem_mem (by omega))
      obtain ⟨y, hy⟩ : ∃ y, ys[i]'(by omega) = y := ⟨_, rfl⟩
      rw [hy] at hx hyb
      have hy := Aside0.mk hy
      have p0 : ((0 : Int) ≤ (i : Int)) = True := eq_true (by omega)
      have q0 : ((i : Int) < (ys.length : Int)) = True := eq_true (by omega)
      generalize hX : lev (ys.take i) = X
      have hX := Aside0.mk hX
      go_wp2
      go_roundg k1
      case measure => omega
      case rel =>
        have hXX := hX.out
        have hlv := lev_take ys i (by omega) hby
        have hbd := lev_bound (ys.take i) (hby.take _)
        rw [List.length_take, Nat.min_eq_left (by omega)] at hbd
        rw [hXX] at hlv hbd
        rw [hy.out] at hlv
        refine ⟨i + 1, ?_, by simp, ⟨by have := hA.out; omega⟩, hS⟩
        rw [hlv, or_step X y i (by omega) hbd.1 hbd.2 hyb.1 hyb.2]
    · have him : i = m := by have := hA.out; omega
      have hd : decide ((i : Int) < (ys.length : Int)) = false := decide_eq_false (by omega)
      go_wp2
      go_ret
      refine ⟨?_, hS.out.tail⟩
      rw [List.take_of_length_le (by omega)]
      rfl
end Go.Proofs.Ytekanmieppnpeaa.Sep
set_option linter.unusedVariables false
set_option linter.unusedSimpArgs false
namespace Go.Proofs.Ytekanmieppnpeaa.Sep
open Go Go.RowKit Go.Proofs.YtekanmieppnpeaaW.PrintWords Go.Proofs.YtekanmieppnpeaaW.PrintLast Go.Proofs.YtekanmieppnpeaaW.PrintMore Go.Proofs.Ytekanmieppnpeaa.PureKit
set_option maxHeartbeats 4000000 in
theorem cur_Byte_short (w0 w : World) (g at_ : Nat) (l : List Int) (ps : List HP) (hs : Sep w0 w (cur g l at_ true :: ps)) (hl : l.length ≤ 1000000000000) (hsh : at_ = l.length) :
    Calls Try.prog 70 #[.pointer (some ⟨g, 0, none⟩)] w fun e w' => e = .panicked [fault g 2] ∧ Sep w0 w' (cur g l at_ true :: ps) := by
  have hS := Aside0.mk hs
  clear hs
  go_enter Try.func70, Try.ntmps70
  go_wp2_with (fail)
  refine (cur_num_short w0 _ g at_ l ps 1 hS.out (by decide) (by omega) hl (by omega)).mono ?_
  rintro e w1 ⟨rfl, h1⟩
  exact ⟨rfl, rfl, h1⟩
set_option maxHeartbeats 4000000 in
theorem cur_Byte_some (w0 w : World) (g at_ : Nat) (l : List Int) (ps : List HP) (hs : Sep w0 w (cur g l at_ true :: ps)) (hb : Bytes l) (hl : l.length ≤ 1000000000000) (hsh : at_ < l.length) :
    Calls Try.prog 70 #[.pointer (some ⟨g, 0, none⟩)] w fun e w' => e = .returned (.int .u8 l[at_]) ∧ Sep w0 w' (cur g l (at_ + 1) true :: ps) := by
  have hS := Aside0.mk hs
  clear hs
  have h1 : (l.take (at_ + 1)).drop at_ = [l[at_]] := by
    rw [List.take_succ_eq_append_getElem hsh, List.drop_left' (by rw [List.length_take]; omega)]
  have hx := hb _ (List.getElem_mem hsh)
  generalize l[at_] = y at *
  go_enter Try.func70, Try.ntmps70
  go_wp2_with (first | ((with_reducible refine gate_callee (f := 113) rfl ?_); refine goesL_ (some 4) rfl rfl Try.func113 (by kernel_rfl) rfl #[.pointer (some ⟨g, 0, none⟩), .int .i64 1] rfl (by (try simp only [List.map_toArray, List.map_cons, List.map_nil]); first | done | rfl) ?_; (with_reducible refine (cur_num_some w0 _ g at_ l ps 1 1 rfl hS.out hb (by decide) (by decide) hl (by omega)).mono ?_); rintro e w1 ⟨rfl, h2⟩; refine ⟨_, rfl, ?_⟩; rw [h1, show lev [y] = y by simp [lev]]; have hS1 := Aside0.mk h2; clear h2))
  go_ret
  exact ⟨rfl, hS1.out⟩
set_option maxHeartbeats 4000000 in
theorem cur_Left (w0 w : World) (g at_ : Nat) (l : List Int) (ps : List HP) (hs : Sep w0 w (cur g l at_ true :: ps)) (hat : at_ ≤ l.length) (hl : l.length ≤ 1000000000000) :
    Calls Try.prog 124 #[.pointer (some ⟨g, 0, none⟩)] w fun e w' => e = .returned (.int .i64 ((l.length : Int) - at_)) ∧ Sep w0 w' (cur g l at_ true :: ps) := by
  have hS := Aside0.mk hs
  clear hs
  go_enter Try.func124, Try.ntmps124
  go_wp2_with (first | ((with_reducible refine gate_callee (f := 123) rfl ?_); refine goesL_ (some 4) rfl rfl Try.func123 (by kernel_rfl) rfl #[.pointer (some ⟨g, 0, none⟩)] rfl (by (try simp only [List.map_toArray, List.map_cons, List.map_nil]); first | done | rfl) ?_; (with_reducible refine (cur_dead w0 _ g at_ l true ps hS.out).mono ?_); rintro e w1 ⟨rfl, h1⟩; refine ⟨_, rfl, ?_⟩; have hS1 := Aside0.mk h1; clear h1))
  obtain ⟨A, c, hO⟩ := Sep.cur_open hS1.out
  have hc0 : w1.cell? ⟨g, 0, none⟩ = some (.slice A l.length c) := (hO.cell 0).trans rfl
  have hc1 : w1.cell? ⟨g, 1, none⟩ = some (.int .i64 at_) := (hO.cell 1).trans rfl
  clear hO
  repeat (go_quiet (fail); try go_wp2)
  go_ret
  refine ⟨?_, hS1.out.drewN _⟩
  show Ending.returned (Value.int .i64 (IntKind.i64.wrap ((l.length : Int) - (at_ : Int)))) = _
  rw [i64_w, w64 (by omega) (by omega)]
set_option maxHeartbeats 4000000 in
theorem cur_End_ok (w0 w : World) (g at_ : Nat) (l : List Int) (ps : List HP) (hs : Sep w0 w (cur g l at_ true :: ps)) (hat : at_ = l.length) (hl : l.length ≤ 1000000000000) :
    Calls Try.prog 73 #[.pointer (some ⟨g, 0, none⟩)] w fun e w' => e = .returned (.tuple #[]) ∧ Sep w0 w' (cur g l at_ true :: ps) := by
  have hS := Aside0.mk hs
  clear hs
  have hd : decide ((l.length : Int) - (at_ : Int) > 0) = false := decide_eq_false (by omega)
  go_enter Try.func73, Try.ntmps73
  go_wp2_with (first | ((with_reducible refine gate_callee (f := 124) rfl ?_); refine goesL_ (some 3) rfl rfl Try.func124 (by kernel_rfl) rfl #[.pointer (some ⟨g, 0, none⟩)] rfl (by (try simp only [List.map_toArray, List.map_cons, List.map_nil]); first | done | rfl) ?_; (with_reducible refine (cur_Left w0 _ g at_ l ps hS.out (by omega) hl).mono ?_); rintro e w1 ⟨rfl, h1⟩; refine ⟨_, rfl, ?_⟩; have hS1 := Aside0.mk h1; clear h1))
  go_end0
  exact ⟨rfl, hS1.out⟩
set_option maxHeartbeats 4000000 in
theorem cur_End_long (w0 w : World) (g at_ : Nat) (l : List Int) (ps : List HP) (hs : Sep w0 w (cur g l at_ true :: ps)) (hat : at_ < l.length) (hl : l.length ≤ 1000000000000) :
    Calls Try.prog 73 #[.pointer (some ⟨g, 0, none⟩)] w fun e w' => e = .panicked [fault g 3] ∧ Sep w0 w' (cur g l at_ true :: ps) := by
  have hS := Aside0.mk hs
  clear hs
  have hd : decide ((l.length : Int) - (at_ : Int) > 0) = true := decide_eq_true (by omega)
  go_enter Try.func73, Try.ntmps73
  go_wp2_with (first | ((with_reducible refine gate_callee (f := 124) rfl ?_); refine goesL_ (some 3) rfl rfl Try.func124 (by kernel_rfl) rfl #[.pointer (some ⟨g, 0, none⟩)] rfl (by (try simp only [List.map_toArray, List.map_cons, List.map_nil]); first | done | rfl) ?_; (with_reducible refine (cur_Left w0 _ g at_ l ps hS.out (by omega) hl).mono ?_); rintro e w1 ⟨rfl, h1⟩; refine ⟨_, rfl, ?_⟩; have hS1 := Aside0.mk h1; clear h1))
  refine (cur_Fail w0 _ g at_ l ps 3 hS1.out (by decide)).mono ?_
  rintro e w2 ⟨rfl, h2⟩
  exact ⟨rfl, rfl, h2⟩
end Go.Proofs.Ytekanmieppnpeaa.Sep
end
section
set_option linter.unusedVariables false
set_option linter.unusedSimpArgs false
namespace Go.Proofs.Ytekanmieppnpeaa.Sep
open Go Go.RowKit Go.Proofs.YtekanmieppnpeaaW.PrintWords Go.Proofs.YtekanmieppnpeaaW.PrintLast Go.Proofs.YtekanmieppnpeaaW.PrintMore Go.Proofs.Ytekanmieppnpeaa.PureKit
theorem run_neq_ptr_same {P : Program} (w : World) {tp te : TypeId} {j : TypeInfo} (a : Addr) (hp : P.underlying tp = some (.pointer te)) (hte : P.info? te = some j) :
    (binOp .neq tp (.pointer (some a)) (.pointer (some a))).run P w = .ok (.bool false) w := by
  have h : ∀ d : Nat, (Op.equalIn (d + 1) tp (.pointer (some a)) (.pointer (some a))).run P w = .ok true w := fun d => by
    simp [Op.equalIn, run_underlying hp, sizeOf, typeInfo, hte, run_sameAddr_same]
  simp only [binOp]
  simp [Op.equal, Op.maxDepth, h 9999]
set_option maxHeartbeats 400000 in
set_option maxRecDepth 100000 in
theorem run_catch_idle (w0 w : World) (gc ga ge g at_ : Nat) (a0 e0 : Int) (l : List Int) (ps : List HP)
    (hs : Sep w0 w (cur g l at_ true :: blk gc #[.pointer (some ⟨g, 0, none⟩)] 93 :: blk ga #[.int .i64 a0] 3 :: blk ge #[.int .i64 e0] 36 :: ps)) :
    CallsD Try.prog 112 #[.pointer (some ⟨gc, 0, none⟩), .pointer (some ⟨ga, 0, none⟩), .pointer (some ⟨ge, 0, none⟩)] .returning w fun e u' w' =>
      e = .returned (.tuple #[]) ∧ u' = .returning ∧ Sep w0 w' (cur g l at_ false :: blk gc #[.pointer (some ⟨g, 0, none⟩)] 93 :: blk ga #[.int .i64 at_] 3 :: blk ge #[.int .i64 e0] 36 :: ps) := by
  have hS := Aside0.mk hs
  have h2 := hs.perm (List.Perm.swap _ _ _)
  have hcc : w.cell? ⟨gc, 0, none⟩ = some (.pointer (some ⟨g, 0, none⟩)) := (h2.cell 0).trans rfl
  obtain ⟨A, c, hO⟩ := Sep.cur_open hs
  have hc2 : w.cell? ⟨g, 2, none⟩ = some (.bool true) := (hO.cell 2).trans rfl
  have hz2 := hO.frozen 2
  have hO := Aside0.mk hO
  clear h2 hs
  refine callsD_of_wpS Try.func112 rfl fun c₀ cs hu => ?_
  apply wpS_seq
  refine wpS_of_wp ?_
  rw [show ∀ (x y z : Value), #[x, y, z] ++ Array.replicate (Try.f112.ntmps - #[x, y, z].size) undef = #[x, y, z, undef, undef, undef, undef, undef, undef, undef, undef, undef, undef, undef, undef, undef, undef, undef, undef, undef, undef, undef, undef, undef, undef, undef, undef] from fun x y z => by kernel_rfl]
  go_wp2
  simp only [Exit.thenS]
  have hS1 : Sep w0 (w.setCell ⟨g, 2, none⟩ (.bool false)) (cur g l at_ false :: blk gc #[.pointer (some ⟨g, 0, none⟩)] 93 :: blk ga #[.int .i64 a0] 3 :: blk ge #[.int .i64 e0] 36 :: ps) := by
    refine Sep.cur_close (A := A) (c := c) ?_
    have := hO.out.set 2 (.bool false)
    simpa using this
  clear hcc hc2 hz2 hO
  generalize w.setCell ⟨g, 2, none⟩ (.bool false) = w1 at hS1 ⊢
  have hcc : w1.cell? ⟨gc, 0, none⟩ = some (.pointer (some ⟨g, 0, none⟩)) := ((hS1.perm (List.Perm.swap _ _ _)).cell 0).trans rfl
  obtain ⟨A, c, hO⟩ := Sep.cur_open hS1
  have hc1 : w1.cell? ⟨g, 1, none⟩ = some (.int .i64 at_) := (hO.cell 1).trans rfl
  have hga := hS1.perm ((List.Perm.cons _ (List.Perm.swap _ _ _)).trans (List.Perm.swap _ _ _))
  have hca : w1.cell? ⟨ga, 0, none⟩ = some (.int .i64 a0) := (hga.cell 0).trans rfl
  have hza := hga.frozen 0
  have hga := Aside0.mk hga
  clear hO
  apply wpS_seq
  refine wpS_of_wp ?_
  go_wp2
  simp only [Exit.thenS]
  have hS2 : Sep w0 (w1.setCell ⟨ga, 0, none⟩ (.int .i64 at_)) (cur g l at_ false :: blk gc #[.pointer (some ⟨g, 0, none⟩)] 93 :: blk ga #[.int .i64 at_] 3 :: blk ge #[.int .i64 e0] 36 :: ps) := by
    have := hga.out.set 0 (.int .i64 at_)
    have := this.perm ((List.Perm.swap _ _ _).trans (List.Perm.cons _ (List.Perm.swap _ _ _)))
    simpa using this
  clear hcc hc1 hca hza hga
  generalize w1.setCell ⟨ga, 0, none⟩ (.int .i64 at_) = w2 at hS2 ⊢
  have hS2 := Aside0.mk hS2
  apply wpS_seq
  apply wpS_region
  simp [wpOpsS, go_sem, recoverD, hu, Exit.thenS]
  refine wpS_of_wp ?_
  go_wp2
  have hS3 := hS2.out
  clear hS2 hS
  generalize hps : (cur g l at_ false :: blk gc #[.pointer (some ⟨g, 0, none⟩)] 93 :: blk ga #[.int .i64 at_] 3 :: blk ge #[.int .i64 e0] 36 :: ps) = qs at hS3 ⊢
  clear hps
  cases c₀
  simp_all [bodyPostS, results, Try.results112]
set_option maxHeartbeats 400000 in
set_option maxRecDepth 100000 in
theorem run_catch_fault (w0 w : World) (gc ga ge g at_ : Nat) (a0 e0 x : Int) (older : List PanicEntry) (l : List Int) (ps : List HP)
    (hs : Sep w0 w (cur g l at_ true :: blk gc #[.pointer (some ⟨g, 0, none⟩)] 93 :: blk ga #[.int .i64 a0] 3 :: blk ge #[.int .i64 e0] 36 :: ps)) :
    CallsD Try.prog 112 #[.pointer (some ⟨gc, 0, none⟩), .pointer (some ⟨ga, 0, none⟩), .pointer (some ⟨ge, 0, none⟩)] (.panicking (fault g x :: older)) w fun e u' w' =>
      e = .returned (.tuple #[]) ∧ u' = .panicking ({ v := (fault g x).v, recovered := true } :: older) ∧ Sep w0 w' (cur g l at_ false :: blk gc #[.pointer (some ⟨g, 0, none⟩)] 93 :: blk ga #[.int .i64 at_] 3 :: blk ge #[.int .i64 x] 36 :: ps) := by
  have hS := Aside0.mk hs
  have h2 := hs.perm (List.Perm.swap _ _ _)
  have hcc : w.cell? ⟨gc, 0, none⟩ = some (.pointer (some ⟨g, 0, none⟩)) := (h2.cell 0).trans rfl
  obtain ⟨A, c, hO⟩ := Sep.cur_open hs
  have hc2 : w.cell? ⟨g, 2, none⟩ = some (.bool true) := (hO.cell 2).trans rfl
  have hz2 := hO.frozen 2
  have hO := Aside0.mk hO
  clear h2 hs
  refine callsD_of_wpS Try.func112 rfl fun c₀ cs hu => ?_
  apply wpS_seq
  refine wpS_of_wp ?_
  rw [show ∀ (x y z : Value), #[x, y, z] ++ Array.replicate (Try.f112.ntmps - #[x, y, z].size) undef = #[x, y, z, undef, undef, undef, undef, undef, undef, undef, undef, undef, undef, undef, undef, undef, undef, undef, undef, undef, undef, undef, undef, undef, undef, undef, undef] from fun x y z => by kernel_rfl]
  go_wp2
  simp only [Exit.thenS]
  have hS1 : Sep w0 (w.setCell ⟨g, 2, none⟩ (.bool false)) (cur g l at_ false :: blk gc #[.pointer (some ⟨g, 0, none⟩)] 93 :: blk ga #[.int .i64 a0] 3 :: blk ge #[.int .i64 e0] 36 :: ps) := by
    refine Sep.cur_close (A := A) (c := c) ?_
    have := hO.out.set 2 (.bool false)
    simpa using this
  clear hcc hc2 hz2 hO
  generalize w.setCell ⟨g, 2, none⟩ (.bool false) = w1 at hS1 ⊢
  have hcc : w1.cell? ⟨gc, 0, none⟩ = some (.pointer (some ⟨g, 0, none⟩)) := ((hS1.perm (List.Perm.swap _ _ _)).cell 0).trans rfl
  obtain ⟨A, c, hO⟩ := Sep.cur_open hS1
  have hc1 : w1.cell? ⟨g, 1, none⟩ = some (.int .i64 at_) := (hO.cell 1).trans rfl
  have hga := hS1.perm ((List.Perm.cons _ (List.Perm.swap _ _ _)).trans (List.Perm.swap _ _ _))
  have hca : w1.cell? ⟨ga, 0, none⟩ = some (.int .i64 a0) := (hga.cell 0).trans rfl
  have hza := hga.frozen 0
  have hga := Aside0.mk hga
  clear hO
  apply wpS_seq
  refine wpS_of_wp ?_
  go_wp2
  simp only [Exit.thenS]
  have hS2 : Sep w0 (w1.setCell ⟨ga, 0, none⟩ (.int .i64 at_)) (cur g l at_ false :: blk gc #[.pointer (some ⟨g, 0, none⟩)] 93 :: blk ga #[.int .i64 at_] 3 :: blk ge #[.int .i64 e0] 36 :: ps) := by
    have := hga.out.set 0 (.int .i64 at_)
    have := this.perm ((List.Perm.swap _ _ _).trans (List.Perm.cons _ (List.Perm.swap _ _ _)))
    simpa using this
  clear hcc hc1 hca hza hga
  generalize w1.setCell ⟨ga, 0, none⟩ (.int .i64 at_) = w2 at hS2 ⊢
  have hS2 := Aside0.mk hS2
  apply wpS_seq
  apply wpS_region
  have hcc : w2.cell? ⟨gc, 0, none⟩ = some (.pointer (some ⟨g, 0, none⟩)) := ((hS2.out.perm (List.Perm.swap _ _ _)).cell 0).trans rfl
  simp [wpOpsS, go_sem, recoverD, hu, Exit.thenS, fault]
  have hta : ∀ (v : Value) (W : World), (Instr.typeAssert (.iface 151 v) 20 151 true).run Try.prog W = .ok (.tuple #[v, .bool true]) W := fun v W => by rfl
  have hA := hS2.out.alloc #[.pointer (some ⟨g, 0, none⟩), .int .i64 x] 151
  clear hcc
  have hcc : (w2.alloc (.cells #[.pointer (some ⟨g, 0, none⟩), .int .i64 x] 151 (0, 0))).cell? ⟨gc, 0, none⟩ = some (.pointer (some ⟨g, 0, none⟩)) := ((hA.tail.perm (List.Perm.swap _ _ _)).cell 0).trans rfl
  have hce : (w2.alloc (.cells #[.pointer (some ⟨g, 0, none⟩), .int .i64 x] 151 (0, 0))).cell? ⟨ge, 0, none⟩ = some (.int .i64 e0) := (hA.tail.tail.tail.tail.cell 0).trans rfl
  have hze := hA.tail.tail.tail.tail.frozen 0
  have hE := Aside0.mk ((hA.tail.perm (List.perm_middle (l₁ := [cur g l at_ false, blk gc #[.pointer (some ⟨g, 0, none⟩)] 93, blk ga #[.int .i64 at_] 3]) (a := blk ge #[.int .i64 e0] 36) (l₂ := ps))).set 0 (.int .i64 x))
  clear hA
  obtain ⟨j_, hj_⟩ : ∃ j, Try.prog.info? 149 = some j := Option.isSome_iff_exists.mp (by kernel_rfl)
  have hne := fun W => run_neq_ptr_same (P := Try.prog) W ⟨g, 0, none⟩ Try.underlying93 hj_
  refine wpS_of_wp ?_
  go_wp2
  have hS3 : Sep w0 ((w2.alloc (.cells #[.pointer (some ⟨g, 0, none⟩), .int .i64 x] 151 (0, 0))).setCell ⟨ge, 0, none⟩ (.int .i64 x)) (cur g l at_ false :: blk gc #[.pointer (some ⟨g, 0, none⟩)] 93 :: blk ga #[.int .i64 at_] 3 :: blk ge #[.int .i64 x] 36 :: ps) := by
    have h9 : Sep w0 _ (blk ge #[.int .i64 x] 36 :: ([cur g l at_ false, blk gc #[.pointer (some ⟨g, 0, none⟩)] 93, blk ga #[.int .i64 at_] 3] ++ ps)) := hE.out
    exact h9.perm (List.perm_middle (l₁ := [cur g l at_ false, blk gc #[.pointer (some ⟨g, 0, none⟩)] 93, blk ga #[.int .i64 at_] 3]) (a := blk ge #[.int .i64 x] 36) (l₂ := ps)).symm
  clear hE hS2 hS hcc hce hze hne hta
  generalize (cur g l at_ false :: blk gc #[.pointer (some ⟨g, 0, none⟩)] 93 :: blk ga #[.int .i64 at_] 3 :: blk ge #[.int .i64 x] 36 :: ps) = qs at hS3 ⊢
  generalize (w2.alloc (.cells #[.pointer (some ⟨g, 0, none⟩), .int .i64 x] 151 (0, 0))).setCell ⟨ge, 0, none⟩ (.int .i64 x) = w3 at hS3 ⊢
  cases c₀
  simp_all [bodyPostS, results, Try.results112]
end Go.Proofs.Ytekanmieppnpeaa.Sep
set_option linter.unusedVariables false
set_option linter.unusedSimpArgs false
namespace Go.Proofs.Ytekanmieppnpeaa.Sep
open Go Go.RowKit Go.Proofs.YtekanmieppnpeaaW.PrintWords Go.Proofs.YtekanmieppnpeaaW.PrintLast Go.Proofs.YtekanmieppnpeaaW.PrintMore Go.Proofs.Ytekanmieppnpeaa.PureKit
set_option maxHeartbeats 400000 in
set_option maxRecDepth 100000 in
theorem run_calls (w0 w : World) (A : Option Addr) (c : Nat) (l : List Int) (fid : FuncId) (caps : Array Value) (R ps : List HP) (Q : Nat → Int → List HP → Prop)
    (hent : ∀ (args : Array Value) (w : World), (callFunc fid args).run Try.prog w = .ok (.enter fid args) w)
    (hs : Sep w0 w (R ++ ps)) (hr : Kd.C (Kd.int .u8) w A l.length l) (hc : l.length ≤ c) (hl : l.length ≤ 1000000000000)
    (hcl : ∀ (w1 : World) (g : Nat) (ps' : List HP), Sep w0 w1 (cur g l 0 true :: (R ++ ps')) → Calls Try.prog fid (#[.pointer (some ⟨g, 0, none⟩)] ++ caps) w1 fun e w2 =>
      ∃ (at2 : Nat) (x : Int) (qs : List HP), Q at2 x qs ∧ Sep w0 w2 (cur g l at2 true :: (qs ++ ps')) ∧ ((e = .returned (.tuple #[]) ∧ x = 0) ∨ e = .panicked [fault g x])) :
    Calls Try.prog 51 #[.slice A l.length c, .func (.func fid) #[] caps] w fun e w' =>
      ∃ (at2 : Nat) (x : Int) (qs : List HP), Q at2 x qs ∧ e = .returned (.tuple #[.int .i64 at2, .int .i64 x]) ∧ Sep w0 w' (qs ++ ps) := by
  have hmf : ∀ (fn : Fn) (first cap : Array Value) (w : World), (Instr.makeFunc fn first cap).run Try.prog w = .ok (.func fn first cap) w := fun _ _ _ _ => rfl
  have hnf : ∀ (W : World), (binOp .eql 95 (.func (.func fid) #[] caps) .nilFunc).run Try.prog W = .ok (.bool false) W := fun _ => by rfl
  have hS := Aside0.mk hs
  have hR := Aside0.mk hr
  have hCL := Aside0.mk hcl
  have hB := Aside0.mk hs.1
  have hsz : ∀ (W : World) (o : Obj), (W.alloc o).heap.size = W.heap.size + 1 := fun W o => by show (W.heap.push _).size = _; simp
  have hS2 := (hs.alloc #[.int .i64 0] 3).alloc #[.int .i64 0] 36
  rw [hsz] at hS2
  have hS2 := Aside0.mk hS2
  clear hs hr hcl
  go_enter_defers Try.func51, Try.ntmps51
  go_wp2_with (first | ((with_reducible refine gate_callee (f := 111) rfl ?_); refine goesL_ (some 10) rfl rfl Try.func111 (by kernel_rfl) rfl #[.slice A l.length c] rfl (by (try simp only [List.map_toArray, List.map_cons, List.map_nil]); first | done | rfl) ?_; (refine (G.bytes_Clone.calls A c l l _ (Kd.C_alloc (Kd.C_alloc hR.out _) _) hc (by unfold G.bytes_Clone.f; exact if_pos (by omega)) rfl).mono ?_); rintro e w1 ⟨v1, rfl, ho, hb⟩; refine ⟨_, rfl, ?_⟩; have hS3 := Aside0.mk (Sep.row_new hS2.out hb ho); obtain ⟨A1, c1, e1⟩ := Kd.R_slice ho; subst e1; clear ho hb))
  have hS4 := (hS3.out.alloc #[.slice A1 l.length c1, .int .i64 0, .bool true] 149).alloc #[.pointer (some ⟨w1.heap.size, 0, none⟩)] 93
  rw [hsz] at hS4
  have hS5 := Sep.cur_close (at_ := 0) (live := true) hS4.put2
  have hS6 : Sep w0 _ (cur w1.heap.size l 0 true :: (R ++ (blk (w1.heap.size + 1) #[.pointer (some ⟨w1.heap.size, 0, none⟩)] 93 :: blk (w.heap.size + 1) #[.int .i64 0] 36 :: blk w.heap.size #[.int .i64 0] 3 :: ps))) := hS5.perm (List.Perm.cons _ (List.perm_append_comm_assoc [_, _, _] R ps))
  clear hS4 hS5
  refine (hCL.out _ w1.heap.size _ hS6).mono ?_
  clear hS6 hS3
  rintro e w2 ⟨at2, x, qs, hQ, h2, hor⟩
  have h3 : Sep w0 w2 (cur w1.heap.size l at2 true :: blk (w1.heap.size + 1) #[.pointer (some ⟨w1.heap.size, 0, none⟩)] 93 :: blk w.heap.size #[.int .i64 0] 3 :: blk (w.heap.size + 1) #[.int .i64 0] 36 :: (qs ++ ps)) :=
    (h2.perm (List.Perm.cons _ (List.perm_append_comm_assoc qs [_, _, _] ps))).perm (List.Perm.cons _ (List.Perm.cons _ (List.Perm.swap _ _ _)))
  have hQ := Aside0.mk hQ
  clear h2 hS hR hCL hB hS2 hc
  rcases hor with ⟨rfl, rfl⟩ | rfl
  · obtain ⟨A2, c2, hO⟩ := Sep.cur_open h3
    have hcg : w2.cell? ⟨w1.heap.size + 1, 0, none⟩ = some (.pointer (some ⟨w1.heap.size, 0, none⟩)) := ((h3.pick1).cell 0).trans rfl
    have hc1 : w2.cell? ⟨w1.heap.size, 1, none⟩ = some (.int .i64 at2) := (hO.cell 1).trans rfl
    have hca : w2.cell? ⟨w.heap.size, 0, none⟩ = some (.int .i64 0) := ((h3.pick2).cell 0).trans rfl
    have hza := (h3.pick2).frozen 0
    have hce : w2.cell? ⟨w.heap.size + 1, 0, none⟩ = some (.int .i64 0) := ((h3.pick3).cell 0).trans rfl
    have hze := (h3.pick3).frozen 0
    have h3 := Aside0.mk h3
    clear hO
    go_wp2
    have h4 : Sep w0 ((w2.setCell ⟨w.heap.size, 0, none⟩ (.int .i64 at2)).setCell ⟨w.heap.size + 1, 0, none⟩ (.int .i64 0)) (cur w1.heap.size l at2 true :: blk (w1.heap.size + 1) #[.pointer (some ⟨w1.heap.size, 0, none⟩)] 93 :: blk w.heap.size #[.int .i64 at2] 3 :: blk (w.heap.size + 1) #[.int .i64 0] 36 :: (qs ++ ps)) := by
      have h5 := h3.out.pick2.set 0 (.int .i64 at2)
      have h6 := h5.put2.pick3.set 0 (.int .i64 0)
      have h7 := h6.put3
      simpa using h7
    clear h3 hcg hc1 hca hza hce hze
    generalize ((w2.setCell ⟨w.heap.size, 0, none⟩ (.int .i64 at2)).setCell ⟨w.heap.size + 1, 0, none⟩ (.int .i64 0)) = w3 at h4 ⊢
    show Leaves _ _ _ _ _ _ _
    refine leaves_cons (f := 112) (args := _) (by simp) (by rfl) ?_
    refine (run_catch_idle w0 _ (w1.heap.size + 1) w.heap.size (w.heap.size + 1) w1.heap.size at2 at2 0 l _ h4).mono ?_
    rintro e u' w4 ⟨rfl, rfl, h5⟩
    have hca : w4.cell? ⟨w.heap.size, 0, none⟩ = some (.int .i64 at2) := ((h5.pick2).cell 0).trans rfl
    have hce : w4.cell? ⟨w.heap.size + 1, 0, none⟩ = some (.int .i64 0) := ((h5.pick3).cell 0).trans rfl
    have hout : Sep w0 w4 (qs ++ ps) := h5.tail.tail.tail.tail
    show Leaves _ _ _ _ [] .returning w4
    refine ⟨.tuple #[.int .i64 at2, .int .i64 0], ?_, at2, 0, qs, hQ.out, rfl, hout⟩
    simp [results, Try.results51, asAddr, loadVar, isAgg, underlying, Try.underlying3, Try.underlying36, Result.andThen, hca, hce]
  · have h3 := Aside0.mk h3
    show Leaves _ _ _ _ _ _ _
    refine leaves_cons (f := 112) (args := _) (by simp) (by rfl) ?_
    refine (run_catch_fault w0 _ (w1.heap.size + 1) w.heap.size (w.heap.size + 1) w1.heap.size at2 0 0 x [] l _ h3.out).mono ?_
    rintro e u' w4 ⟨rfl, rfl, h5⟩
    have hca : w4.cell? ⟨w.heap.size, 0, none⟩ = some (.int .i64 at2) := ((h5.pick2).cell 0).trans rfl
    have hce : w4.cell? ⟨w.heap.size + 1, 0, none⟩ = some (.int .i64 x) := ((h5.pick3).cell 0).trans rfl
    have hout : Sep w0 w4 (qs ++ ps) := h5.tail.tail.tail.tail
    show Leaves _ _ _ _ [] .returning w4
    refine ⟨.tuple #[.int .i64 at2, .int .i64 x], ?_, at2, x, qs, hQ.out, rfl, hout⟩
    simp [results, Try.results51, asAddr, loadVar, isAgg, underlying, Try.underlying3, Try.underlying36, Result.andThen, hca, hce]
end Go.Proofs.Ytekanmieppnpeaa.Sep
set_option linter.unusedVariables false
set_option linter.unusedSimpArgs false
namespace Go.Proofs.Ytekanmieppnpeaa.Sep
open Go Go.RowKit Go.Proofs.YtekanmieppnpeaaW.PrintWords Go.Proofs.YtekanmieppnpeaaW.PrintLast Go.Proofs.YtekanmieppnpeaaW.PrintMore
end Go.Proofs.Ytekanmieppnpeaa.Sep
set_option linter.unusedVariables false
set_option linter.unusedSimpArgs false
namespace Go.Proofs.Ytekanmieppnpeaa.Sep
open Go Go.RowKit Go.Proofs.YtekanmieppnpeaaW.PrintWords Go.Proofs.YtekanmieppnpeaaW.PrintLast Go.Proofs.YtekanmieppnpeaaW.PrintMore Go.Proofs.Ytekanmieppnpeaa.PureKit
set_option maxHeartbeats 4000000 in
theorem cur_Four_short (w0 w : World) (g at_ : Nat) (l : List Int) (ps : List HP) (hs : Sep w0 w (cur g l at_ true :: ps)) (hat : at_ ≤ l.length) (hl : l.length ≤ 1000000000000) (hsh : (4 : Int) > (l.length : Int) - at_) :
    Calls Try.prog 83 #[.pointer (some ⟨g, 0, none⟩)] w fun e w' => e = .panicked [fault g 2] ∧ Sep w0 w' (cur g l at_ true :: ps) := by
  have hS := Aside0.mk hs
  clear hs
  go_enter Try.func83, Try.ntmps83
  go_wp2_with (fail)
  refine (cur_num_short w0 _ g at_ l ps 4 hS.out (by decide) hat hl hsh).mono ?_
  rintro e w1 ⟨rfl, h1⟩
  exact ⟨rfl, rfl, h1⟩
theorem lev_lt (l : List Int) (a n : Nat) (hb : Bytes l) (h : a + n ≤ l.length) : 0 ≤ lev ((l.take (a + n)).drop a) ∧ lev ((l.take (a + n)).drop a) < 256 ^ n := by
  have := lev_bound _ ((hb.take (a + n)).drop a)
  rw [List.length_drop, List.length_take, show min (a + n) l.length - a = n by omega] at this
  exact this
set_option maxHeartbeats 4000000 in
theorem cur_Four_some (w0 w : World) (g at_ : Nat) (l : List Int) (ps : List HP) (hs : Sep w0 w (cur g l at_ true :: ps)) (hb : Bytes l) (hl : l.length ≤ 1000000000000) (hsh : at_ + 4 ≤ l.length) :
    Calls Try.prog 83 #[.pointer (some ⟨g, 0, none⟩)] w fun e w' => e = .returned (.int .u32 (lev ((l.take (at_ + 4)).drop at_))) ∧ Sep w0 w' (cur g l (at_ + 4) true :: ps) := by
  have hS := Aside0.mk hs
  clear hs
  have hbd := lev_lt l at_ 4 hb hsh
  have h4 : (256 : Int) ^ 4 = 4294967296 := by decide
  rw [h4] at hbd
  obtain ⟨y, hy⟩ : ∃ y, lev ((l.take (at_ + 4)).drop at_) = y := ⟨_, rfl⟩
  rw [hy] at hbd ⊢
  have hyA := Aside0.mk hy
  have hw : IntKind.u32.wrap y = y := by rw [IntKind.wrap_u32]; omega
  clear hy h4
  go_enter Try.func83, Try.ntmps83
  go_wp2_with (first | ((with_reducible refine gate_callee (f := 113) rfl ?_); refine goesL_ (some 4) rfl rfl Try.func113 (by kernel_rfl) rfl #[.pointer (some ⟨g, 0, none⟩), .int .i64 4] rfl (by (try simp only [List.map_toArray, List.map_cons, List.map_nil]); first | done | rfl) ?_; (with_reducible refine (cur_num_some w0 _ g at_ l ps 4 4 rfl hS.out hb (by decide) (by decide) hl hsh).mono ?_); rintro e w1 ⟨rfl, h2⟩; refine ⟨_, rfl, ?_⟩; rw [hyA.out]; have hS1 := Aside0.mk h2; clear h2))
  go_ret
  exact ⟨by first | rfl | (simp [hw]), hS1.out⟩
set_option maxHeartbeats 4000000 in
theorem cur_Eight_some (w0 w : World) (g at_ : Nat) (l : List Int) (ps : List HP) (hs : Sep w0 w (cur g l at_ true :: ps)) (hb : Bytes l) (hl : l.length ≤ 1000000000000) (hsh : at_ + 8 ≤ l.length) :
    Calls Try.prog 53 #[.pointer (some ⟨g, 0, none⟩)] w fun e w' => e = .returned (.int .u64 (lev ((l.take (at_ + 8)).drop at_))) ∧ Sep w0 w' (cur g l (at_ + 8) true :: ps) := by
  have hS := Aside0.mk hs
  clear hs
  go_enter Try.func53, Try.ntmps53
  go_wp2_with (first | ((with_reducible refine gate_callee (f := 113) rfl ?_); refine goesL_ (some 4) rfl rfl Try.func113 (by kernel_rfl) rfl #[.pointer (some ⟨g, 0, none⟩), .int .i64 8] rfl (by (try simp only [List.map_toArray, List.map_cons, List.map_nil]); first | done | rfl) ?_; (with_reducible refine (cur_num_some w0 _ g at_ l ps 8 8 rfl hS.out hb (by decide) (by decide) hl hsh).mono ?_); rintro e w1 ⟨rfl, h2⟩; refine ⟨_, rfl, ?_⟩; have hS1 := Aside0.mk h2; clear h2))
  go_ret
  exact ⟨rfl, hS1.out⟩
end Go.Proofs.Ytekanmieppnpeaa.Sep
end
section
set_option linter.unusedVariables false
set_option linter.unusedSimpArgs false
namespace Go.Proofs.Ytekanmieppnpeaa.Tb
open Go Go.RowKit Go.Proofs.Ytekanmieppnpeaa.G Go.Proofs.YtekanmieppnpeaaW.PrintWords Go.Proofs.YtekanmieppnpeaaW.PrintLast Go.Proofs.YtekanmieppnpeaaW.PrintMore Go.Proofs.Ytekanmieppnpeaa.PureKit
theorem ev_eq {α : Type} {g : Nat → Option α} {a b : α} (h : Ev g a) (e : a = b) : Ev g b := e ▸ h
theorem rdE (l : List E1) (i : Nat) (x : E1) (h : l[i]? = some x) : rd_T33 l (i : Int) = x := by
  unfold rd_T33
  rw [Int.toNat_natCast, List.getD_eq_getElem?_getD, h]; rfl
theorem inc64 {i : Nat} (h : i < 1000000000) : wrap64 ((i : Int) + 1) = ((i + 1 : Nat) : Int) := by rw [w64 (by omega) (by omega)]; omega
theorem dec64 {i : Nat} (h : i < 1000000000) : wrap64 (((i + 1 : Nat) : Int) - 1) = (i : Int) := by rw [w64 (by omega) (by omega)]; omega
theorem drop_at {α : Type} {l : List α} {i : Nat} {x : α} (h : l[i]? = some x) : l.drop i = x :: l.drop (i + 1) := by
  have hl := (List.getElem?_eq_some_iff.1 h).1
  rw [List.drop_eq_getElem_cons hl]
  congr 1
  exact (List.getElem?_eq_some_iff.1 h).2
def riseN (l : List E1) : Nat → Nat → Bool
  | 0, _ => true
  | d + 1, i => match l[i]?, l[i + 1]? with
    | some x, some y => if lessE x y then riseN l d (i + 1) else false
    | _, _ => true
def riseE (l : List E1) : Bool := riseN l (l.length - 1) 0
theorem cmp64 (x y : Int) : cmp_Compare_uint64.f x y = some (Go.Lib.compareInt x y) := by
  unfold cmp_Compare_uint64.f cmp_isNaN_uint64.f Go.Lib.compareInt
  simp only [bne_self_eq_false, Option.bind_some, Bool.false_eq_true, if_false]
  split
  · rfl
  · split <;> first | rfl | omega
theorem cmp32 (x y : Int) : cmp_Compare_uint32.f x y = some (Go.Lib.compareInt x y) := by
  unfold cmp_Compare_uint32.f cmp_isNaN_uint32.f Go.Lib.compareInt
  simp only [bne_self_eq_false, Option.bind_some, Bool.false_eq_true, if_false]
  split
  · rfl
  · split <;> first | rfl | omega
theorem or_ev (a b : Int) : Ev (fun k => cmp_Or_int.f k [a, b]) (orI a b) := by
  unfold cmp_Or_int.f orI
  by_cases ha : a = 0
  · subst ha
    refine Ev.step (f := fun k => cmp_Or_int.l0 k 0 [0, b] 2 1) (fun k => by simp only [cmp_Or_int.l0]; rw [if_pos (by simp), if_pos (by decide), if_pos (by simp), if_pos (show rd [0, b] 0 = 0 from rfl), show wrap64 (0 + 1) = 1 from inc64 (i := 0) (by decide)]; rfl) ?_
    by_cases hb : b = 0
    · subst hb
      refine Ev.step (f := fun k => cmp_Or_int.l0 k 0 [0, 0] 2 2) (fun k => by simp only [cmp_Or_int.l0]; rw [if_pos (by decide), if_pos (by decide), if_pos (by simp), if_pos (show rd [0, 0] 1 = 0 from rfl), show wrap64 (1 + 1) = 2 from inc64 (i := 1) (by decide)]) ?_
      refine Ev.step (f := fun k => some 0) (fun k => by simp only [cmp_Or_int.l0]; rfl) (ev_eq (Ev.now _) (by simp))
    · refine Ev.step (f := fun k => some b) (fun k => ?_) (ev_eq (Ev.now _) (by simp))
      simp only [cmp_Or_int.l0]
      rw [if_pos (by decide), if_pos (by decide), if_pos (by simp), show rd [0, b] 1 = b from rfl, if_neg hb]
  · refine Ev.step (f := fun k => some a) (fun k => ?_) (ev_eq (Ev.now _) (by simp [ha]))
    simp only [cmp_Or_int.l0]
    rw [if_pos (by simp), if_pos (by decide), if_pos (by simp), show rd [a, b] 0 = a from rfl, if_neg ha]
theorem compare_ev (x y : E1) : Ev (fun k => table_Compare.f k x.f0 x.f1 y.f0 y.f1) (cfE x y) := by
  refine Ev.congr (f := fun k => (cmp_Or_int.f k [Go.Lib.compareInt x.f0 y.f0, Go.Lib.compareInt x.f1 y.f1]).bind fun t => some t) (fun k => ?_) (Ev.bind (f := fun _ t => some t) (or_ev _ _) (Ev.now _))
  unfold table_Compare.f
  rw [cmp64, Option.bind_some, cmp32, Option.bind_some]
theorem rise_loop (l : List E1) (hl : l.length ≤ 1000000) : ∀ (d i : Nat), i + 1 + d = l.length → Ev (fun k => table_Rising.l0 k l ((i + 1 : Nat) : Int)) (riseN l d i)
  | 0, i, h => by
    refine Ev.step (f := fun _ => some true) (fun k => ?_) (Ev.now _)
    unfold table_Rising.l0
    rw [if_neg (by omega)]
  | d + 1, i, h => by
    obtain ⟨x, hx⟩ : ∃ x, l[i]? = some x := ⟨_, List.getElem?_eq_getElem (by omega)⟩
    obtain ⟨y, hy⟩ : ∃ y, l[i + 1]? = some y := ⟨_, List.getElem?_eq_getElem (by omega)⟩
    refine Ev.step (f := fun k => (table_Compare.f k x.f0 x.f1 y.f0 y.f1).bind fun t => if t ≥ 0 then some false else table_Rising.l0 k l ((i + 1 + 1 : Nat) : Int)) (fun k => ?_) (Ev.bind (f := fun k t => if t ≥ 0 then some false else table_Rising.l0 k l ((i + 1 + 1 : Nat) : Int)) (compare_ev x y) ?_)
    · simp only [table_Rising.l0]
      rw [dec64 (by omega), if_pos (by omega), if_pos (by omega), if_pos (by omega), if_pos (by omega), rdE l i x hx, rdE l (i + 1) y hy, inc64 (by omega)]
    · unfold riseN
      rw [hx, hy]
      dsimp only
      by_cases hxy : lessE x y
      · refine Ev.congr (f := fun k => table_Rising.l0 k l ((i + 1 + 1 : Nat) : Int)) (fun k => ?_) (ev_eq (rise_loop l hl d (i + 1) (by omega)) (if_pos hxy).symm)
        rw [cfE_lt hxy, if_neg (by decide)]
      · refine Ev.congr (f := fun k => some false) (fun k => ?_) (ev_eq (Ev.now _) (if_neg hxy).symm)
        rcases lessE_tri x y with h1 | h1 | h1
        · exact absurd h1 hxy
        · rw [h1, cfE_same, if_pos (by decide)]
        · rw [cfE_gt h1, if_pos (by decide)]
theorem rise_ev (l : List E1) (hl : l.length ≤ 1000000) : Ev (fun k => table_Rising.f k l) (riseE l) := by
  by_cases h : l.length = 0
  · refine Ev.step (f := fun _ => some true) (fun k => ?_) (ev_eq (Ev.now _) (by unfold riseE; rw [h]; rfl))
    unfold table_Rising.f table_Rising.l0
    rw [if_neg (by omega)]
  · exact rise_loop l hl (l.length - 1) 0 (by omega)
end Go.Proofs.Ytekanmieppnpeaa.Tb
end
section
set_option linter.unusedVariables false
set_option linter.unusedSimpArgs false
namespace Go.Proofs.Ytekanmieppnpeaa.Tb
open Go Go.RowKit Go.Proofs.YtekanmieppnpeaaW.PrintWords Go.Proofs.YtekanmieppnpeaaW.PrintLast Go.Proofs.YtekanmieppnpeaaW.PrintMore Go.Proofs.Ytekanmieppnpeaa.PureKit Go.Proofs.Ytekanmieppnpeaa.Sep Go.Proofs.Ytekanmieppnpeaa.G
set_option maxRecDepth 100000
def fenAt (l : List Int) (p : Nat) : Int := lev ((l.take (p + 8)).drop p)
def fensAt (l : List Int) (p n : Nat) : List Int := (List.range n).map fun k => fenAt l (p + 8 * k)
theorem fensAt_len (l : List Int) (p n : Nat) : (fensAt l p n).length = n := by unfold fensAt; rw [List.length_map, List.length_range]
theorem fensAt_succ (l : List Int) (p n : Nat) : fensAt l p (n + 1) = fensAt l p n ++ [fenAt l (p + 8 * n)] := by unfold fensAt; rw [List.range_succ, List.map_append]; rfl
def risesF (l : List Int) : Bool := decide (∀ i, i < l.length - 1 → l.getD i 0 ≤ l.getD (i + 1) 0)
theorem risesF_iff (l : List Int) : risesF l = true ↔ ∀ i, i < l.length - 1 → l.getD i 0 ≤ l.getD (i + 1) 0 := by unfold risesF; exact decide_eq_true_iff
theorem risesF_nil : risesF [] = true := (risesF_iff []).2 fun i h => absurd h (Nat.not_lt_zero i)
theorem risesF_snoc (l : List Int) (x : Int) (h : 0 < l.length) : risesF (l ++ [x]) = (risesF l && decide (l.getD (l.length - 1) 0 ≤ x)) := by
  have e1 : ∀ i, i < l.length → (l ++ [x]).getD i 0 = l.getD i 0 := fun i hi => by
    rw [List.getD_eq_getElem?_getD, List.getD_eq_getElem?_getD, List.getElem?_append_left hi]
  have e2 : (l ++ [x]).getD l.length 0 = x := by
    rw [List.getD_eq_getElem?_getD, List.getElem?_append_right (Nat.le_refl _), Nat.sub_self]; rfl
  apply Bool.eq_iff_iff.2
  rw [Bool.and_eq_true, risesF_iff, risesF_iff, decide_eq_true_iff, List.length_append, List.length_singleton]
  constructor
  · intro hh
    refine ⟨fun i hi => ?_, ?_⟩
    · have := hh i (by omega)
      rw [e1 i (by omega), e1 (i + 1) (by omega)] at this
      exact this
    · have := hh (l.length - 1) (by omega)
      rw [e1 _ (by omega), show l.length - 1 + 1 = l.length by omega, e2] at this
      exact this
  · rintro ⟨h1, h2⟩ i hi
    by_cases hj : i + 1 < l.length
    · rw [e1 i (by omega), e1 (i + 1) hj]
      exact h1 i (by omega)
    · have he : i = l.length - 1 := by omega
      subst he
      rw [e1 _ (by omega), show l.length - 1 + 1 = l.length by omega, e2]
      exact h2
theorem rd_getD (l : List Int) (i : Nat) : rd l (i : Int) = l.getD i 0 := by unfold rd; rw [Int.toNat_natCast]
theorem less64 (x y : Int) : cmp_Less_uint64.f x y = some (decide (x < y)) := by
  unfold cmp_Less_uint64.f cmp_isNaN_uint64.f
  simp
theorem isSorted_loop (l : List Int) (hl : l.length ≤ 1000000) : ∀ (j : Nat), j < l.length → (∀ i, j ≤ i → i < l.length - 1 → l.getD i 0 ≤ l.getD (i + 1) 0) → Ev (fun k => slices_IsSorted_uint64_uint64.l0 k l (j : Int)) (risesF l)
  | 0, hj, hh => by
    rw [(risesF_iff l).2 fun i hi => hh i (Nat.zero_le _) hi]
    refine Ev.step (f := fun _ => some true) (fun k => ?_) (Ev.now _)
    unfold slices_IsSorted_uint64_uint64.l0
    rw [if_neg (by omega)]
  | j + 1, hj, hh => by
    have hw : wrap64 (((j + 1 : Nat) : Int) - 1) = (j : Int) := by rw [w64 (by omega) (by omega)]; omega
    by_cases hlt : l.getD (j + 1) 0 < l.getD j 0
    · have hr : risesF l = false := by
        cases h : risesF l with
        | false => rfl
        | true => have := (risesF_iff l).1 h j (by omega); omega
      rw [hr]
      refine Ev.step (f := fun _ => some false) (fun k => ?_) (Ev.now _)
      unfold slices_IsSorted_uint64_uint64.l0
      rw [if_pos (by omega), if_pos (by omega), if_pos (by omega), hw, if_pos (by omega), if_pos (by omega), less64, Option.bind_some, rd_getD, rd_getD, decide_eq_true hlt, if_pos rfl]
    · refine Ev.step (f := fun k => slices_IsSorted_uint64_uint64.l0 k l (j : Int)) (fun k => ?_) (isSorted_loop l hl j (by omega) fun i hi hi2 => ?_)
      · conv => lhs; unfold slices_IsSorted_uint64_uint64.l0
        rw [if_pos (by omega), if_pos (by omega), if_pos (by omega), hw, if_pos (by omega), if_pos (by omega), less64, Option.bind_some, rd_getD, rd_getD, decide_eq_false hlt, if_neg (by decide)]
      · by_cases he : i = j
        · subst he; omega
        · exact hh i (by omega) hi2
theorem isSorted_ev (l : List Int) (hl : l.length ≤ 1000000) : Ev (fun k => slices_IsSorted_uint64_uint64.f k l) (risesF l) := by
  unfold slices_IsSorted_uint64_uint64.f
  by_cases h : 0 < l.length
  · rw [show wrap64 ((l.length : Int) - 1) = ((l.length - 1 : Nat) : Int) by rw [w64 (by omega) (by omega)]; omega]
    exact isSorted_loop l hl (l.length - 1) (by omega) fun i h1 h2 => absurd h2 (by omega)
  · have h0 : l = [] := List.eq_nil_of_length_eq_zero (by omega)
    subst h0
    rw [risesF_nil]
    refine Ev.step (f := fun _ => some true) (fun k => ?_) (Ev.now _)
    unfold slices_IsSorted_uint64_uint64.l0
    rw [if_neg (by simp only [List.length_nil]; unfold wrap64; decide)]
theorem row_C {α : Type} {d : Kd α} {w0 W : World} {e : TypeId} {A : Option Addr} {n c : Nat} {l : List α} {ps : List HP} (h : Sep.Sep w0 W (row d e (.slice A n c) l :: ps)) : n = l.length ∧ l.length ≤ c ∧ d.C W A l.length l := by
  obtain ⟨bs, hR⟩ := h.row_R
  have h := Kd.R_reads' hR
  exact ⟨h.1, h.1 ▸ h.2.1, h.2.2⟩
theorem row_S {α : Type} {d : Kd α} {w0 W : World} {e : TypeId} {v : Value} {l : List α} {ps : List HP} (h : Sep.Sep w0 W (row d e v l :: ps)) : ∃ A c, v = .slice A l.length c ∧ l.length ≤ c ∧ d.C W A l.length l := by
  obtain ⟨bs, hR⟩ := h.row_R
  exact Kd.R_reads hR
end Go.Proofs.Ytekanmieppnpeaa.Tb
end
section
set_option linter.unusedVariables false
set_option linter.unusedSimpArgs false
namespace Go.Proofs.Ytekanmieppnpeaa.Tb
open Go Go.RowKit Go.Proofs.YtekanmieppnpeaaW.PrintWords Go.Proofs.YtekanmieppnpeaaW.PrintLast Go.Proofs.YtekanmieppnpeaaW.PrintMore Go.Proofs.Ytekanmieppnpeaa.PureKit Go.Proofs.Ytekanmieppnpeaa.Sep Go.Proofs.Ytekanmieppnpeaa.G
set_option maxHeartbeats 4000000
set_option maxRecDepth 100000
attribute [local go_sem] max2_int min2_int max_two min_two
def entAt (l : List Int) (p : Nat) : E1 := ⟨lev ((l.take (p + 8)).drop p), lev ((l.take (p + 8 + 4)).drop (p + 8))⟩
def entsAt (l : List Int) (p n : Nat) : List E1 := (List.range n).map fun k => entAt l (p + 12 * k)
theorem entsAt_len (l : List Int) (p n : Nat) : (entsAt l p n).length = n := by unfold entsAt; rw [List.length_map, List.length_range]
theorem entsAt_succ (l : List Int) (p n : Nat) : entsAt l p (n + 1) = entsAt l p n ++ [entAt l (p + 12 * n)] := by unfold entsAt; rw [List.range_succ, List.map_append]; rfl
theorem table_Get_short (w0 w : World) (g at_ : Nat) (l : List Int) (ps : List HP) (n : Int) (hs : Sep.Sep w0 w (cur g l at_ true :: ps)) (hat : at_ ≤ l.length) (hl : l.length ≤ 1000000) (hn : 0 < n) (hsh : n > ((l.length : Int) - at_) / 12) :
    Calls Try.prog 84 #[.pointer (some ⟨g, 0, none⟩), .int .i64 n] w fun e w' => e = .panicked [fault g 2] ∧ Sep.Sep w0 w' (cur g l at_ true :: ps) := by
  have hS := Aside0.mk hs
  have hA := Aside0.mk (And.intro hat hl)
  have hm : (if 0 < n then n else 0) = n := if_pos hn
  have hd0 : decide (0 < n) = true := decide_eq_true hn
  obtain ⟨q, hq⟩ : ∃ q, Int.tdiv ((l.length : Int) - at_) 12 = q := ⟨_, rfl⟩
  have hqe : q = ((l.length : Int) - at_) / 12 := by rw [← hq, Int.tdiv_eq_ediv_of_nonneg (by omega)]
  have hd : decide (n > q) = true := decide_eq_true (by omega)
  have hd2 : decide (q < n) = true := decide_eq_true (by omega)
  have hwq : wrap64 q = q := w64 (by omega) (by omega)
  clear hs hat hl hsh hqe
  go_enter Try.func84, Try.ntmps84
  go_wp2_with (fail)
  refine (cur_Left w0 _ g at_ l _ hS.out hA.out.1 (by have := hA.out.2; omega)).mono ?_
  rintro e w1 ⟨rfl, h1⟩
  have hS1 := Aside0.mk h1
  clear h1
  go_wp2_with (fail)
  refine (cur_Fail w0 _ g at_ l _ 2 hS1.out (by decide)).mono ?_
  rintro e w2 ⟨rfl, h2⟩
  exact ⟨rfl, rfl, h2⟩
theorem table_Get_some (w0 w : World) (g at_ : Nat) (l : List Int) (ps : List HP) (n : Int) (m : Nat) (hm : (if 0 < n then n else 0) = (m : Int)) (hs : Sep.Sep w0 w (cur g l at_ true :: ps)) (hb : Bytes l) (hl : l.length ≤ 1000000) (hsh : at_ + 12 * m ≤ l.length) :
    Calls Try.prog 84 #[.pointer (some ⟨g, 0, none⟩), .int .i64 n] w fun e w' =>
      (riseE (entsAt l at_ m) = true ∧ ∃ (A : Option Addr) (c : Nat), e = .returned (.slice A m c) ∧ Sep.Sep w0 w' (row kE 33 (.slice A m c) (entsAt l at_ m) :: cur g l (at_ + 12 * m) true :: ps)) ∨
      (riseE (entsAt l at_ m) = false ∧ e = .panicked [fault g 8] ∧ Sep.Sep w0 w' (cur g l (at_ + 12 * m) true :: ps)) := by
  have hS := Aside0.mk hs
  have hbA := Aside0.mk hb
  have hA := Aside0.mk (And.intro hsh hl)
  obtain ⟨q, hq⟩ : ∃ q, Int.tdiv ((l.length : Int) - at_) 12 = q := ⟨_, rfl⟩
  have hqe : q = ((l.length : Int) - at_) / 12 := by rw [← hq, Int.tdiv_eq_ediv_of_nonneg (by omega)]
  have hwq : wrap64 q = q := w64 (by omega) (by omega)
  have hqm : (m : Int) ≤ q := by omega
  have hd : decide ((m : Int) > q) = false := decide_eq_false (by omega)
  have hd2 : decide (q < (m : Int)) = false := decide_eq_false (by omega)
  have hmn : (if q < (m : Int) then q else (m : Int)) = (m : Int) := if_neg (by omega)
  have hqA := Aside0.mk hqm
  clear hs hb hl hsh hqe hqm
  go_enter Try.func84, Try.ntmps84
  go_wp2_with (fail)
  refine (cur_Left w0 _ g at_ l _ hS.out (by have := hA.out; omega) (by have := hA.out.2; omega)).mono ?_
  rintro e w1 ⟨rfl, h1⟩
  have hS1 := Aside0.mk h1
  clear h1
  go_wp2_with (fail)
  refine (cur_Left w0 _ g at_ l _ hS1.out (by have := hA.out; omega) (by have := hA.out.2; omega)).mono ?_
  rintro e w2 ⟨rfl, h2⟩
  have hS2 := Aside0.mk h2
  clear h2
  have hmb : Aside0 ((m : Int).toNat * 16 ≤ 281474976710656) := ⟨by have := hA.out; omega⟩
  go_wp2_with (first | ((with_reducible refine gate_dst (N := 20) rfl ?_); refine R_make0 kE (w0 := w2) w2.heap.size 33 rfl (N := 20) rfl 27 _ _ rfl (m : Int) rfl rfl Try.underlying27 (.agg #[.int .u64 0, .int .u32 0]) 16 info33 rfl (by decide) (by omega) (ok := fun _ => True) trivial (by omega) hmb.out (Below.refl _ _) (Nat.le_refl _) ?_; intro v3 w3 ho3 hb3 hg3 hat3; have hS3 := Aside0.mk (Sep.row_new hS2.out hb3 ho3); obtain ⟨A3, c3, rfl⟩ := Kd.R_slice ho3; clear ho3 hb3 hg3 hat3))
  go_loopg [5, 22] m (fun kq v5 v22 w' => ∃ (i c5 : Nat) (A5 : Option Addr), v5 = .slice A5 i c5 ∧ v22 = .int .i64 i ∧ Aside0 (i + kq = m) ∧ Aside0 (Sep.Sep w0 w' (row kE 33 (.slice A5 i c5) (entsAt l at_ i) :: cur g l (at_ + 12 * i) true :: ps)))
  case atStart => exact ⟨0, c3, A3, rfl, rfl, ⟨by omega⟩, hS3⟩
  case round =>
    clear hS hS1 hS2 hS3
    obtain ⟨i, c5, A5, rfl, rfl, hI, hS⟩ := hrel
    by_cases him : i < m
    · obtain ⟨k1, rfl⟩ : ∃ k1, gk = k1 + 1 := ⟨gk - 1, by have := hI.out; omega⟩
      have e1 : decide ((i : Int) < (m : Int)) = true := decide_eq_true (by omega)
      have e2 : decide (i < m) = true := decide_eq_true him
      have hq1 : wrap64 ((i : Int) + 1) = ((i + 1 : Nat) : Int) := by rw [w64 (by omega) (by have := hA.out; omega)]; omega
      have hI' : Aside0 (i + 1 + k1 = m) := ⟨by have := hI.out; omega⟩
      have hp := Aside0.mk (show at_ + 12 * i + 12 ≤ l.length by have := hA.out; omega)
      have hll := Aside0.mk (show l.length ≤ 1000000000000 by have := hA.out; omega)
      have hil := Aside0.mk (show (entsAt l at_ i).length + 1 ≤ 1000000 by rw [entsAt_len]; have := hA.out; omega)
      have hsucc := Aside0.mk (entsAt_succ l at_ i)
      obtain ⟨f0, hf0⟩ : ∃ f0, lev ((l.take (at_ + 12 * i + 8)).drop (at_ + 12 * i)) = f0 := ⟨_, rfl⟩
      obtain ⟨f1, hf1⟩ : ∃ f1, lev ((l.take (at_ + 12 * i + 8 + 4)).drop (at_ + 12 * i + 8)) = f1 := ⟨_, rfl⟩
      have hent : Aside0 (entAt l (at_ + 12 * i) = ⟨f0, f1⟩) := ⟨by unfold entAt; rw [hf0, hf1]⟩
      have hE8 := Aside0.mk (fun W (h : Sep.Sep w0 W (cur g l (at_ + 12 * i) true :: row kE 33 (.slice A5 i c5) (entsAt l at_ i) :: ps)) => cur_Eight_some w0 W g (at_ + 12 * i) l _ h hbA.out hll.out (by have := hp.out; omega))
      have hE4 := Aside0.mk (fun W (h : Sep.Sep w0 W (cur g l (at_ + 12 * i + 8) true :: row kE 33 (.slice A5 i c5) (entsAt l at_ i) :: ps)) => cur_Four_some w0 W g (at_ + 12 * i + 8) l _ h hbA.out hll.out (by have := hp.out; omega))
      rw [hf0] at hE8
      rw [hf1] at hE4
      clear him hf0 hf1
      go_wp2_with (fail)
      refine (hE8.out _ hS.out.pick1).mono ?_
      rintro e w5 ⟨rfl, h5⟩
      have hS5 := Aside0.mk h5
      clear h5
      go_wp2_with (fail)
      refine (hE4.out _ hS5.out).mono ?_
      rintro e w6 ⟨rfl, h6⟩
      obtain ⟨bs, hRr, hGr⟩ := h6.pick1.row_open
      have hR := Aside0.mk hRr
      have hG := Aside0.mk hGr
      clear h6 hRr hGr
      go_wp2_with (first | ((with_reducible refine gate_builtin (b := .append) (xs := #[.tmp 24, .tmp 30]) rfl ?_); at_builtin; refine Kd.R_append kE (w0 := w6) 0 rfl (.tmp 24) (.tmp 30) 27 33 (.agg #[(.int .u64 0), (.int .u32 0)]) 16 rfl Try.underlying27 info33 rfl (by decide) (by omega) (.slice A5 i c5) (entsAt l at_ i) (⟨f0, f1⟩ : E1) [.int .u64 f0, .int .u32 f1] (fun k => k ∈ bs ∨ w6.heap.size ≤ k) (fun _ => False) rfl (by first | (go_simp; done) | (go_simp; rfl)) ?aP (fun _ hk => hk.elim) ?aF ?aO ?aB ?aS ?aL ?_; (case aP => exact k33_mkM _ _ _ (⟨f0, f1⟩ : E1)); (case aF => exact fun _ h => .inr h); (case aO => exact Kd.R_mono hR.out (fun _ h => .inl h)); (case aB => exact Below.refl _ _); (case aS => exact Nat.zero_le _); (case aL => have := hil.out; omega); intro v7 w7 ho7 hb7 hg7 hat7; obtain ⟨A7, c7, rfl⟩ := Kd.R_slice ho7; have hS7 := Aside0.mk (hG.out w7 _ _ ho7 hg7); clear ho7 hb7 hg7 hat7))
      have hS8 : Aside0 (Sep.Sep w0 w7 (row kE 33 (.slice A7 (i + 1) c7) (entsAt l at_ (i + 1)) :: cur g l (at_ + 12 * (i + 1)) true :: ps)) := ⟨by
        have h := hS7.out
        rw [show entsAt l at_ i ++ [(⟨f0, f1⟩ : E1)] = entsAt l at_ (i + 1) by rw [hsucc.out, hent.out], entsAt_len] at h
        rw [show at_ + 12 * (i + 1) = at_ + 12 * i + 8 + 4 by omega]
        exact h⟩
      have hlen7 : Aside0 ((entsAt l at_ i).length + 1 = i + 1) := ⟨by rw [entsAt_len]⟩
      clear hS hS5 hS7 hR hG hE8 hE4
      go_roundg k1
      case measure => omega
      case rel => exact ⟨i + 1, c7, A7, by first | rfl | (rw [← hlen7.out]; rfl) | (simp [entsAt_len]), by first | rw [hq1] | rfl, hI', hS8⟩
    · have e1 : decide ((i : Int) < (m : Int)) = false := decide_eq_false (by omega)
      have e2 : decide (i < m) = false := decide_eq_false him
      have hie : i = m := by have := hI.out; omega
      subst hie
      have hel := entsAt_len l at_ i
      obtain ⟨kr, hkr⟩ := (rise_ev (entsAt l at_ i) (by rw [hel]; have := hA.out; omega)).rounds
      obtain ⟨-, hc5, hC5⟩ := row_C hS.out
      have hcall := Aside0.mk (table_Rising.calls kr A5 c5 (entsAt l at_ i) _ wr hC5 hc5 hkr)
      rw [hel] at hcall
      obtain ⟨R, hRe⟩ : ∃ R, riseE (entsAt l at_ i) = R := ⟨_, rfl⟩
      rw [hRe] at hcall
      have hReA := Aside0.mk hRe
      clear him hel hkr hc5 hC5 hRe
      go_wp2_with (fail)
      refine hcall.out.mono ?_
      rintro e w8 ⟨rfl, hb8⟩
      have hS8 := Aside0.mk (hS.out.below hb8)
      clear hb8
      cases R with
      | true =>
        go_wp2_with (fail)
        go_ret
        exact .inl ⟨hReA.out, A5, c5, rfl, hS8.out⟩
      | false =>
        go_wp2_with (fail)
        refine (cur_Fail w0 _ g _ l _ 8 hS8.out.tail (by decide)).mono ?_
        rintro e w9 ⟨rfl, h9⟩
        exact ⟨rfl, .inr ⟨hReA.out, rfl, h9⟩⟩
end Go.Proofs.Ytekanmieppnpeaa.Tb
end
section
set_option linter.unusedVariables false
set_option linter.unusedSimpArgs false
namespace Go.Proofs.Ytekanmieppnpeaa.Tb
open Go Go.RowKit Go.Proofs.YtekanmieppnpeaaW.PrintWords Go.Proofs.YtekanmieppnpeaaW.PrintLast Go.Proofs.YtekanmieppnpeaaW.PrintMore Go.Proofs.Ytekanmieppnpeaa.PureKit Go.Proofs.Ytekanmieppnpeaa.Sep Go.Proofs.Ytekanmieppnpeaa.G
set_option maxHeartbeats 4000000
set_option maxRecDepth 100000
attribute [local go_sem] max2_int min2_int max_two min_two
theorem fence_Get_short (w0 w : World) (g at_ : Nat) (l : List Int) (ps : List HP) (n : Int) (hs : Sep.Sep w0 w (cur g l at_ true :: ps)) (hat : at_ ≤ l.length) (hl : l.length ≤ 1000000) (hn : 0 < n) (hsh : n > ((l.length : Int) - at_) / 8) :
    Calls Try.prog 85 #[.pointer (some ⟨g, 0, none⟩), .int .i64 n] w fun e w' => e = .panicked [fault g 2] ∧ Sep.Sep w0 w' (cur g l at_ true :: ps) := by
  have hS := Aside0.mk hs
  have hA := Aside0.mk (And.intro hat hl)
  have hm : (if 0 < n then n else 0) = n := if_pos hn
  have hd0 : decide (0 < n) = true := decide_eq_true hn
  obtain ⟨q, hq⟩ : ∃ q, Int.tdiv ((l.length : Int) - at_) 8 = q := ⟨_, rfl⟩
  have hqe : q = ((l.length : Int) - at_) / 8 := by rw [← hq, Int.tdiv_eq_ediv_of_nonneg (by omega)]
  have hd : decide (n > q) = true := decide_eq_true (by omega)
  have hd2 : decide (q < n) = true := decide_eq_true (by omega)
  have hwq : wrap64 q = q := w64 (by omega) (by omega)
  clear hs hat hl hsh hqe
  go_enter Try.func85, Try.ntmps85
  go_wp2_with (fail)
  refine (cur_Left w0 _ g at_ l _ hS.out hA.out.1 (by have := hA.out.2; omega)).mono ?_
  rintro e w1 ⟨rfl, h1⟩
  have hS1 := Aside0.mk h1
  clear h1
  go_wp2_with (fail)
  refine (cur_Fail w0 _ g at_ l _ 2 hS1.out (by decide)).mono ?_
  rintro e w2 ⟨rfl, h2⟩
  exact ⟨rfl, rfl, h2⟩
theorem fence_Get_some (w0 w : World) (g at_ : Nat) (l : List Int) (ps : List HP) (n : Int) (m : Nat) (hm : (if 0 < n then n else 0) = (m : Int)) (hs : Sep.Sep w0 w (cur g l at_ true :: ps)) (hb : Bytes l) (hl : l.length ≤ 1000000) (hsh : at_ + 8 * m ≤ l.length) :
    Calls Try.prog 85 #[.pointer (some ⟨g, 0, none⟩), .int .i64 n] w fun e w' =>
      (risesF (fensAt l at_ m) = true ∧ ∃ (A : Option Addr) (c : Nat), e = .returned (.slice A m c) ∧ Sep.Sep w0 w' (row (Kd.int .u64) 30 (.slice A m c) (fensAt l at_ m) :: cur g l (at_ + 8 * m) true :: ps)) ∨
      (risesF (fensAt l at_ m) = false ∧ e = .panicked [fault g 8] ∧ Sep.Sep w0 w' (cur g l (at_ + 8 * m) true :: ps)) := by
  have hS := Aside0.mk hs
  have hbA := Aside0.mk hb
  have hA := Aside0.mk (And.intro hsh hl)
  obtain ⟨q, hq⟩ : ∃ q, Int.tdiv ((l.length : Int) - at_) 8 = q := ⟨_, rfl⟩
  have hqe : q = ((l.length : Int) - at_) / 8 := by rw [← hq, Int.tdiv_eq_ediv_of_nonneg (by omega)]
  have hwq : wrap64 q = q := w64 (by omega) (by omega)
  have hqm : (m : Int) ≤ q := by omega
  have hd : decide ((m : Int) > q) = false := decide_eq_false (by omega)
  have hd2 : decide (q < (m : Int)) = false := decide_eq_false (by omega)
  have hqA := Aside0.mk hqm
  clear hs hb hl hsh hqe hqm
  go_enter Try.func85, Try.ntmps85
  go_wp2_with (fail)
  refine (cur_Left w0 _ g at_ l _ hS.out (by have := hA.out; omega) (by have := hA.out.2; omega)).mono ?_
  rintro e w1 ⟨rfl, h1⟩
  have hS1 := Aside0.mk (Sep.row_nil (Kd.int .u64) 30 h1)
  clear h1
  go_wp2_with (fail)
  go_loopg [5, 16] m (fun kq v5 v16 w' => ∃ (i c5 : Nat) (A5 : Option Addr), v5 = .slice A5 i c5 ∧ v16 = .int .i64 i ∧ Aside0 (i + kq = m) ∧ Aside0 (Sep.Sep w0 w' (row (Kd.int .u64) 30 (.slice A5 i c5) (fensAt l at_ i) :: cur g l (at_ + 8 * i) true :: ps)))
  case atStart => exact ⟨0, 0, none, rfl, rfl, ⟨by omega⟩, hS1⟩
  case round =>
    clear hS hS1 hwq
    obtain ⟨i, c5, A5, rfl, rfl, hI, hS⟩ := hrel
    by_cases him : i < m
    · obtain ⟨k1, rfl⟩ : ∃ k1, gk = k1 + 1 := ⟨gk - 1, by have := hI.out; omega⟩
      have e1 : decide ((i : Int) < (m : Int)) = true := decide_eq_true (by omega)
      have e2 : decide (i < m) = true := decide_eq_true him
      have hq1 : wrap64 ((i : Int) + 1) = ((i + 1 : Nat) : Int) := by rw [w64 (by omega) (by have := hA.out; omega)]; omega
      have hI' : Aside0 (i + 1 + k1 = m) := ⟨by have := hI.out; omega⟩
      have hp := Aside0.mk (show at_ + 8 * i + 8 ≤ l.length by have := hA.out; omega)
      have hll := Aside0.mk (show l.length ≤ 1000000000000 by have := hA.out; omega)
      have hil := Aside0.mk (show ((fensAt l at_ i).length + 1) * 8 ≤ 140737488355328 by rw [fensAt_len]; have := hA.out; omega)
      have hsucc := Aside0.mk (fensAt_succ l at_ i)
      obtain ⟨f0, hf0⟩ : ∃ f0, lev ((l.take (at_ + 8 * i + 8)).drop (at_ + 8 * i)) = f0 := ⟨_, rfl⟩
      have hent : Aside0 (fenAt l (at_ + 8 * i) = f0) := ⟨by unfold fenAt; rw [hf0]⟩
      have hE8 := Aside0.mk (fun W (h : Sep.Sep w0 W (cur g l (at_ + 8 * i) true :: row (Kd.int .u64) 30 (.slice A5 i c5) (fensAt l at_ i) :: ps)) => cur_Eight_some w0 W g (at_ + 8 * i) l _ h hbA.out hll.out (by have := hp.out; omega))
      rw [hf0] at hE8
      have hAl : Aside0 (i = (fensAt l at_ i).length) := ⟨(fensAt_len l at_ i).symm⟩
      clear him hf0
      go_wp2_with (fail)
      refine (hE8.out _ hS.out.pick1).mono ?_
      rintro e w6 ⟨rfl, h6⟩
      obtain ⟨bs, hRr, hGr⟩ := h6.pick1.row_open
      have hR := Aside0.mk hRr
      have hG := Aside0.mk hGr
      clear h6 hRr hGr
      go_wp2_with (first | ((with_reducible refine gate_builtin (b := .append) (xs := #[.tmp 18, .tmp 21]) rfl ?_); at_builtin; refine Kd.R_append (Kd.int .u64) (w0 := w6) 0 rfl (.tmp 18) (.tmp 21) 31 30 (.int .u64 0) 8 rfl Try.underlying31 (by kernel_rfl) rfl (by decide) (by decide) (.slice A5 i c5) (fensAt l at_ i) f0 [.int .u64 f0] (fun k => k ∈ bs ∨ w6.heap.size ≤ k) (fun _ => False) rfl rfl rfl (fun _ h => h.elim) (fun _ h => .inr h) ?aO ?aB ?aS ?aL ?_; (case aO => exact Kd.R_mono hR.out (fun _ h => .inl h)); (case aB => exact Below.refl _ _); (case aS => exact Nat.zero_le _); (case aL => exact hil.out); intro v7 w7 ho7 hb7 hg7 hat7; obtain ⟨A7, c7, rfl⟩ := Kd.R_slice ho7; have hS7 := Aside0.mk (hG.out w7 _ _ ho7 hg7); clear ho7 hb7 hg7 hat7))
      have hS8 : Aside0 (Sep.Sep w0 w7 (row (Kd.int .u64) 30 (.slice A7 (i + 1) c7) (fensAt l at_ (i + 1)) :: cur g l (at_ + 8 * (i + 1)) true :: ps)) := ⟨by
        have h := hS7.out
        rw [show fensAt l at_ i ++ [f0] = fensAt l at_ (i + 1) by rw [hsucc.out, hent.out], fensAt_len] at h
        rw [show at_ + 8 * (i + 1) = at_ + 8 * i + 8 by omega]
        exact h⟩
      have hlen7 : Aside0 ((fensAt l at_ i).length + 1 = i + 1) := ⟨by rw [fensAt_len]⟩
      clear hS hS7 hR hG hE8
      go_roundg k1
      case measure => omega
      case rel => exact ⟨i + 1, c7, A7, by first | rfl | (rw [← hlen7.out]; rfl) | (simp [fensAt_len]), by first | rw [hq1] | rfl, hI', hS8⟩
    · have e1 : decide ((i : Int) < (m : Int)) = false := decide_eq_false (by omega)
      have e2 : decide (i < m) = false := decide_eq_false him
      have hie : i = m := by have := hI.out; omega
      subst hie
      have hel := fensAt_len l at_ i
      obtain ⟨kr, hkr⟩ := (isSorted_ev (fensAt l at_ i) (by rw [hel]; have := hA.out; omega)).rounds
      obtain ⟨-, hc5, hC5⟩ := row_C hS.out
      have hcall := Aside0.mk (slices_IsSorted_uint64_uint64.calls kr A5 c5 (fensAt l at_ i) _ wr hC5 hc5 hkr)
      rw [hel] at hcall
      obtain ⟨R, hRe⟩ : ∃ R, risesF (fensAt l at_ i) = R := ⟨_, rfl⟩
      rw [hRe] at hcall
      have hReA := Aside0.mk hRe
      clear him hel hkr hc5 hC5 hRe
      go_wp2_with (fail)
      refine hcall.out.mono ?_
      rintro e w8 ⟨rfl, hb8⟩
      have hS8 := Aside0.mk (hS.out.below hb8.below)
      clear hb8
      cases R with
      | true =>
        go_wp2_with (fail)
        go_ret
        exact .inl ⟨hReA.out, A5, c5, rfl, hS8.out⟩
      | false =>
        go_wp2_with (fail)
        refine (cur_Fail w0 _ g _ l _ 8 hS8.out.tail (by decide)).mono ?_
        rintro e w9 ⟨rfl, h9⟩
        exact ⟨rfl, .inr ⟨hReA.out, rfl, h9⟩⟩
end Go.Proofs.Ytekanmieppnpeaa.Tb
end
section
set_option linter.unusedVariables false
set_option linter.unusedSimpArgs false
namespace Go.Proofs.Ytekanmieppnpeaa.Fe
open Go Go.RowKit Go.Proofs.YtekanmieppnpeaaW.PrintWords Go.Proofs.YtekanmieppnpeaaW.PrintLast Go.Proofs.YtekanmieppnpeaaW.PrintMore Go.Proofs.Ytekanmieppnpeaa.Sep
set_option maxHeartbeats 4000000
set_option maxRecDepth 100000
attribute [local go_sem] Oper.semAt_some
attribute [local go_sem] max2_int min2_int max_two min_two
theorem chunk_in (F : Fence) (n : Nat) (hf : F.fn 105) (hro : F.round = none) (A : Option Addr) (len cap : Nat) (w : World) :
    CallsIn F n Try.prog 105 #[.slice A len cap, .int .i64 16] w fun e w' => e = .returned (.func (.func 140) #[] #[.pointer (some ⟨w.heap.size, 0, none⟩), .pointer (some ⟨w.heap.size + 1, 0, none⟩)]) ∧ w' = (w.alloc (.cells #[.slice A len cap] 27)).alloc (.cells #[.int .i64 16] 3) := by
  have hmf : ∀ (fn : Fn) (first cap : Array Value) (w : World), (Instr.makeFunc fn first cap).run Try.prog w = .ok (.func fn first cap) w := fun _ _ _ _ => rfl
  refine callsIn_of_wp Try.func105 rfl hf ?_ hro
  simp only [Try.ntmps105, List.size_toArray, List.length_cons, List.length_nil, Nat.reduceAdd, Nat.reduceSub, Array.replicate_succ, Array.replicate_zero, List.push_toArray, List.append_toArray, List.nil_append, List.cons_append]
  gi_wp2
  go_ret
  exact ⟨rfl, rfl⟩
def chunkV (ad : Addr) (n k : Nat) : Value := .slice (some (ad.add (16 * k * 2))) (min 16 (n - 16 * k) : Nat) (min 16 (n - 16 * k) : Nat)
def chunks (n : Nat) : Nat := (n + 15) / 16
abbrev CI (len : Nat) := {k : Nat // 16 * k < len}
def KpC (n₀ B1 B2 : Nat) (sv : Value) (W W' : World) : Prop := Below n₀ W W' ∧ (Boxed W B1 27 sv → Boxed W' B1 27 sv) ∧ (Boxed W B2 3 (.int .i64 16) → Boxed W' B2 3 (.int .i64 16))
theorem KpC.trans {n₀ B1 B2 : Nat} {sv : Value} {A B C : World} (h : KpC n₀ B1 B2 sv A B) (k : KpC n₀ B1 B2 sv B C) : KpC n₀ B1 B2 sv A C := ⟨h.1.trans k.1, fun x => k.2.1 (h.2.1 x), fun x => k.2.2 (h.2.2 x)⟩
theorem chunk1_in (F : Fence) (n : Nat) (hf : F.fn 140) (hro : F.round = none) (hn : 1 ≤ n) (l B1 B2 n₀ len cap : Nat) (ad : Addr) (A : Option Addr) (hA : 0 < len → A = some ad) (hlen : len ≤ 1000000) (hcap : len ≤ cap) (J Jx : List (CI len) → World → Prop) (hJd : ∀ pre W, J pre W → J pre W.drew)
    (hY : ∀ pre x W, J pre W → pre.length < chunks len → YieldAt F (n - 1) Try.prog l #[chunkV ad len x.1] W fun e W' =>
      (e = .returned (.bool true) ∧ J (pre ++ [x]) W' ∧ KpC n₀ B1 B2 (.slice A len cap) W W') ∨ (e = .returned (.bool false) ∧ Jx (pre ++ [x]) W'))
    (W : World) (hB1 : Boxed W B1 27 (.slice A len cap)) (hB2 : Boxed W B2 3 (.int .i64 16)) (h0 : J [] W) :
    CallsIn F n Try.prog 140 #[.func (.yield l) #[] #[], .pointer (some ⟨B1, 0, none⟩), .pointer (some ⟨B2, 0, none⟩)] W fun e W' => (∃ v, e = .returned v) ∧
      ((∃ ys : List (CI len), ys.map (·.1) = List.range (chunks len) ∧ J ys W') ∨ (∃ pre, True ∧ Jx pre W')) := by
  refine callsIn_of_wp Try.func140 rfl hf ?_ hro
  simp only [Try.ntmps140, List.size_toArray, List.length_cons, List.length_nil, Nat.reduceAdd, Nat.reduceSub, Array.replicate_succ, Array.replicate_zero, List.push_toArray, List.append_toArray, List.nil_append, List.cons_append]
  gi_wp2
  gi_loopw [4, 5] (fun i _ wr => ∃ (k : Nat) (pre : List (CI len)), i = .int .i64 ((16 * k : Nat) : Int) ∧ k ≤ chunks len ∧ pre.map (·.1) = List.range k ∧ J pre wr ∧ Boxed wr B1 27 (.slice A len cap) ∧ Boxed wr B2 3 (.int .i64 16))
    (fun i _ _ => 16 + len - (intOf i).toNat)
  case atStart => exact ⟨0, [], rfl, Nat.zero_le _, rfl, h0, hB1, hB2⟩
  case round =>
    obtain ⟨k, pre, rfl, hk, hpre, hJs, hb1, hb2⟩ := hrel
    have hplen : pre.length = k := by have := congrArg List.length hpre; simpa using this
    have hc1 := hb1.cell
    have hc2 := hb2.cell
    by_cases hlt : 16 * k < len
    · obtain rfl := hA (by omega)
      obtain ⟨fn, tmps, assign, body, hy, hR⟩ := hY pre ⟨k, hlt⟩ wr.drew (hJd _ _ hJs) (by rw [hplen]; unfold chunks; omega)
      obtain ⟨q, hq⟩ : ∃ q : Nat, min 16 (len - 16 * k) = q := ⟨_, rfl⟩
      have hq1 : 16 * k + q ≤ len := by omega
      have hq2 : 16 * k + q - 16 * k = q := by omega
      have hd : decide (((16 * k : Nat) : Int) < (len : Int)) = true := decide_eq_true (by omega)
      have hm : (if ((len - 16 * k : Nat) : Int) < 16 then ((len - 16 * k : Nat) : Int) else 16) = ((min 16 (len - 16 * k) : Nat) : Int) := by split <;> omega
      have hqv : chunkV ad len k = .slice (some (ad.add (16 * k * 2))) (q : Nat) (q : Nat) := by unfold chunkV; rw [hq]
      dsimp only at hy
      rw [hqv] at hy
      rw [hq] at hm
      gi_wp2
      gi_region
      all_goals (
        gi_wp2
        refine hR.mono ?_
        rintro e W3 (⟨rfl, hJ3, hk3⟩ | ⟨rfl, hJx3⟩)
        · have hb1' := hk3.2.1 hb1
          have hb2' := hk3.2.2 hb2
          have hc2' := hb2'.cell
          have hw : wrap64 (((16 * k : Nat) : Int) + 16) = ((16 * (k + 1) : Nat) : Int) := by unfold wrap64; omega
          gi_wp2
          go_roundw
          case rel => exact ⟨k + 1, pre ++ [⟨k, hlt⟩], by first | rfl | (simp; omega), by unfold chunks at *; omega, by rw [List.range_succ, List.map_append, hpre]; rfl, hJ3, hb1', hb2'⟩
          case measure => simp [intOf]; omega
        · gi_wp2
          refine bodyPost_ret (results_none rfl _ _ _) rfl ?_
          exact ⟨⟨_, rfl⟩, .inr ⟨_, trivial, hJx3⟩⟩)
    · have hk2 : k = chunks len := by unfold chunks at *; omega
      have hd : decide (((16 * k : Nat) : Int) < (len : Int)) = false := decide_eq_false (by omega)
      gi_wp2
      go_end0
      exact ⟨⟨_, rfl⟩, .inl ⟨_, by rw [hpre, hk2], hJs⟩⟩
end Go.Proofs.Ytekanmieppnpeaa.Fe
end
