/- footer.Check, walked: its closure, slices.ContainsFunc. -/
import Derived.Test.YtekanmieppnpeaaLRise
set_option linter.unusedVariables false
set_option linter.unusedSimpArgs false
namespace Go.Proofs.Ytekanmieppnpeaa.Tb
open Go Go.RowKit Go.Proofs.YtekanmieppnpeaaW.PrintWords Go.Proofs.YtekanmieppnpeaaW.PrintLast Go.Proofs.YtekanmieppnpeaaW.PrintMore Go.Proofs.Ytekanmieppnpeaa.Sep Go.Proofs.Ytekanmieppnpeaa.G Go.Proofs.Ytekanmieppnpeaa.PureKit
set_option maxHeartbeats 4000000
set_option maxRecDepth 100000

theorem above_call (w0 w : World) (gf n c : Nat) (used : Int) (A : Option Addr) (x : E1) (ps : List HP) (hs : Sep.Sep w0 w (blk gf #[.int .u32 used, .slice A n c] 29 :: ps)) :
    Calls Try.prog 47 #[.agg #[.int .u64 x.f0, .int .u32 x.f1], .pointer (some ⟨gf, 0, none⟩)] w fun e w' => e = .returned (.bool (decide (x.f1 ≥ used))) ∧ Sep.Sep w0 w' (blk gf #[.int .u32 used, .slice A n c] 29 :: ps) := by
  have h1 := hs.alloc #[.int .u64 x.f0, .int .u32 x.f1] 33
  have hS := Aside0.mk h1
  have hc0 : (w.alloc (.cells #[.int .u64 x.f0, .int .u32 x.f1] 33 (0, 0))).cell? ⟨gf, 0, none⟩ = some (.int .u32 used) := (h1.pick1.cell 0).trans rfl
  have hc1 : (w.alloc (.cells #[.int .u64 x.f0, .int .u32 x.f1] 33 (0, 0))).cell? ⟨w.heap.size, 1, none⟩ = some (.int .u32 x.f1) := (h1.cell 1).trans rfl
  clear hs h1
  go_enter Try.func47, Try.ntmps47
  go_wp2_with (fail)
  go_ret
  exact ⟨rfl, hS.out.tail⟩

theorem index_call (w0 w : World) (fid : FuncId) (caps : Array Value) (A : Option Addr) (c : Nat) (l : List E1) (q : E1 → Bool) (ps : List HP)
    (hent : ∀ (args : Array Value) (w : World), (callFunc fid args).run Try.prog w = .ok (.enter fid args) w)
    (hs : Sep.Sep w0 w ps) (hC : kE.C w0 A l.length l) (hl : l.length ≤ 1000000)
    (hcl : ∀ (W : World) (x : E1), Sep.Sep w0 W ps → Calls Try.prog fid (#[.agg #[.int .u64 x.f0, .int .u32 x.f1]] ++ caps) W fun e W' => e = .returned (.bool (q x)) ∧ Sep.Sep w0 W' ps) :
    Calls Try.prog 108 #[.slice A l.length c, .func (.func fid) #[] caps] w fun e w' => ∃ r : Int, e = .returned (.int .i64 r) ∧ decide (r ≥ 0) = l.any q ∧ Sep.Sep w0 w' ps := by
  have hS := Aside0.mk hs
  have hCL := Aside0.mk hcl
  have hCA := Aside0.mk hC
  have hlA := Aside0.mk hl
  clear hs hC hcl hl
  go_enter Try.func108, Try.ntmps108
  go_wp2_with (fail)
  go_loopg [8] l.length (fun kq v8 w' => ∃ (i : Nat), v8 = .int .i64 i ∧ Aside0 (i + kq = l.length) ∧ Aside0 ((l.take i).any q = false) ∧ Aside0 (Sep.Sep w0 w' ps))
  case atStart => exact ⟨0, rfl, ⟨by omega⟩, ⟨rfl⟩, hS⟩
  case round =>
    obtain ⟨i, rfl, hA, hN, hS⟩ := hrel
    by_cases hil : i < l.length
    · obtain ⟨k1, rfl⟩ : ∃ k1, gk = k1 + 1 := ⟨gk - 1, by have := hA.out; omega⟩
      have hd : decide ((i : Int) < (l.length : Int)) = true := decide_eq_true (by omega)
      have hd2 : decide (i < l.length) = true := decide_eq_true hil
      obtain ⟨ad, e0, hx0, hx1⟩ := at_T33 (Kd.C_below hCA.out hS.out.1) (i : Int) (by omega) (by omega)
      subst e0
      rw [Int.toNat_natCast] at hx0 hx1
      obtain ⟨x, hx⟩ : ∃ x, l[i]? = some x := ⟨_, List.getElem?_eq_getElem hil⟩
      rw [rdE l i x hx] at hx0 hx1
      have p0 : (0 : Int) ≤ (i : Int) := by omega
      have q0 : (i : Int) < (l.length : Int) := by omega
      have hcall := Aside0.mk (fun W (hW : Sep.Sep w0 W ps) => hCL.out W x hW)
      have htk : (l.take (i + 1)).any q = ((l.take i).any q || q x) := by
        rw [List.take_add_one, hx, List.any_append]; simp
      have htA := Aside0.mk htk
      have hq1 : wrap64 ((i : Int) + 1) = ((i + 1 : Nat) : Int) := inc64 (by have := hlA.out; omega)
      have hA' : Aside0 (i + 1 + k1 = l.length) := ⟨by have := hA.out; omega⟩
      have hxA := Aside0.mk (show l[i]? = some x from hx)
      clear hil htk hx
      go_wp2_with (fail)
      refine (hcall.out _ hS.out).mono ?_
      rintro e w1 ⟨rfl, h1⟩
      have hS1 := Aside0.mk h1
      clear h1
      cases hq : q x with
      | true =>
        have hany : l.any q = true := List.any_eq_true.2 ⟨x, List.mem_of_getElem? hxA.out, hq⟩
        go_wp2_with (fail)
        go_ret
        exact ⟨_, rfl, by rw [hany]; exact decide_eq_true (by omega), hS1.out⟩
      | false =>
        have hN' : Aside0 ((l.take (i + 1)).any q = false) := ⟨by rw [htA.out, hN.out, hq]; rfl⟩
        go_wp2_with (fail)
        go_roundg k1
        case measure => omega
        case rel => exact ⟨i + 1, by first | rw [hq1] | rfl, hA', hN', hS1⟩
    · have hd : decide ((i : Int) < (l.length : Int)) = false := decide_eq_false (by omega)
      have hd2 : decide (i < l.length) = false := decide_eq_false hil
      have hany : l.any q = false := by
        have := hN.out
        rwa [List.take_of_length_le (by omega)] at this
      clear hil
      go_wp2_with (fail)
      go_ret
      exact ⟨-1, rfl, by rw [hany]; rfl, hS.out⟩
theorem contains_call (w0 w : World) (fid : FuncId) (caps : Array Value) (A : Option Addr) (c : Nat) (l : List E1) (q : E1 → Bool) (ps : List HP)
    (hent : ∀ (args : Array Value) (w : World), (callFunc fid args).run Try.prog w = .ok (.enter fid args) w)
    (hs : Sep.Sep w0 w ps) (hC : kE.C w0 A l.length l) (hl : l.length ≤ 1000000)
    (hcl : ∀ (W : World) (x : E1), Sep.Sep w0 W ps → Calls Try.prog fid (#[.agg #[.int .u64 x.f0, .int .u32 x.f1]] ++ caps) W fun e W' => e = .returned (.bool (q x)) ∧ Sep.Sep w0 W' ps) :
    Calls Try.prog 49 #[.slice A l.length c, .func (.func fid) #[] caps] w fun e w' => e = .returned (.bool (l.any q)) ∧ Sep.Sep w0 w' ps := by
  have hcall := Aside0.mk (index_call w0 w fid caps A c l q ps hent hs hC hl hcl)
  clear hs hC hcl hl
  go_enter Try.func49, Try.ntmps49
  go_wp2_with (fail)
  refine hcall.out.mono ?_
  rintro e w1 ⟨r, rfl, hr, h1⟩
  have hS1 := Aside0.mk h1
  have hrA := Aside0.mk hr
  clear h1 hr
  go_wp2_with (fail)
  go_ret
  exact ⟨by rw [← hrA.out]; rfl, hS1.out⟩

/-- What is wrong with a footer, if anything. -/
def checkF (used : Int) (l : List E1) : Int := if l.length = 0 then 4 else if riseE l = false then 8 else if (l.any fun x => decide (x.f1 ≥ used)) = true then 4 else 0
theorem check_call (w : World) (A : Option Addr) (c : Nat) (used : Int) (l : List E1) (hC : kE.C w A l.length l) (hc : l.length ≤ c) (hl : l.length ≤ 1000000) :
    Calls Try.prog 17 #[.agg #[.int .u32 used, .slice A l.length c]] w fun e w' => e = .returned (.int .i64 (checkF used l)) ∧ Below w.heap.size w w' := by
  have h1 := (Sep.start w).alloc #[.int .u32 used, .slice A l.length c] 29
  have hS := Aside0.mk h1
  have hCA := Aside0.mk hC
  have hmf : ∀ (fn : Fn) (first cap : Array Value) (w : World), (Instr.makeFunc fn first cap).run Try.prog w = .ok (.func fn first cap) w := fun _ _ _ _ => rfl
  obtain ⟨kr, hkr⟩ := (rise_ev l hl).rounds
  have hR := Aside0.mk (fun W (hb : Below w.heap.size w W) => table_Rising.calls kr A c l _ W (Kd.C_below hC hb) hc hkr)
  have hlA := Aside0.mk hl
  obtain ⟨R, hRe⟩ : ∃ R, riseE l = R := ⟨_, rfl⟩
  rw [hRe] at hR
  obtain ⟨B, hBe⟩ : ∃ B, (l.any fun x => decide (x.f1 ≥ used)) = B := ⟨_, rfl⟩
  have hCt := Aside0.mk (fun W (hW : Sep.Sep w W [blk w.heap.size #[.int .u32 used, .slice A l.length c] 29]) => contains_call w W 47 #[.pointer (some ⟨w.heap.size, 0, none⟩)] A c l (fun x => decide (x.f1 ≥ used)) _ Try.call47 hW hC hl (fun W2 x h2 => above_call w W2 w.heap.size l.length c used A x [] h2))
  rw [hBe] at hCt
  have hval : checkF used l = if l.length = 0 then 4 else if R = false then 8 else if B = true then 4 else 0 := by unfold checkF; rw [hRe, hBe]
  rw [hval]
  have hc0 : (w.alloc (.cells #[.int .u32 used, .slice A l.length c] 29 (0, 0))).cell? ⟨w.heap.size, 0, none⟩ = some (.int .u32 used) := (h1.cell 0).trans rfl
  have hc1 : (w.alloc (.cells #[.int .u32 used, .slice A l.length c] 29 (0, 0))).cell? ⟨w.heap.size, 1, none⟩ = some (.slice A l.length c) := (h1.cell 1).trans rfl
  clear h1 hC hc hkr hRe hBe hval hl
  by_cases h0 : l.length = 0
  · have e1 : ((l.length : Int) == 0) = true := beq_iff_eq.2 (by omega)
    have e2 : (l.length == 0) = true := beq_iff_eq.2 h0
    have e3 : decide (l.length = 0) = true := decide_eq_true h0
    rw [if_pos h0]
    clear hR hCt h0
    go_enter Try.func17, Try.ntmps17
    go_wp2_with (fail)
    go_ret
    exact ⟨rfl, hS.out.1⟩
  · rw [if_neg h0]
    have e1 : ((l.length : Int) == 0) = false := beq_eq_false_iff_ne.2 (by omega)
    have e2 : (l.length == 0) = false := beq_eq_false_iff_ne.2 h0
    have e3 : decide (l.length = 0) = false := decide_eq_false h0
    have e4 : decide ((l.length : Int) > 1048576) = false := decide_eq_false (by have := hlA.out; omega)
    have e5 : decide (l.length > 1048576) = false := decide_eq_false (by have := hlA.out; omega)
    go_enter Try.func17, Try.ntmps17
    clear h0
    go_wp2_with (fail)
    refine (hR.out _ hS.out.1).mono ?_
    rintro e w1 ⟨rfl, hb⟩
    have hS1 := Aside0.mk (hS.out.below hb)
    have hd1 : w1.cell? ⟨w.heap.size, 1, none⟩ = some (.slice A l.length c) := (hS1.out.cell 1).trans rfl
    clear hb
    cases R with
    | false =>
      go_wp2_with (fail)
      go_ret
      exact ⟨rfl, hS1.out.1⟩
    | true =>
      go_wp2_with (fail)
      refine (hCt.out _ hS1.out).mono ?_
      rintro e w2 ⟨rfl, h2⟩
      have hS2 := Aside0.mk h2
      clear h2
      cases B with
      | true =>
        go_wp2_with (fail)
        go_ret
        exact ⟨rfl, hS2.out.1⟩
      | false =>
        go_wp2_with (fail)
        go_ret
        exact ⟨rfl, hS2.out.1⟩
end Go.Proofs.Ytekanmieppnpeaa.Tb
namespace Go.Proofs.Ytekanmieppnpeaa.G
open Go Go.RowKit Go.Proofs.YtekanmieppnpeaaW.PrintWords Go.Proofs.YtekanmieppnpeaaW.PrintLast Go.Proofs.YtekanmieppnpeaaW.PrintMore Go.Proofs.Ytekanmieppnpeaa.Sep Go.Proofs.Ytekanmieppnpeaa.Tb
def footer_Check.f (a0_0 : Int) (l0_1 : List (S33)) : Option Int := if l0_1.length ≤ 1000000 then some (checkF a0_0 l0_1) else none
theorem footer_Check.calls (a0_0 : Int) (A0_1 : Option Addr) (c0_1 : Nat) (l0_1 : List (S33)) (r : Int) (w : World) (hr0_1 : Kd.C k33 w A0_1 l0_1.length l0_1) (hc0_1 : l0_1.length ≤ c0_1) (h : footer_Check.f a0_0 l0_1 = some r) :
    Calls Try.prog 17 #[.agg #[.int .u32 a0_0, .slice A0_1 l0_1.length c0_1]] w fun e w' => e = .returned (.int .i64 r) ∧ Below w.heap.size w w' := by
  unfold footer_Check.f at h
  split at h
  · rename_i hl
    cases Option.some.inj h
    exact check_call w A0_1 c0_1 a0_0 l0_1 hr0_1 hc0_1 hl
  · cases h
end Go.Proofs.Ytekanmieppnpeaa.G
