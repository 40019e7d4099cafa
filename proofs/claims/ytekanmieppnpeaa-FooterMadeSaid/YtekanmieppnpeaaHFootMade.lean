/- FooterMade, walked. -/
import Derived.Test.YtekanmieppnpeaaHFootPut
import Derived.Test.YtekanmieppnpeaaGx10
import Derived.OpenShut
set_option linter.unusedVariables false
set_option linter.unusedSimpArgs false
namespace Go.Proofs.Ytekanmieppnpeaa.Fw
open Go Go.RowKit Go.Proofs.YtekanmieppnpeaaW.PrintWords Go.Proofs.YtekanmieppnpeaaW.PrintLast Go.Proofs.YtekanmieppnpeaaW.PrintMore Go.Proofs.Ytekanmieppnpeaa.Sep Go.Proofs.Ytekanmieppnpeaa.G Go.Proofs.Ytekanmieppnpeaa.PureKit Go.Proofs.Ytekanmieppnpeaa.Fe Go.Proofs.Ytekanmieppnpeaa.Tb
set_option maxHeartbeats 4000000
set_option maxRecDepth 100000
attribute [local go_sem] max2_int max_two

/-- At, as the statement turns it. -/
def md (x : E1) : E1 := ⟨x.f0, x.f1 % 16777216⟩
/-- The row when so many are turned. -/
def modl (s : List E1) (i : Nat) : List E1 := (s.take i).map md ++ s.drop i
theorem modl_zero (s : List E1) : modl s 0 = s := by simp [modl]
theorem modl_all (s : List E1) : modl s s.length = s.map md := by simp [modl]
theorem modl_len (s : List E1) (i : Nat) (h : i ≤ s.length) : (modl s i).length = s.length := by
  unfold modl; rw [List.length_append, List.length_map, List.length_take, List.length_drop]; omega
theorem modl_at (s : List E1) (i : Nat) (x : E1) (h : s[i]? = some x) : (modl s i)[i]? = some x := by
  have hi := (List.getElem?_eq_some_iff.1 h).1
  unfold modl
  rw [List.getElem?_append_right (by rw [List.length_map, List.length_take]; omega), List.length_map, List.length_take, show i - min i s.length = 0 by omega, List.getElem?_drop, Nat.add_zero, h]
theorem modl_step (s : List E1) (i : Nat) (x : E1) (h : s[i]? = some x) : modl s (i + 1) = (modl s i).set i (md x) := by
  have hi := (List.getElem?_eq_some_iff.1 h).1
  have hd : s.drop i = x :: s.drop (i + 1) := by
    rw [List.drop_eq_getElem_cons hi]; congr 1; exact (List.getElem?_eq_some_iff.1 h).2
  have hlt : ((s.take i).map md).length = i := by rw [List.length_map, List.length_take]; omega
  unfold modl
  rw [List.take_add_one, h, hd, List.map_append, List.set_append_right _ _ (by omega), hlt, Nat.sub_self]
  simp
theorem hold_set {cur : Array Value} {l : List E1} (h : Hold cur l) (i : Nat) (x y : E1) (hx : l[i]? = some x) (hy : y.f0 = x.f0) (hs : 2 * i + 1 < cur.size) : Hold (cur.setIfInBounds (i * 2 + 1) (.int .u32 y.f1)) (l.set i y) := by
  intro j z hj
  by_cases hij : i = j
  · subst hij
    have hz : y = z := by
      rw [List.getElem?_set_self (List.getElem?_eq_some_iff.1 hx).1] at hj
      exact Option.some.inj hj
    subst hz
    obtain ⟨c0, c1⟩ := h i x hx
    refine ⟨?_, ?_⟩
    · rw [Array.getElem?_setIfInBounds, if_neg (by omega), hy]; exact c0
    · rw [Array.getElem?_setIfInBounds, if_pos (by omega), if_pos (by omega)]
  · rw [List.getElem?_set_ne hij] at hj
    obtain ⟨c0, c1⟩ := h j z hj
    exact ⟨by rw [Array.getElem?_setIfInBounds, if_neg (by omega)]; exact c0, by rw [Array.getElem?_setIfInBounds, if_neg (by omega)]; exact c1⟩
/-- A bound above the turned ones. -/
def UB (s : List E1) (i : Nat) (u : Int) : Prop := 0 ≤ u ∧ u ≤ 16777216 ∧ ∀ (j : Nat) (x : E1), j < i → s[j]? = some x → x.f1 % 16777216 < u
theorem UB.zero (s : List E1) : UB s 0 0 := ⟨by omega, by omega, fun j x hj => by omega⟩
theorem UB.step {s : List E1} {i : Nat} {u : Int} (h : UB s i u) (x : E1) (hx : s[i]? = some x) : UB s (i + 1) (if u < x.f1 % 16777216 + 1 then x.f1 % 16777216 + 1 else u) := by
  obtain ⟨h1, h2, h3⟩ := h
  refine ⟨by split <;> omega, by split <;> omega, fun j y hj hy => ?_⟩
  by_cases hji : j = i
  · subst hji
    rw [hx] at hy
    cases Option.some.inj hy
    split <;> omega
  · have := h3 j y (by omega) hy
    split <;> omega
theorem made_check {l : List E1} {u : Int} (hne : sortE l ≠ []) (hu : UB (sortE l) (sortE l).length u) : checkF u (sortE ((sortE l).map md)) = 0 := by
  have hne2 : sortE ((sortE l).map md) ≠ [] := by
    obtain ⟨x, hx⟩ := List.exists_mem_of_ne_nil _ hne
    exact List.ne_nil_of_mem ((sortE_mem _ (md x)).2 (List.mem_map_of_mem hx))
  unfold checkF
  rw [if_neg (fun h => hne2 (List.length_eq_zero_iff.1 h)), if_neg (by rw [riseE_true (sortE_rise _)]; decide), if_neg]
  intro hany
  obtain ⟨y, hy, hyu⟩ := List.any_eq_true.1 hany
  have hyu := of_decide_eq_true hyu
  obtain ⟨x, hx, rfl⟩ := List.mem_map.1 ((sortE_mem _ y).1 hy)
  obtain ⟨j, hj⟩ := List.mem_iff_getElem?.1 hx
  have := hu.2.2 j x (List.getElem?_eq_some_iff.1 hj).1 hj
  have e : (md x).f1 = x.f1 % 16777216 := rfl
  rw [e] at hyu
  omega
theorem made_ok {l : List E1} (h : ∀ x ∈ l, OkE x) : ∀ x ∈ sortE ((sortE l).map md), OkE x := by
  intro y hy
  obtain ⟨x, hx, rfl⟩ := List.mem_map.1 ((sortE_mem _ y).1 hy)
  obtain ⟨a, b, c, d⟩ := h x ((sortE_mem _ x).1 hx)
  exact ⟨a, b, show 0 ≤ x.f1 % 16777216 by omega, show x.f1 % 16777216 ≤ 4294967295 by omega⟩

theorem footerMade_call (A : Option Addr) (c : Nat) (l : List E1) (hw : ∀ x ∈ l, ((Lit.int .u64 x.f0).wf = true) ∧ ((Lit.int .u32 x.f1).wf = true)) (w : World) (hC : kE.C w A l.length l) (hc : l.length ≤ c) :
    Calls Try.prog 12 #[.slice A l.length c] w fun e w' => e = .returned (.bool true) ∧ Below w.heap.size w w' := by
  have hok : ∀ x ∈ l, OkE x := fun x hx => by
    have h1 := bounds_u64 (hw x hx).1
    have h2 := bounds_u32 (hw x hx).2
    exact ⟨by omega, by omega, by omega, by omega⟩
  have hl := Aside0.mk (fun W => fasciclelaw13_lives.calls true W (by decide +kernel))
  by_cases hlen : l.length > 100
  · have d1 : decide ((l.length : Int) > 100) = true := decide_eq_true (by omega)
    have d2 : decide (l.length > 100) = true := decide_eq_true hlen
    clear hw hC hc hok
    go_enter Try.func12, Try.ntmps12
    go_wp2_with (fail)
    refine (hl.out _).mono ?_
    rintro e w1 ⟨rfl, hb1⟩
    have hB1 := Aside0.mk hb1
    clear hb1
    go_wp2_with (fail)
    refine (hl.out _).mono ?_
    rintro e w2 ⟨rfl, hb2⟩
    have hB2 := Aside0.mk hb2
    clear hb2
    go_wp2_with (fail)
    go_ret
    exact ⟨rfl, hB1.out.trans (hB2.out.mono hB1.out.size)⟩
  · have d1 : decide ((l.length : Int) > 100) = false := decide_eq_false (by omega)
    have d2 : decide (l.length > 100) = false := decide_eq_false hlen
    obtain ⟨s, hs⟩ : ∃ s, sortE l = s := ⟨_, rfl⟩
    have hsl : s.length ≤ 100 := by rw [← hs]; have := sortE_len l; omega
    have hcall := Aside0.mk (fun W (hb : Below w.heap.size w W) => sorted_call w W A c l [] ((Sep.start w).below hb) (Kd.C_below hC hb) (by omega))
    rw [hs] at hcall
    have hmk := Aside0.mk (fun u => @made_check l u)
    have hmo := Aside0.mk (made_ok hok)
    have hos : Aside0 (∀ x ∈ s, 0 ≤ x.f1) := ⟨fun x hx => (hok x ((sortE_mem l x).1 (by rw [hs]; exact hx))).2.2.1⟩
    rw [hs] at hmo
    simp only [hs] at hmk
    have hslA := Aside0.mk hsl
    have hemp : Aside0 (s = [] ↔ l = []) := ⟨by
      rw [← hs]
      refine ⟨fun h => ?_, fun h => by rw [h]; rfl⟩
      cases l with
      | nil => rfl
      | cons x t =>
        have := (sortE_mem (x :: t) x).2 (List.mem_cons_self ..)
        rw [h] at this; cases this⟩
    by_cases hse : s = []
    · have hle := hemp.out.1 hse
      subst hle
      subst hse
      have hck0 : checkF 0 [] = 4 := rfl
      clear hw hC hc hok hs hsl hmk hmo
      go_enter Try.func12, Try.ntmps12
      go_wp2_with (fail)
      refine (hl.out _).mono ?_
      rintro e w1 ⟨rfl, hb1⟩
      have hB1 := Aside0.mk hb1
      clear hb1
      go_wp2_with (fail)
      refine (hcall.out _ hB1.out).mono ?_
      rintro e w2 ⟨A2, c2, rfl, h2⟩
      have hS2 := Aside0.mk h2
      clear h2
      obtain ⟨gf, hgf⟩ : ∃ gf, w2.heap.size = gf := ⟨_, rfl⟩
      have hS3 := Aside0.mk (hS2.out.alloc #[.int .u32 0, .slice A2 0 c2] 29)
      rw [hgf] at hS3
      have hd0 : (w2.alloc (.cells #[.int .u32 0, .slice A2 0 c2] 29 (0, 0))).cell? ⟨gf, 0, none⟩ = some (.int .u32 0) := (hS3.out.cell 0).trans rfl
      have hd1 : (w2.alloc (.cells #[.int .u32 0, .slice A2 0 c2] 29 (0, 0))).cell? ⟨gf, 1, none⟩ = some (.slice A2 0 c2) := (hS3.out.cell 1).trans rfl
      go_wp2_with (fail)
      try rw [hgf]
      try simp only [List.length_nil]
      generalize w2.alloc (.cells #[.int .u32 0, .slice A2 0 c2] 29) = w3 at hS3 hd0 hd1 ⊢
      refine wp_loop_rounds 1 ?_
      rw [rounds_succ]
      go_wp2_with (fail)
      refine (sorted_call w w3 A2 c2 [] _ hS3.out.pick1.tail (rowE_C hS3.out.pick1).2.2 (by decide)).mono ?_
      rintro e w4 ⟨A4, c4, rfl, h4⟩
      have hf0 : w4.cell? ⟨gf, 0, none⟩ = some (.int .u32 0) := (h4.pick1.cell 0).trans rfl
      have hf1 : w4.cell? ⟨gf, 1, none⟩ = some (.slice A2 0 c2) := (h4.pick1.cell 1).trans rfl
      have hz1 := h4.pick1.frozen 1
      have hS5 := Aside0.mk (h4.pick1.set 1 (.slice A4 0 c4))
      simp only [List.setIfInBounds_toArray, List.set_cons_zero, List.set_cons_succ] at hS5
      clear h4 hd0 hd1
      have hS6 : Aside0 (Sep.Sep w (w4.setCell ⟨gf, 1, none⟩ (.slice A4 0 c4)) [row kE 33 (.slice A4 0 c4) [], blk gf #[.int .u32 0, .slice A4 0 c4] 29]) := ⟨hS5.out.pick1⟩
      clear hS5
      go_wp2_with (fail)
      clear hf0 hf1 hz1
      try simp only [show (sortE ([] : List E1)).length = 0 from rfl]
      refine (foot_put _ A4 c4 0 [] (rowE_C hS6.out).2.2 (Nat.zero_le _) (by decide) (fun x hx => by cases hx) (by decide) (by decide)).mono ?_
      rintro e w5 ⟨v5, rfl, -, hb5⟩
      rw [hck0]
      have hB5 := Aside0.mk (hS6.out.below hb5).1
      clear hb5
      go_wp2_with (fail)
      go_ret
      exact ⟨rfl, hB5.out⟩
    · have hlp : Aside0 (0 < l.length) := ⟨by
        cases l with
        | nil => exact absurd (hemp.out.2 rfl) hse
        | cons x t => simp⟩
      have d3 : decide ((l.length : Int) > 0) = true := decide_eq_true (by have := hlp.out; omega)
      have d4 : decide (0 < l.length) = true := decide_eq_true hlp.out
      clear hw hC hc hok hs hsl
      go_enter Try.func12, Try.ntmps12
      go_wp2_with (fail)
      refine (hl.out _).mono ?_
      rintro e w1 ⟨rfl, hb1⟩
      have hB1 := Aside0.mk hb1
      clear hb1
      go_wp2_with (fail)
      refine (hcall.out _ hB1.out).mono ?_
      rintro e w2 ⟨A2, c2, rfl, h2⟩
      obtain ⟨g, cap, cur, ev, k1, k2, k3, k4, k5⟩ := rowE_blk h2 hse
      cases ev
      obtain ⟨gf, hgf⟩ : ∃ gf, w2.heap.size = gf := ⟨_, rfl⟩
      have hS3 := Aside0.mk (k4.alloc #[.int .u32 0, .slice (some ⟨g, 0, none⟩) s.length c2] 29)
      rw [hgf] at hS3
      have hcur := Aside0.mk (And.intro k3 k5)
      have hcap := Aside0.mk (And.intro k1 k2)
      have hd0 : (w2.alloc (.cells #[.int .u32 0, .slice (some ⟨g, 0, none⟩) s.length c2] 29 (0, 0))).cell? ⟨gf, 1, none⟩ = some (.slice (some ⟨g, 0, none⟩) s.length c2) := (hS3.out.cell 1).trans rfl
      clear h2 k1 k2 k3 k4 k5
      go_wp2_with (fail)
      try rw [hgf]
      generalize w2.alloc (.cells #[.int .u32 0, .slice (some ⟨g, 0, none⟩) s.length c2] 29) = w3 at hS3 hd0 ⊢
      clear hd0 hgf
      go_loopg [21] s.length (fun kq v21 w' => ∃ (i : Nat) (u : Int) (cu : Array Value), v21 = .int .i64 i ∧ Aside0 (i + kq = s.length) ∧ Aside0 (UB s i u) ∧ Aside0 (cu.size = c2 * 2 ∧ Hold cu (modl s i)) ∧ Aside0 (Sep.Sep w w' [blk gf #[.int .u32 u, .slice (some ⟨g, 0, none⟩) s.length c2] 29, blk g cu 33]))
      case atStart => exact ⟨0, 0, cur, rfl, ⟨by omega⟩, ⟨UB.zero s⟩, ⟨by rw [modl_zero]; exact hcur.out⟩, hS3⟩
      case round =>
        clear hS3 hcur
        obtain ⟨i, u, cu, rfl, hA, hU, hH, hS⟩ := hrel
        by_cases hil : i < s.length
        · obtain ⟨k1, rfl⟩ : ∃ k1, gk = k1 + 1 := ⟨gk - 1, by have := hA.out; omega⟩
          have e1 : decide ((i : Int) < (s.length : Int)) = true := decide_eq_true (by omega)
          have e2 : decide (i < s.length) = true := decide_eq_true hil
          obtain ⟨x, hx⟩ : ∃ x, s[i]? = some x := ⟨_, List.getElem?_eq_getElem hil⟩
          have hcx := hH.out.2 i x (modl_at s i x hx)
          have hc0 : wr.cell? ⟨gf, 0, none⟩ = some (.int .u32 u) := (hS.out.cell 0).trans rfl
          have hc1 : wr.cell? ⟨gf, 1, none⟩ = some (.slice (some ⟨g, 0, none⟩) s.length c2) := (hS.out.cell 1).trans rfl
          have hcf : wr.cell? ⟨g, i * 2 + 1, none⟩ = some (.int .u32 x.f1) := (hS.out.pick1.cell _).trans (by rw [Nat.mul_comm i 2]; exact hcx.2)
          have hff : wr.frozen? ⟨g, i * 2 + 1, none⟩ = false := hS.out.pick1.frozen _
          have p0 : (0 : Int) ≤ (i : Int) := by omega
          have q0 : (i : Int) < (s.length : Int) := by omega
          have hq1 : wrap64 ((i : Int) + 1) = ((i + 1 : Nat) : Int) := by rw [w64 (by omega) (by have := hslA.out; omega)]; omega
          have hA' : Aside0 (i + 1 + k1 = s.length) := ⟨by have := hA.out; omega⟩
          have hxA := Aside0.mk hx
          have hx0 := hos.out x (List.mem_of_getElem? hx)
          obtain ⟨v, hv⟩ : ∃ v, x.f1.tmod 16777216 = v := ⟨_, rfl⟩
          have hve : v = x.f1 % 16777216 := by rw [← hv, Int.tmod_eq_emod_of_nonneg hx0]
          obtain ⟨z, hz⟩ : ∃ z, IntKind.u32.wrap (v + 1) = z := ⟨_, rfl⟩
          have hze : z = v + 1 := by rw [← hz, IntKind.wrap_u32]; omega
          obtain ⟨u2, hu2⟩ : ∃ u2, (if u < z then z else u) = u2 := ⟨_, rfl⟩
          have hU2 : Aside0 (UB s (i + 1) u2) := ⟨by have := hU.out.step x hx; rw [← hve, ← hze, hu2] at this; exact this⟩
          have hS7 := hS.out.pick1.set (i * 2 + 1) (.int .u32 v)
          have hg0 : (wr.setCell ⟨g, i * 2 + 1, none⟩ (.int .u32 v)).cell? ⟨gf, 0, none⟩ = some (.int .u32 u) := (hS7.pick1.cell 0).trans rfl
          have hg1 : (wr.setCell ⟨g, i * 2 + 1, none⟩ (.int .u32 v)).cell? ⟨gf, 1, none⟩ = some (.slice (some ⟨g, 0, none⟩) s.length c2) := (hS7.pick1.cell 1).trans rfl
          have hg2 : (wr.setCell ⟨g, i * 2 + 1, none⟩ (.int .u32 v)).cell? ⟨g, i * 2 + 1, none⟩ = some (.int .u32 v) := (hS7.cell _).trans (by rw [Array.getElem?_setIfInBounds, if_pos rfl, if_pos (by rw [hH.out.1]; have := hcap.out.1; omega)])
          have hgf0 : (wr.setCell ⟨g, i * 2 + 1, none⟩ (.int .u32 v)).frozen? ⟨gf, 0, none⟩ = false := hS7.pick1.frozen 0
          have hH2 : Aside0 ((cu.setIfInBounds (i * 2 + 1) (.int .u32 v)).size = c2 * 2 ∧ Hold (cu.setIfInBounds (i * 2 + 1) (.int .u32 v)) (modl s (i + 1))) := ⟨by
            refine ⟨by rw [Array.size_setIfInBounds]; exact hH.out.1, ?_⟩
            rw [modl_step s i x hx]
            have := hold_set hH.out.2 i x (md x) (modl_at s i x hx) rfl (by rw [hH.out.1]; have := hcap.out.1; omega)
            rw [show (md x).f1 = v from hve.symm] at this
            exact this⟩
          have hS7A := Aside0.mk hS7.pick1.drew
          have p1 : ((0 : Int) ≤ (i : Int)) = True := eq_true p0
          have q1 : ((i : Int) < (s.length : Int)) = True := eq_true q0
          clear hil hx hcx hve hze hS7
          go_wp2_with (fail)
          clear hc0 hc1 hcf hff
          generalize wr.setCell ⟨g, i * 2 + 1, none⟩ (.int .u32 v) = wq at hS7A hg0 hg1 hg2 hgf0 ⊢
          have hy0 : wq.drew.cell? ⟨gf, 0, none⟩ = some (.int .u32 u) := hg0
          have hy1 : wq.drew.cell? ⟨gf, 1, none⟩ = some (.slice (some ⟨g, 0, none⟩) s.length c2) := hg1
          have hy2 : wq.drew.cell? ⟨g, i * 2 + 1, none⟩ = some (.int .u32 v) := hg2
          have hzz : wq.drew.frozen? ⟨gf, 0, none⟩ = false := hgf0
          have hS8 := hS7A.out.set 0 (.int .u32 u2)
          simp only [List.setIfInBounds_toArray, List.set_cons_zero] at hS8
          have hS8 := Aside0.mk hS8
          clear hg0 hg1 hg2 hgf0
          refine start_ (n := 12) (S := fun w' => True) (ds := []) #[false, false, false, false, false, false, false, false, false, false, false, false] (by kernel_rfl) rfl rfl trivial (fun hHeld => ?_)
          refine pure_ (i := 0) (N := some 33) (v := ?_) (a' := ?_) #[true, false, false, false, false, false, false, false, false, false, false, false] rfl rfl (by kernel_rfl) (fun _ _ _ h => h) (Or.inl ⟨by rfl, ?_⟩) ?_ ?_
          rotate_left
          · intro w'
            go_simp
            with_reducible rfl
          rotate_left
          · simp only [Act.put, List.setIfInBounds_toArray, List.set_cons_zero, List.set_cons_succ, i64_w, i32_w]
            rfl
          refine pure_ (i := 2) (N := some 35) (v := ?_) (a' := ?_) #[true, false, true, false, false, false, false, false, false, false, false, false] rfl rfl (by kernel_rfl) (fun _ _ _ h => h) (Or.inl ⟨by rfl, ?_⟩) ?_ ?_
          rotate_left
          · intro w'
            go_simp
            with_reducible rfl
          rotate_left
          · simp only [Act.put, List.setIfInBounds_toArray, List.set_cons_zero, List.set_cons_succ, i64_w, i32_w]
            rfl
          refine pure_ (i := 4) (N := some 37) (v := ?_) (a' := ?_) #[true, false, true, false, true, false, false, false, false, false, false, false] rfl rfl (by kernel_rfl) (fun _ _ _ h => h) (Or.inl ⟨by rfl, ?_⟩) ?_ ?_
          rotate_left
          · intro w'
            go_simp
            with_reducible rfl
          rotate_left
          · simp only [Act.put, List.setIfInBounds_toArray, List.set_cons_zero, List.set_cons_succ, i64_w, i32_w]
            rfl
          refine two_ (i := 1) (j := 3) (Ni := some 34) (Nj := some 36) #[true, true, true, false, true, false, false, false, false, false, false, false] #[true, false, true, true, true, false, false, false, false, false, false, false] rfl rfl rfl rfl (by kernel_rfl) (by decide) (by decide) (fun K hK => ?_) (fun K hK => ?_)
          · skip
            refine value_ (w1 := ?_) (v := ?_) (by rfl) rfl ?_ ?_
            rotate_left 2
            · go_simp
              constructor
              · rfl
              · rfl
            refine hK.out _ _ trivial (fun hHeld => ?_)
            clear hK K
            refine norm_ (a' := ?_) ?_ ?_
            rotate_left
            · show Act.put _ (some 34) _ = _
              simp only [Act.put, List.setIfInBounds_toArray, List.set_cons_zero, List.set_cons_succ, i64_w, i32_w]
              rfl
            refine one_ (i := 3) (N := some 36) #[true, true, true, true, true, false, false, false, false, false, false, false] rfl rfl (by kernel_rfl) (by decide) (fun K hK => ?_)
            refine value_ (w1 := ?_) (v := ?_) (by rfl) rfl ?_ ?_
            rotate_left 2
            · go_simp
              constructor
              · rfl
              · rfl
            refine hK.out _ _ trivial (fun hHeld => ?_)
            clear hK K
            refine norm_ (a' := ?_) ?_ ?_
            rotate_left
            · show Act.put _ (some 36) _ = _
              simp only [Act.put, List.setIfInBounds_toArray, List.set_cons_zero, List.set_cons_succ, i64_w, i32_w]
              rfl
            refine pure_ (i := 5) (N := some 38) (v := ?_) (a' := ?_) #[true, true, true, true, true, true, false, false, false, false, false, false] rfl rfl (by kernel_rfl) (fun _ _ _ h => h) (Or.inl ⟨by rfl, ?_⟩) ?_ ?_
            rotate_left
            · intro w'
              go_simp
              with_reducible rfl
            rotate_left
            · simp only [Act.put, List.setIfInBounds_toArray, List.set_cons_zero, List.set_cons_succ, i64_w, i32_w]
              rfl
            refine pure_ (i := 6) (N := some 39) (v := ?_) (a' := ?_) #[true, true, true, true, true, true, true, false, false, false, false, false] rfl rfl (by kernel_rfl) (fun _ _ _ h => h) (Or.inl ⟨by rfl, ?_⟩) ?_ ?_
            rotate_left
            · intro w'
              go_simp
              with_reducible rfl
            rotate_left
            · simp only [Act.put, List.setIfInBounds_toArray, List.set_cons_zero, List.set_cons_succ, i64_w, i32_w]
              rfl
            refine one_ (i := 7) (N := some 40) #[true, true, true, true, true, true, true, true, false, false, false, false] rfl rfl (by kernel_rfl) (by decide) (fun K hK => ?_)
            refine value_ (w1 := ?_) (v := ?_) (by rfl) rfl ?_ ?_
            rotate_left 2
            · go_simp
              constructor
              · rfl
              · rfl
            refine hK.out _ _ trivial (fun hHeld => ?_)
            clear hK K
            refine norm_ (a' := ?_) ?_ ?_
            rotate_left
            · show Act.put _ (some 40) _ = _
              simp only [Act.put, List.setIfInBounds_toArray, List.set_cons_zero, List.set_cons_succ, i64_w, i32_w]
              rfl
            refine pure_ (i := 8) (N := some 41) (v := ?_) (a' := ?_) #[true, true, true, true, true, true, true, true, true, false, false, false] rfl rfl (by kernel_rfl) (fun _ _ _ h => h) (Or.inl ⟨by rfl, ?_⟩) ?_ ?_
            rotate_left
            · intro w'
              go_simp
              with_reducible rfl
            rotate_left
            · simp only [Act.put, List.setIfInBounds_toArray, List.set_cons_zero, List.set_cons_succ, i64_w, i32_w]
              rfl
            refine pure_ (i := 9) (N := some 42) (v := ?_) (a' := ?_) #[true, true, true, true, true, true, true, true, true, true, false, false] rfl rfl (by kernel_rfl) (fun _ _ _ h => h) (Or.inl ⟨by rfl, ?_⟩) ?_ ?_
            rotate_left
            · intro w'
              go_simp
              with_reducible rfl
            rotate_left
            · simp only [Act.put, List.setIfInBounds_toArray, List.set_cons_zero, List.set_cons_succ, i64_w, i32_w]
              rfl
            refine pure_ (i := 10) (N := some 43) (v := ?_) (a' := ?_) #[true, true, true, true, true, true, true, true, true, true, true, false] rfl rfl (by kernel_rfl) (fun _ _ _ h => h) (Or.inl ⟨by rfl, ?_⟩) ?_ ?_
            rotate_left
            · intro w'
              go_simp
              with_reducible rfl
            rotate_left
            · simp only [Act.put, List.setIfInBounds_toArray, List.set_cons_zero, List.set_cons_succ, i64_w, i32_w]
              rfl
            refine one_ (i := 11) (N := none) #[true, true, true, true, true, true, true, true, true, true, true, true] rfl rfl (by kernel_rfl) (by decide) (fun K hK => ?_)
            refine skip_ (w1 := ?_) (by rfl) rfl ?_ ?_
            rotate_left
            · go_simp
              rfl
            refine hK.out _ _ trivial (fun hHeld => ?_)
            clear hK K
            refine done_ (by kernel_rfl) ?_
            go_wp2_with (fail)
            go_roundg k1
            case measure => omega
            case rel => exact ⟨i + 1, u2, _, by first | rw [hq1] | rfl, hA', hU2, hH2, hS8⟩
          · skip
            refine value_ (w1 := ?_) (v := ?_) (by rfl) rfl ?_ ?_
            rotate_left 2
            · go_simp
              constructor
              · rfl
              · rfl
            refine hK.out _ _ trivial (fun hHeld => ?_)
            clear hK K
            refine norm_ (a' := ?_) ?_ ?_
            rotate_left
            · show Act.put _ (some 36) _ = _
              simp only [Act.put, List.setIfInBounds_toArray, List.set_cons_zero, List.set_cons_succ, i64_w, i32_w]
              rfl
            refine pure_ (i := 5) (N := some 38) (v := ?_) (a' := ?_) #[true, false, true, true, true, true, false, false, false, false, false, false] rfl rfl (by kernel_rfl) (fun _ _ _ h => h) (Or.inl ⟨by rfl, ?_⟩) ?_ ?_
            rotate_left
            · intro w'
              go_simp
              with_reducible rfl
            rotate_left
            · simp only [Act.put, List.setIfInBounds_toArray, List.set_cons_zero, List.set_cons_succ, i64_w, i32_w]
              rfl
            refine pure_ (i := 6) (N := some 39) (v := ?_) (a' := ?_) #[true, false, true, true, true, true, true, false, false, false, false, false] rfl rfl (by kernel_rfl) (fun _ _ _ h => h) (Or.inl ⟨by rfl, ?_⟩) ?_ ?_
            rotate_left
            · intro w'
              go_simp
              with_reducible rfl
            rotate_left
            · simp only [Act.put, List.setIfInBounds_toArray, List.set_cons_zero, List.set_cons_succ, i64_w, i32_w]
              rfl
            refine two_ (i := 1) (j := 7) (Ni := some 34) (Nj := some 40) #[true, true, true, true, true, true, true, false, false, false, false, false] #[true, false, true, true, true, true, true, true, false, false, false, false] rfl rfl rfl rfl (by kernel_rfl) (by decide) (by decide) (fun K hK => ?_) (fun K hK => ?_)
            · skip
              refine value_ (w1 := ?_) (v := ?_) (by rfl) rfl ?_ ?_
              rotate_left 2
              · go_simp
                constructor
                · rfl
                · rfl
              refine hK.out _ _ trivial (fun hHeld => ?_)
              clear hK K
              refine norm_ (a' := ?_) ?_ ?_
              rotate_left
              · show Act.put _ (some 34) _ = _
                simp only [Act.put, List.setIfInBounds_toArray, List.set_cons_zero, List.set_cons_succ, i64_w, i32_w]
                rfl
              refine one_ (i := 7) (N := some 40) #[true, true, true, true, true, true, true, true, false, false, false, false] rfl rfl (by kernel_rfl) (by decide) (fun K hK => ?_)
              refine value_ (w1 := ?_) (v := ?_) (by rfl) rfl ?_ ?_
              rotate_left 2
              · go_simp
                constructor
                · rfl
                · rfl
              refine hK.out _ _ trivial (fun hHeld => ?_)
              clear hK K
              refine norm_ (a' := ?_) ?_ ?_
              rotate_left
              · show Act.put _ (some 40) _ = _
                simp only [Act.put, List.setIfInBounds_toArray, List.set_cons_zero, List.set_cons_succ, i64_w, i32_w]
                rfl
              refine pure_ (i := 8) (N := some 41) (v := ?_) (a' := ?_) #[true, true, true, true, true, true, true, true, true, false, false, false] rfl rfl (by kernel_rfl) (fun _ _ _ h => h) (Or.inl ⟨by rfl, ?_⟩) ?_ ?_
              rotate_left
              · intro w'
                go_simp
                with_reducible rfl
              rotate_left
              · simp only [Act.put, List.setIfInBounds_toArray, List.set_cons_zero, List.set_cons_succ, i64_w, i32_w]
                rfl
              refine pure_ (i := 9) (N := some 42) (v := ?_) (a' := ?_) #[true, true, true, true, true, true, true, true, true, true, false, false] rfl rfl (by kernel_rfl) (fun _ _ _ h => h) (Or.inl ⟨by rfl, ?_⟩) ?_ ?_
              rotate_left
              · intro w'
                go_simp
                with_reducible rfl
              rotate_left
              · simp only [Act.put, List.setIfInBounds_toArray, List.set_cons_zero, List.set_cons_succ, i64_w, i32_w]
                rfl
              refine pure_ (i := 10) (N := some 43) (v := ?_) (a' := ?_) #[true, true, true, true, true, true, true, true, true, true, true, false] rfl rfl (by kernel_rfl) (fun _ _ _ h => h) (Or.inl ⟨by rfl, ?_⟩) ?_ ?_
              rotate_left
              · intro w'
                go_simp
                with_reducible rfl
              rotate_left
              · simp only [Act.put, List.setIfInBounds_toArray, List.set_cons_zero, List.set_cons_succ, i64_w, i32_w]
                rfl
              refine one_ (i := 11) (N := none) #[true, true, true, true, true, true, true, true, true, true, true, true] rfl rfl (by kernel_rfl) (by decide) (fun K hK => ?_)
              refine skip_ (w1 := ?_) (by rfl) rfl ?_ ?_
              rotate_left
              · go_simp
                rfl
              refine hK.out _ _ trivial (fun hHeld => ?_)
              clear hK K
              refine done_ (by kernel_rfl) ?_
              go_wp2_with (fail)
              go_roundg k1
              case measure => omega
              case rel => exact ⟨i + 1, u2, _, by first | rw [hq1] | rfl, hA', hU2, hH2, hS8⟩
            · skip
              refine value_ (w1 := ?_) (v := ?_) (by rfl) rfl ?_ ?_
              rotate_left 2
              · go_simp
                constructor
                · rfl
                · rfl
              refine hK.out _ _ trivial (fun hHeld => ?_)
              clear hK K
              refine norm_ (a' := ?_) ?_ ?_
              rotate_left
              · show Act.put _ (some 40) _ = _
                simp only [Act.put, List.setIfInBounds_toArray, List.set_cons_zero, List.set_cons_succ, i64_w, i32_w]
                rfl
              refine pure_ (i := 8) (N := some 41) (v := ?_) (a' := ?_) #[true, false, true, true, true, true, true, true, true, false, false, false] rfl rfl (by kernel_rfl) (fun _ _ _ h => h) (Or.inl ⟨by rfl, ?_⟩) ?_ ?_
              rotate_left
              · intro w'
                go_simp
                with_reducible rfl
              rotate_left
              · simp only [Act.put, List.setIfInBounds_toArray, List.set_cons_zero, List.set_cons_succ, i64_w, i32_w]
                rfl
              refine one_ (i := 1) (N := some 34) #[true, true, true, true, true, true, true, true, true, false, false, false] rfl rfl (by kernel_rfl) (by decide) (fun K hK => ?_)
              refine value_ (w1 := ?_) (v := ?_) (by rfl) rfl ?_ ?_
              rotate_left 2
              · go_simp
                constructor
                · rfl
                · rfl
              refine hK.out _ _ trivial (fun hHeld => ?_)
              clear hK K
              refine norm_ (a' := ?_) ?_ ?_
              rotate_left
              · show Act.put _ (some 34) _ = _
                simp only [Act.put, List.setIfInBounds_toArray, List.set_cons_zero, List.set_cons_succ, i64_w, i32_w]
                rfl
              refine pure_ (i := 9) (N := some 42) (v := ?_) (a' := ?_) #[true, true, true, true, true, true, true, true, true, true, false, false] rfl rfl (by kernel_rfl) (fun _ _ _ h => h) (Or.inl ⟨by rfl, ?_⟩) ?_ ?_
              rotate_left
              · intro w'
                go_simp
                with_reducible rfl
              rotate_left
              · simp only [Act.put, List.setIfInBounds_toArray, List.set_cons_zero, List.set_cons_succ, i64_w, i32_w]
                rfl
              refine pure_ (i := 10) (N := some 43) (v := ?_) (a' := ?_) #[true, true, true, true, true, true, true, true, true, true, true, false] rfl rfl (by kernel_rfl) (fun _ _ _ h => h) (Or.inl ⟨by rfl, ?_⟩) ?_ ?_
              rotate_left
              · intro w'
                go_simp
                with_reducible rfl
              rotate_left
              · simp only [Act.put, List.setIfInBounds_toArray, List.set_cons_zero, List.set_cons_succ, i64_w, i32_w]
                rfl
              refine one_ (i := 11) (N := none) #[true, true, true, true, true, true, true, true, true, true, true, true] rfl rfl (by kernel_rfl) (by decide) (fun K hK => ?_)
              refine skip_ (w1 := ?_) (by rfl) rfl ?_ ?_
              rotate_left
              · go_simp
                rfl
              refine hK.out _ _ trivial (fun hHeld => ?_)
              clear hK K
              refine done_ (by kernel_rfl) ?_
              go_wp2_with (fail)
              go_roundg k1
              case measure => omega
              case rel => exact ⟨i + 1, u2, _, by first | rw [hq1] | rfl, hA', hU2, hH2, hS8⟩
        · have e1 : decide ((i : Int) < (s.length : Int)) = false := decide_eq_false (by omega)
          have e2 : decide (i < s.length) = false := decide_eq_false hil
          have hie : i = s.length := by have := hA.out; omega
          subst hie
          have hc1 : wr.cell? ⟨gf, 1, none⟩ = some (.slice (some ⟨g, 0, none⟩) s.length c2) := (hS.out.cell 1).trans rfl
          have hml : (modl s s.length).length = s.length := modl_len s _ (Nat.le_refl _)
          have hrow := blk_rowE hS.out.pick1 (by rw [hml]; exact hcap.out.1) hcap.out.2 hH.out.1 hH.out.2
          rw [hml, modl_all] at hrow
          have hR := Aside0.mk hrow
          obtain ⟨t, ht⟩ : ∃ t, sortE (s.map md) = t := ⟨_, rfl⟩
          have hmkA := Aside0.mk (hmk.out u hse hU.out)
          have hmoA := Aside0.mk hmo.out
          have hcall2 := Aside0.mk (sorted_call w wr (some ⟨g, 0, none⟩) c2 (s.map md) _ hrow (by have := (rowE_C hrow).2.2; exact this) (by rw [List.length_map]; have := hslA.out; omega))
          rw [List.length_map] at hcall2
          have htl : Aside0 (t.length ≤ 100) := ⟨by rw [← ht]; have := sortE_len (s.map md); rw [List.length_map] at this; have := hslA.out; omega⟩
          rw [ht] at hcall2 hmkA hmoA
          have huA := Aside0.mk hU.out
          clear hrow ht hml hil
          go_wp2_with (fail)
          refine hcall2.out.mono ?_
          rintro e w4 ⟨A4, c4, rfl, h4⟩
          have hf0 : w4.cell? ⟨gf, 0, none⟩ = some (.int .u32 u) := (h4.pick2.cell 0).trans rfl
          have hf1 : w4.cell? ⟨gf, 1, none⟩ = some (.slice (some ⟨g, 0, none⟩) s.length c2) := (h4.pick2.cell 1).trans rfl
          have hz1 := h4.pick2.frozen 1
          have hS5 := h4.pick2.set 1 (.slice A4 t.length c4)
          simp only [List.setIfInBounds_toArray, List.set_cons_zero, List.set_cons_succ] at hS5
          have hS6 := Aside0.mk hS5.pick1
          clear h4 hS5 hc1
          go_wp2_with (fail)
          clear hf0 hf1 hz1
          refine (foot_put _ A4 c4 u t (rowE_C hS6.out).2.2 (rowE_C hS6.out).2.1 (by have := htl.out; omega) hmoA.out huA.out.1 (by have := huA.out.2.1; omega)).mono ?_
          rintro e w5 ⟨v5, rfl, -, hb5⟩
          rw [hmkA.out]
          have hB5 := Aside0.mk (hS6.out.below hb5).1
          clear hb5
          go_wp2_with (fail)
          go_ret
          exact ⟨rfl, hB5.out⟩
end Go.Proofs.Ytekanmieppnpeaa.Fw
