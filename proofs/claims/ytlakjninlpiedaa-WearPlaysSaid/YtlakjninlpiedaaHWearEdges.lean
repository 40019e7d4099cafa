/- WearEdges, walked. -/
import Derived.Test.YtlakjninlpiedaaHWear4
import Derived.Test.YtlakjninlpiedaaHEdgeLaws
import Derived.Deep.Slices
set_option linter.unusedVariables false
set_option linter.unusedSimpArgs false
namespace Go.Proofs.Ytlakjninlpiedaa.Fw
open Go Go.RowKit Go.Proofs.YtlakjninlpiedaaW.PrintWords Go.Proofs.YtlakjninlpiedaaW.PrintLast Go.Proofs.YtlakjninlpiedaaW.PrintMore Go.Proofs.Ytlakjninlpiedaa.Fl Go.Proofs.Ytlakjninlpiedaa.Sep Go.Proofs.Ytlakjninlpiedaa.G
set_option maxHeartbeats 4000000
set_option maxRecDepth 100000
attribute [local go_sem] run_f64bits run_frombits max2_int min2_int

/-- Acts, as a kind. -/
def KA : Kd (Int × Int × Int) where
  sz := 3
  E := []
  K := fun _ x cs => cs = [.int .u8 x.1, .int .u32 x.2.1, .int .u64 x.2.2]
  M := fun _ _ _ x cs => cs = [.int .u8 x.1, .int .u32 x.2.1, .int .u64 x.2.2]
  K_len := fun h => by rw [h]; rfl
  K_one := fun h u hu => by
    rw [h] at hu
    simp only [List.mem_cons, List.not_mem_nil, or_false] at hu
    rcases hu with rfl | rfl | rfl <;> rfl
  K_below := fun _ h => h
  K_of_M := fun h => h
  M_mono := fun _ h => h
  M_bound := fun h => h
  M_move := fun _ h => h
  M_lower := fun _ h => h
theorem KA_cells {w : World} {A : Option Addr} {l : List (Int × Int × Int)} (h : KA.C w A l.length l) (i : Nat) (hi : i < l.length) : ∃ ad, A = some ad ∧ w.cell? (ad.add (i * 3)) = some (.int .u8 l[i].1) ∧ w.cell? ⟨(ad.add (i * 3)).block, (ad.add (i * 3)).off + 1, none⟩ = some (.int .u32 l[i].2.1) ∧ w.cell? ⟨(ad.add (i * 3)).block, (ad.add (i * 3)).off + 2, none⟩ = some (.int .u64 l[i].2.2) := by
  obtain ⟨_, _, h3⟩ := h
  obtain ⟨ad', e, h4⟩ := h3 (by omega)
  obtain ⟨c, hc1, hc2, hc3⟩ := h4 i _ (List.getElem?_eq_getElem hi)
  have hc2' : c = [.int .u8 l[i].1, .int .u32 l[i].2.1, .int .u64 l[i].2.2] := hc2
  subst hc2'
  have h1 := hc3 1 _ rfl
  have h2 := hc3 2 _ rfl
  rw [show ad'.add (i * KA.sz + 1) = (ad'.add (i * 3)).add 1 from (Deep.add_add ad' (i * 3) 1).symm] at h1
  rw [show ad'.add (i * KA.sz + 2) = (ad'.add (i * 3)).add 2 from (Deep.add_add ad' (i * 3) 2).symm] at h2
  exact ⟨ad', e, hc3 0 _ rfl, h1, h2⟩

/-- All together. -/
def sumf (f : Nat → Nat) : Nat → Nat
  | 0 => 0
  | n + 1 => sumf f n + f n
theorem sumf_upd_ge (f : Nat → Nat) (k v : Nat) : ∀ s, s ≤ k → sumf (upd f k v) s = sumf f s
  | 0, _ => rfl
  | s + 1, h => by show sumf (upd f k v) s + upd f k v s = _; rw [sumf_upd_ge f k v s (by omega), upd_other (by omega)]; rfl
theorem sumf_upd (f : Nat → Nat) (k x : Nat) : ∀ s, k < s → sumf (upd f k (f k + x)) s = sumf f s + x
  | 0, h => by omega
  | s + 1, h => by
    show sumf (upd f k (f k + x)) s + upd f k (f k + x) s = sumf f s + f s + x
    by_cases hk : k = s
    · subst hk; rw [sumf_upd_ge f k _ k (Nat.le_refl _), upd_same]; omega
    · rw [sumf_upd f k x s (by omega), upd_other (by omega)]; omega
theorem sumf_le (f : Nat → Nat) (m : Nat) : ∀ s, (∀ k, k < s → f k ≤ m) → sumf f s ≤ m * s
  | 0, _ => by simp [sumf]
  | s + 1, h => by
    have h1 := sumf_le f m s (fun k hk => h k (by omega))
    have h2 := h s (by omega)
    show sumf f s + f s ≤ m * (s + 1)
    rw [Nat.mul_succ]; omega
theorem le_sumf (f : Nat → Nat) : ∀ s k, k < s → f k ≤ sumf f s
  | 0, k, h => by omega
  | s + 1, k, h => by
    show f k ≤ sumf f s + f s
    by_cases hk : k = s
    · subst hk; omega
    · have := le_sumf f s k (by omega); omega
/-- The counts of a gauge of s segments, all together t. -/
def Cs (f : Nat → Nat) (s t : Nat) : Prop := (∀ k, s ≤ k → f k = 0) ∧ sumf f s = t ∧ t ≤ 9007199254740992
theorem sumf_zero : ∀ s, sumf (fun _ => 0) s = 0
  | 0 => rfl
  | s + 1 => by show sumf (fun _ => 0) s + 0 = 0; rw [sumf_zero s]
theorem Cs.zero (s : Nat) : Cs (fun _ => 0) s 0 := ⟨fun _ _ => rfl, sumf_zero s, by decide⟩
theorem Cs.step {f : Nat → Nat} {s t k x : Nat} (h : Cs f s t) (hk : k < s) (hx : t + x ≤ 9007199254740992) : Cs (upd f k (f k + x)) s (t + x) :=
  ⟨fun j hj => by rw [upd_other (by omega)]; exact h.1 j hj, by rw [sumf_upd f k x s hk, h.2.1], hx⟩
theorem Cs.le {f : Nat → Nat} {s t : Nat} (h : Cs f s t) (k : Nat) : f k ≤ t := by
  by_cases hk : k < s
  · have := le_sumf f s k hk; rw [h.2.1] at this; exact this
  · rw [h.1 k (by omega)]; omega
theorem Cs.mx {f : Nat → Nat} {s t m : Nat} (h : Cs f s t) (hs : s ≤ 65536) (hm : Mx f m) : m ≤ 9007199254740992 ∧ t ≤ m * s := by
  constructor
  · rcases hm.2 with h0 | ⟨k, _, h0⟩
    · omega
    · have := h.le k; have := h.2.2; omega
  · rw [← h.2.1]; exact sumf_le f m s (fun k hk => hm.1 k (by omega))

theorem ge_e (x : Nat) (hx : 4607182418800017408 ≤ x) (hx' : x ≤ 9218868437227405312) : (FloatKind.f64.format.order x 4607182409792818153 == some .gt || FloatKind.f64.format.order x 4607182409792818153 == some .eq) = true := by
  rw [ge_f x _ hx' (by decide)]; exact decide_eq_true (by omega)

/-- What is asked behind each act. -/
theorem edge_tests {f : Nat → Nat} {s t : Nat} (h : Cs f s t) (hs : 1 ≤ s) (hs1 : s ≤ 65536) (limit m : Nat) (hm : Mx f m) :
    (FloatKind.f64.format.order (skewv m t s) 4607182409792818153 == some .gt || FloatKind.f64.format.order (skewv m t s) 4607182409792818153 == some .eq) = true := by
  obtain ⟨h1, h2⟩ := h.mx hs1 hm
  obtain ⟨a, b⟩ := skew_one h.2.2 hs hs1 h1 h2
  exact ge_e _ a b
theorem life_unit (limit m : Nat) (hl : limit < 18446744073709551616) : lifev limit m ≤ 4607182418800017408 := by
  unfold lifev
  split
  · omega
  · split
    · omega
    · rename_i hd; exact clamp_unit (Ieee.Format.div_lt _ hd)

theorem wearEdges_call (n : Nat) (A : Option Addr) (c : Nat) (l : List (Int × Int × Int)) (limit : Nat) (hn : n < 256) (hl : ∀ x ∈ l, (0 ≤ x.1 ∧ x.1 ≤ 255) ∧ (0 ≤ x.2.1 ∧ x.2.1 < 4294967296) ∧ (0 ≤ x.2.2 ∧ x.2.2 < 18446744073709551616)) (hlim : limit < 18446744073709551616) (w : World) (hC : KA.C w A l.length l) :
    Calls Try.prog 10 #[.int .u8 (n : Int), .slice A l.length c, .float .f64 limit] w fun r w' => r = .returned (.bool true) ∧ Below w.heap.size w w' := by
  have hu2 := Try.underlying24
  have hu3 := Try.underlying59
  have hS0 := Aside0.mk (Sep.start w)
  have hCA := Aside0.mk hC
  have hxA := Aside0.mk hl
  have hlA := Aside0.mk hlim
  have hmax := Aside0.mk (Kd.C_max hC)
  clear hC hl hlim
  by_cases hbig : 40 < l.length
  · have hd : decide ((l.length : Int) > 40) = true := decide_eq_true (by omega)
    have hd3 : decide (40 < l.length) = true := decide_eq_true hbig
    clear hbig
    go_enter Try.func10, Try.ntmps10
    go_wp2_with (fail)
    refine (lives29 w _ _ hS0.out).mono ?_
    rintro r w1 ⟨rfl, h1⟩
    have hS1 := Aside0.mk h1
    clear h1 hS0
    go_wp2_with (fail)
    refine (lives29 w _ _ hS1.out).mono ?_
    rintro r w2 ⟨rfl, h2⟩
    have hS2 := Aside0.mk h2
    clear h2 hS1
    go_wp2_with (fail)
    go_ret
    exact ⟨rfl, hS2.out.1⟩
  have hd : decide ((l.length : Int) > 40) = false := decide_eq_false (by omega)
  have hd3 : decide (40 < l.length) = false := decide_eq_false hbig
  have hbigA := Aside0.mk hbig
  obtain ⟨s, hs⟩ : ∃ s, 1 + n = s := ⟨_, rfl⟩
  have q3 : IntKind.u32.wrap (n : Int) = (n : Int) := by rw [IntKind.wrap_u32]; omega
  have q4 : IntKind.u32.wrap (1 + (n : Int)) = (s : Int) := by rw [IntKind.wrap_u32]; omega
  have hsA := Aside0.mk (show 1 ≤ s ∧ s ≤ 256 by omega)
  clear hbig hs hn
  go_enter Try.func10, Try.ntmps10
  go_wp2_with (fail)
  refine (lives29 w _ _ hS0.out).mono ?_
  rintro r w1 ⟨rfl, h1⟩
  have hS1 := Aside0.mk h1
  clear h1 hS0
  go_wp2_with (fail)
  refine (wear_New w _ 12 s _ hS1.out (by decide) (by decide) hsA.out.1 (by have := hsA.out; omega)).mono ?_
  rintro r w2 ⟨g, b, rfl, h2⟩
  have hS2 := Aside0.mk h2
  clear h2 hS1
  go_wp2_with (fail)
  go_loopg [38] l.length (fun kq v38 w' => ∃ (i t m : Nat) (f : Nat → Nat), v38 = .int .i64 (i : Int) ∧ Aside0 (i + kq = l.length) ∧ Aside0 (m ≤ i) ∧ Aside0 (Sep.Sep w w' (gg g 12 s b m t f ++ [])) ∧ Aside0 (Cs f s t))
  case atStart => exact ⟨0, 0, 0, _, rfl, ⟨by omega⟩, ⟨by omega⟩, hS2, ⟨Cs.zero s⟩⟩
  case round =>
    clear hS2
    obtain ⟨i, t, m, f, rfl, hA, hm, hS, hJ⟩ := hrel
    by_cases hil : i < l.length
    · obtain ⟨k1, rfl⟩ : ∃ k1, gk = k1 + 1 := ⟨gk - 1, by have := hA.out; omega⟩
      have he : decide ((i : Int) < (l.length : Int)) = true := decide_eq_true (by omega)
      have he2 : decide (i < l.length) = true := decide_eq_true hil
      have hw1 : wrap64 ((i : Int) + 1) = ((i + 1 : Nat) : Int) := by rw [show ((i : Int) + 1) = ((i + 1 : Nat) : Int) from rfl]; unfold wrap64; have := hbigA.out; omega
      have hA' : Aside0 (i + 1 + k1 = l.length) := ⟨by have := hA.out; omega⟩
      have p0 : ((0 : Int) ≤ (i : Int)) = True := eq_true (by omega)
      have q0 : ((i : Int) < (l.length : Int)) = True := eq_true (by omega)
      obtain ⟨ad, e0, hx0, hx1, hx2⟩ := KA_cells (Kd.C_below hCA.out hS.out.1) i hil
      subst e0
      have hb := hxA.out _ (List.getElem_mem hil)
      obtain ⟨⟨xa, xb, xc⟩, hxx⟩ : ∃ x, l[i] = x := ⟨_, rfl⟩
      rw [hxx] at hx0 hx1 hx2 hb
      obtain ⟨hb1, hb2, hb3⟩ := hb
      dsimp only at hb1 hb2 hb3 hx0 hx1 hx2
      obtain ⟨k, rfl⟩ : ∃ k : Nat, xb = k := ⟨xb.toNat, by have := hb2; omega⟩
      obtain ⟨x, rfl⟩ : ∃ x : Nat, xc = x := ⟨xc.toNat, by have := hb3; omega⟩
      have hkb : k < 4294967296 := by have := hb2; omega
      have hxb : x < 18446744073709551616 := by have := hb3; omega
      have hbA := Aside0.mk (And.intro hkb hxb)
      clear hxx hb1 hb2 hb3 hkb hxb hil
      go_upto_region 9 with (fail)
      have h1 := (hS.out.alloc #[.int .u8 xa, .int .u32 (k : Int), .int .u64 (x : Int)] 59).put2
      obtain ⟨ga, hga⟩ : ∃ ga, wr.heap.size = ga := ⟨_, rfl⟩
      rw [hga] at h1 ⊢
      generalize wr.alloc (.cells #[.int .u8 xa, .int .u32 (k : Int), .int .u64 (x : Int)] 59 (0, 0)) = wa at h1 ⊢
      have hc_0 : wa.cell? ⟨ga, 0, none⟩ = some (.int .u8 xa) := ((h1.pick2).cell 0).trans rfl; have hc_1 : wa.cell? ⟨ga, 1, none⟩ = some (.int .u32 (k : Int)) := ((h1.pick2).cell 1).trans rfl; have hc_2 : wa.cell? ⟨ga, 2, none⟩ = some (.int .u64 (x : Int)) := ((h1.pick2).cell 2).trans rfl
      have hSa := Aside0.mk h1
      have hmb := Aside0.mk (show m < 100 by have := hm.out; have := hA.out; have := hbigA.out; omega)
      have hf64 : Aside0 (∀ f' t', Cs f' s t' → ∀ k, k < 4294967296 → f' k < 18446744073709551616) := ⟨fun f' t' h k _ => by have := h.le k; have := h.2.2; omega⟩
      clear h1 hga hx0 hx1 hx2
      go_wp2_with (fail)
      refine (wear_Total w _ g 12 s b m t f _ hSa.out).mono ?_
      rintro r w3 ⟨rfl, hw3⟩
      subst hw3
      by_cases hks : k < s
      · by_cases htx : t + x ≤ 9007199254740992
        · have hJ2 := Aside0.mk (hJ.out.step hks htx)
          have hfk := hJ.out.le k
          go_wp2_with (fail)
          refine (wear_Note_ok w _ g 12 s b m t f _ k x hSa.out hks (by have := hsA.out; omega) htx (by omega) (by have := hmb.out; omega)).mono ?_
          rintro r w4 ⟨rfl, h4⟩
          have hwt : IntKind.u64.wrap ((t : Int) + (x : Int)) = ((t + x : Nat) : Int) := by rw [IntKind.wrap_u64]; omega
          clear hfk htx
          generalize t + x = t2 at *
          generalize upd f k (f k + x) = f2 at *
          clear hc_0 hc_1 hc_2
          have hq := h4.drew
          have hc_0 : w4.drew.cell? ⟨ga, 0, none⟩ = some (.int .u8 xa) := ((hq.pick2).cell 0).trans rfl; have hc_1 : w4.drew.cell? ⟨ga, 1, none⟩ = some (.int .u32 (k : Int)) := ((hq.pick2).cell 1).trans rfl; have hc_2 : w4.drew.cell? ⟨ga, 2, none⟩ = some (.int .u64 (x : Int)) := ((hq.pick2).cell 2).trans rfl
          have hS4 := Aside0.mk hq
          have hnn : (((t2 : Nat) : Int) != ((t2 : Nat) : Int)) = false := by simp
          clear h4 hq hks hSa
          go_wp2_with (fail)
          refine start_ (n := 21) (S := fun w' => w'.cell? ⟨ga, 2, none⟩ = some (.int .u64 (x : Int))) (ds := []) #[false, false, false, false, false, false, false, false, false, false, false, false, false, false, false, false, false, false, false, false, false] (by kernel_rfl) rfl rfl (hc_2) (fun hHeld => ?_)
          refine pure_ (i := 0) (N := some 50) (v := ?_) (a' := ?_) #[true, false, false, false, false, false, false, false, false, false, false, false, false, false, false, false, false, false, false, false, false] rfl rfl (by kernel_rfl) (fun _ _ _ h => h) (Or.inl ⟨by rfl, ?_⟩) ?_ ?_
          rotate_left
          · intro w'
            go_simp
            with_reducible rfl
          rotate_left
          · simp only [Act.put, List.setIfInBounds_toArray, List.set_cons_zero, List.set_cons_succ, i64_w, i32_w]
            rfl
          refine pure_ (i := 1) (N := some 51) (v := ?_) (a' := ?_) #[true, true, false, false, false, false, false, false, false, false, false, false, false, false, false, false, false, false, false, false, false] rfl rfl (by kernel_rfl) (fun _ _ _ h => h) (Or.inl ⟨by rfl, ?_⟩) ?_ ?_
          rotate_left
          · intro w'
            go_simp
            with_reducible rfl
          rotate_left
          · simp only [Act.put, List.setIfInBounds_toArray, List.set_cons_zero, List.set_cons_succ, i64_w, i32_w]
            rfl
          refine pure_ (i := 2) (N := some 52) (v := ?_) (a' := ?_) #[true, true, true, false, false, false, false, false, false, false, false, false, false, false, false, false, false, false, false, false, false] rfl rfl (by kernel_rfl) (fun _ _ _ h => h) (Or.inl ⟨by rfl, ?_⟩) ?_ ?_
          rotate_left
          · intro w'
            go_simp
            with_reducible rfl
          rotate_left
          · simp only [Act.put, List.setIfInBounds_toArray, List.set_cons_zero, List.set_cons_succ, i64_w, i32_w]
            rfl
          refine pure_ (i := 3) (N := some 53) (v := undef) (a' := ?_) #[true, true, true, true, false, false, false, false, false, false, false, false, false, false, false, false, false, false, false, false, false] rfl rfl (by kernel_rfl) (fun _ _ _ h => h) (Or.inr ⟨by rfl, rfl⟩) ?_ ?_
          rotate_left
          · simp only [Act.put, List.setIfInBounds_toArray, List.set_cons_zero, List.set_cons_succ, i64_w, i32_w]
            rfl
          refine pure_ (i := 4) (N := some 54) (v := undef) (a' := ?_) #[true, true, true, true, true, false, false, false, false, false, false, false, false, false, false, false, false, false, false, false, false] rfl rfl (by kernel_rfl) (fun _ _ _ h => h) (Or.inr ⟨by rfl, rfl⟩) ?_ ?_
          rotate_left
          · simp only [Act.put, List.setIfInBounds_toArray, List.set_cons_zero, List.set_cons_succ, i64_w, i32_w]
            rfl
          refine pure_ (i := 5) (N := some 55) (v := undef) (a' := ?_) #[true, true, true, true, true, true, false, false, false, false, false, false, false, false, false, false, false, false, false, false, false] rfl rfl (by kernel_rfl) (fun _ _ _ h => h) (Or.inr ⟨by rfl, rfl⟩) ?_ ?_
          rotate_left
          · simp only [Act.put, List.setIfInBounds_toArray, List.set_cons_zero, List.set_cons_succ, i64_w, i32_w]
            rfl
          refine pure_ (i := 6) (N := some 56) (v := undef) (a' := ?_) #[true, true, true, true, true, true, true, false, false, false, false, false, false, false, false, false, false, false, false, false, false] rfl rfl (by kernel_rfl) (fun _ _ _ h => h) (Or.inr ⟨by rfl, rfl⟩) ?_ ?_
          rotate_left
          · simp only [Act.put, List.setIfInBounds_toArray, List.set_cons_zero, List.set_cons_succ, i64_w, i32_w]
            rfl
          refine pure_ (i := 7) (N := some 57) (v := ?_) (a' := ?_) #[true, true, true, true, true, true, true, true, false, false, false, false, false, false, false, false, false, false, false, false, false] rfl rfl (by kernel_rfl) (fun _ _ _ h => h) (Or.inl ⟨by rfl, ?_⟩) ?_ ?_
          rotate_left
          · intro w'
            go_simp
            with_reducible rfl
          rotate_left
          · simp only [Act.put, List.setIfInBounds_toArray, List.set_cons_zero, List.set_cons_succ, i64_w, i32_w]
            rfl
          refine pure_ (i := 8) (N := some 58) (v := ?_) (a' := ?_) #[true, true, true, true, true, true, true, true, true, false, false, false, false, false, false, false, false, false, false, false, false] rfl rfl (by kernel_rfl) (fun _ _ _ h => h) (Or.inl ⟨by rfl, ?_⟩) ?_ ?_
          rotate_left
          · intro w'
            go_simp
            with_reducible rfl
          rotate_left
          · simp only [Act.put, List.setIfInBounds_toArray, List.set_cons_zero, List.set_cons_succ, i64_w, i32_w]
            rfl
          refine pure_ (i := 9) (N := some 59) (v := ?_) (a' := ?_) #[true, true, true, true, true, true, true, true, true, true, false, false, false, false, false, false, false, false, false, false, false] rfl rfl (by kernel_rfl) (fun _ _ _ h => h) (Or.inl ⟨by rfl, ?_⟩) ?_ ?_
          rotate_left
          · intro w'
            go_simp
            with_reducible rfl
          rotate_left
          · simp only [Act.put, List.setIfInBounds_toArray, List.set_cons_zero, List.set_cons_succ, i64_w, i32_w]
            rfl
          refine pure_ (i := 10) (N := some 60) (v := ?_) (a' := ?_) #[true, true, true, true, true, true, true, true, true, true, true, false, false, false, false, false, false, false, false, false, false] rfl rfl (by kernel_rfl) (fun _ _ _ h => h) (Or.inl ⟨by rfl, ?_⟩) ?_ ?_
          rotate_left
          · intro w'
            go_simp
            with_reducible rfl
          rotate_left
          · simp only [Act.put, List.setIfInBounds_toArray, List.set_cons_zero, List.set_cons_succ, i64_w, i32_w]
            rfl
          refine pure_ (i := 11) (N := some 61) (v := ?_) (a' := ?_) #[true, true, true, true, true, true, true, true, true, true, true, true, false, false, false, false, false, false, false, false, false] rfl rfl (by kernel_rfl) (fun _ _ _ h => h) (Or.inl ⟨by rfl, ?_⟩) ?_ ?_
          rotate_left
          · intro w'
            go_simp
            with_reducible rfl
          rotate_left
          · simp only [Act.put, List.setIfInBounds_toArray, List.set_cons_zero, List.set_cons_succ, i64_w, i32_w]
            rfl
          refine pure_ (i := 12) (N := some 62) (v := ?_) (a' := ?_) #[true, true, true, true, true, true, true, true, true, true, true, true, true, false, false, false, false, false, false, false, false] rfl rfl (by kernel_rfl) (fun _ _ _ h => h) (Or.inl ⟨by rfl, ?_⟩) ?_ ?_
          rotate_left
          · intro w'
            go_simp
            with_reducible rfl
          rotate_left
          · simp only [Act.put, List.setIfInBounds_toArray, List.set_cons_zero, List.set_cons_succ, i64_w, i32_w]
            rfl
          refine pure_ (i := 14) (N := some 64) (v := ?_) (a' := ?_) #[true, true, true, true, true, true, true, true, true, true, true, true, true, false, true, false, false, false, false, false, false] rfl rfl (by kernel_rfl) (fun _ _ _ h => h) (Or.inl ⟨by rfl, ?_⟩) ?_ ?_
          rotate_left
          · intro w'
            go_simp
            with_reducible rfl
          rotate_left
          · simp only [Act.put, List.setIfInBounds_toArray, List.set_cons_zero, List.set_cons_succ, i64_w, i32_w]
            rfl
          refine pure_ (i := 15) (N := some 65) (v := ?_) (a' := ?_) #[true, true, true, true, true, true, true, true, true, true, true, true, true, false, true, true, false, false, false, false, false] rfl rfl (by kernel_rfl) (fun _ _ _ h => h) (Or.inl ⟨by rfl, ?_⟩) ?_ ?_
          rotate_left
          · intro w'
            go_simp
            with_reducible rfl
          rotate_left
          · simp only [Act.put, List.setIfInBounds_toArray, List.set_cons_zero, List.set_cons_succ, i64_w, i32_w]
            rfl
          refine take_ (i := 16) (N := some 66) (v := ?_) (a' := ?_) #[true, true, true, true, true, true, true, true, true, true, true, true, true, false, true, true, true, false, false, false, false] rfl rfl (by kernel_rfl) (fun _ _ _ h => h) (Or.inl ⟨by rfl, ?_⟩) hHeld ?_ ?_
          rotate_left
          · intro w' s0
            go_simp
            with_reducible rfl
          rotate_left
          · simp only [Act.put, List.setIfInBounds_toArray, List.set_cons_zero, List.set_cons_succ, i64_w, i32_w]
            rfl
          refine pure_ (i := 17) (N := some 67) (v := ?_) (a' := ?_) #[true, true, true, true, true, true, true, true, true, true, true, true, true, false, true, true, true, true, false, false, false] rfl rfl (by kernel_rfl) (fun _ _ _ h => h) (Or.inl ⟨by rfl, ?_⟩) ?_ ?_
          rotate_left
          · intro w'
            go_simp
            with_reducible rfl
          rotate_left
          · simp only [Act.put, List.setIfInBounds_toArray, List.set_cons_zero, List.set_cons_succ, i64_w, i32_w]
            rfl
          refine one_ (i := 13) (N := some 63) #[true, true, true, true, true, true, true, true, true, true, true, true, true, true, true, true, true, true, false, false, false] rfl rfl (by kernel_rfl) (by decide) (fun K hK => ?_)
          refine goes_ Try.func22 (by kernel_rfl) rfl #[.pointer (some ⟨g, 0, none⟩)] (by rfl) rfl rfl (by (try simp only [List.map_toArray, List.map_cons, List.map_nil]); first | done | rfl) ?_
          refine (wear_Total w _ g 12 s b (m + 1) t2 f2 _ hS4.out).mono ?_
          rintro r w5 ⟨rfl, rfl⟩
          refine ⟨_, rfl, ?_⟩
          refine hK.out _ _ (hc_2) (fun hHeld => ?_)
          clear hK K
          refine norm_ (a' := ?_) ?_ ?_
          rotate_left
          · show Act.put _ (some 63) _ = _
            simp only [Act.put, List.setIfInBounds_toArray, List.set_cons_zero, List.set_cons_succ, i64_w, i32_w]
            rfl
          refine pure_ (i := 18) (N := some 68) (v := ?_) (a' := ?_) #[true, true, true, true, true, true, true, true, true, true, true, true, true, true, true, true, true, true, true, false, false] rfl rfl (by kernel_rfl) (fun _ _ _ h => h) (Or.inl ⟨by rfl, ?_⟩) ?_ ?_
          rotate_left
          · intro w'
            go_simp
            with_reducible rfl
          rotate_left
          · simp only [Act.put, List.setIfInBounds_toArray, List.set_cons_zero, List.set_cons_succ, i64_w, i32_w]
            rfl
          refine pure_ (i := 19) (N := some 69) (v := ?_) (a' := ?_) #[true, true, true, true, true, true, true, true, true, true, true, true, true, true, true, true, true, true, true, true, false] rfl rfl (by kernel_rfl) (fun _ _ _ h => h) (Or.inl ⟨by rfl, ?_⟩) ?_ ?_
          rotate_left
          · intro w'
            go_simp
            with_reducible rfl
          rotate_left
          · simp only [Act.put, List.setIfInBounds_toArray, List.set_cons_zero, List.set_cons_succ, i64_w, i32_w]
            rfl
          refine pure_ (i := 20) (N := some 70) (v := ?_) (a' := ?_) #[true, true, true, true, true, true, true, true, true, true, true, true, true, true, true, true, true, true, true, true, true] rfl rfl (by kernel_rfl) (fun _ _ _ h => h) (Or.inl ⟨by rfl, ?_⟩) ?_ ?_
          rotate_left
          · intro w'
            go_simp
            with_reducible rfl
          rotate_left
          · simp only [Act.put, List.setIfInBounds_toArray, List.set_cons_zero, List.set_cons_succ, i64_w, i32_w]
            rfl
          refine done_ (by kernel_rfl) ?_
          go_wp2_with (fail)
          refine (wear_Life w _ g 12 s b (m + 1) t2 f2 _ limit hS4.out (hf64.out f2 t2 hJ2.out) hlA.out).mono ?_
          rintro r w6 ⟨⟨mx, rfl, hMx⟩, hb6⟩
          have hle1 := life_unit limit mx hlA.out
          have g1 := ge0 (lifev limit mx) (by omega)
          have l1 : (FloatKind.f64.format.order (lifev limit mx) 4607182418800017408 == some .lt || FloatKind.f64.format.order (lifev limit mx) 4607182418800017408 == some .eq) = true := by rw [le_f _ _ (by omega) (by decide)]; exact decide_eq_true hle1
          have hS6 := Aside0.mk (hS4.out.below hb6)
          generalize lifev limit mx = L at *
          clear hb6 hMx hle1
          go_wp2_with (fail)
          refine (wear_Skew w _ g 12 s b (m + 1) t2 f2 _ hS6.out (hf64.out f2 t2 hJ2.out) hJ2.out.2.2 hsA.out.1 (by have := hsA.out; omega)).mono ?_
          rintro r w7 ⟨⟨m2, rfl, hM2⟩, hb7⟩
          have e1 := edge_tests hJ2.out hsA.out.1 (by have := hsA.out; omega) limit m2 hM2
          have hS7 := Aside0.mk (hS6.out.below hb7)
          generalize skewv m2 t2 s = K2 at *
          clear hb7 hM2 hS6
          go_wp2_with (fail)
          refine (wear_Mean w _ g 12 s b (m + 1) t2 f2 _ hS7.out (by have := hJ2.out.2.2; omega) (by have := hsA.out; omega)).mono ?_
          rintro r w8 ⟨rfl, hb8⟩
          have g3 := ge0 (ratiov t2 s) (ratiov_le t2 s)
          have hS8 := Aside0.mk (hS7.out.below hb8)
          generalize ratiov t2 s = R3 at *
          clear hb8 hS7
          go_wp2_with (fail)
          refine (wear_Total w _ g 12 s b (m + 1) t2 f2 _ hS8.out).mono ?_
          rintro r w9 ⟨rfl, hw9⟩
          have hS9 := Aside0.mk ((hw9 ▸ hS8.out).pick2.tail)
          have hq9 : decide ((t2 : Int) > 9007199254740992) = false := decide_eq_false (by have := hJ2.out.2.2; omega)
          have hq8 : decide (9007199254740992 < (t2 : Int)) = false := decide_eq_false (by have := hJ2.out.2.2; omega)
          have hq7 : decide (9007199254740992 < t2) = false := decide_eq_false (by have := hJ2.out.2.2; omega)
          clear hw9 hS8
          go_wp2_with (fail)
          go_roundg k1
          case measure => omega
          case rel => exact ⟨i + 1, t2, (m + 1), f2, by rw [hw1], hA', ⟨by have := hm.out; omega⟩, hS9, hJ2⟩
        · go_wp2_with (fail)
          refine (wear_Note_full w _ g 12 s b m t f _ k x hSa.out hks hJ.out.2.2 (by omega)).mono ?_
          rintro r w4 ⟨rfl, hw4⟩
          have h4 := hw4 ▸ hSa.out
          clear hc_0 hc_1 hc_2
          have hq := h4.drew
          have hc_0 : w4.drew.cell? ⟨ga, 0, none⟩ = some (.int .u8 xa) := ((hq.pick2).cell 0).trans rfl; have hc_1 : w4.drew.cell? ⟨ga, 1, none⟩ = some (.int .u32 (k : Int)) := ((hq.pick2).cell 1).trans rfl; have hc_2 : w4.drew.cell? ⟨ga, 2, none⟩ = some (.int .u64 (x : Int)) := ((hq.pick2).cell 2).trans rfl
          have hS4 := Aside0.mk hq
          have hnn : (((t : Nat) : Int) != ((t : Nat) : Int)) = false := by simp
          clear h4 hq hks hSa hw4
          go_wp2_with (fail)
          refine start_ (n := 21) (S := fun w' => w'.cell? ⟨ga, 2, none⟩ = some (.int .u64 (x : Int))) (ds := []) #[false, false, false, false, false, false, false, false, false, false, false, false, false, false, false, false, false, false, false, false, false] (by kernel_rfl) rfl rfl (hc_2) (fun hHeld => ?_)
          refine pure_ (i := 0) (N := some 50) (v := ?_) (a' := ?_) #[true, false, false, false, false, false, false, false, false, false, false, false, false, false, false, false, false, false, false, false, false] rfl rfl (by kernel_rfl) (fun _ _ _ h => h) (Or.inl ⟨by rfl, ?_⟩) ?_ ?_
          rotate_left
          · intro w'
            go_simp
            with_reducible rfl
          rotate_left
          · simp only [Act.put, List.setIfInBounds_toArray, List.set_cons_zero, List.set_cons_succ, i64_w, i32_w]
            rfl
          refine pure_ (i := 1) (N := some 51) (v := ?_) (a' := ?_) #[true, true, false, false, false, false, false, false, false, false, false, false, false, false, false, false, false, false, false, false, false] rfl rfl (by kernel_rfl) (fun _ _ _ h => h) (Or.inl ⟨by rfl, ?_⟩) ?_ ?_
          rotate_left
          · intro w'
            go_simp
            with_reducible rfl
          rotate_left
          · simp only [Act.put, List.setIfInBounds_toArray, List.set_cons_zero, List.set_cons_succ, i64_w, i32_w]
            rfl
          refine pure_ (i := 2) (N := some 52) (v := ?_) (a' := ?_) #[true, true, true, false, false, false, false, false, false, false, false, false, false, false, false, false, false, false, false, false, false] rfl rfl (by kernel_rfl) (fun _ _ _ h => h) (Or.inl ⟨by rfl, ?_⟩) ?_ ?_
          rotate_left
          · intro w'
            go_simp
            with_reducible rfl
          rotate_left
          · simp only [Act.put, List.setIfInBounds_toArray, List.set_cons_zero, List.set_cons_succ, i64_w, i32_w]
            rfl
          refine pure_ (i := 3) (N := some 53) (v := ?_) (a' := ?_) #[true, true, true, true, false, false, false, false, false, false, false, false, false, false, false, false, false, false, false, false, false] rfl rfl (by kernel_rfl) (fun _ _ _ h => h) (Or.inl ⟨by rfl, ?_⟩) ?_ ?_
          rotate_left
          · intro w'
            go_simp
            with_reducible rfl
          rotate_left
          · simp only [Act.put, List.setIfInBounds_toArray, List.set_cons_zero, List.set_cons_succ, i64_w, i32_w]
            rfl
          refine pure_ (i := 5) (N := some 55) (v := ?_) (a' := ?_) #[true, true, true, true, false, true, false, false, false, false, false, false, false, false, false, false, false, false, false, false, false] rfl rfl (by kernel_rfl) (fun _ _ _ h => h) (Or.inl ⟨by rfl, ?_⟩) ?_ ?_
          rotate_left
          · intro w'
            go_simp
            with_reducible rfl
          rotate_left
          · simp only [Act.put, List.setIfInBounds_toArray, List.set_cons_zero, List.set_cons_succ, i64_w, i32_w]
            rfl
          refine one_ (i := 4) (N := some 54) #[true, true, true, true, true, true, false, false, false, false, false, false, false, false, false, false, false, false, false, false, false] rfl rfl (by kernel_rfl) (by decide) (fun K hK => ?_)
          refine goes_ Try.func22 (by kernel_rfl) rfl #[.pointer (some ⟨g, 0, none⟩)] (by rfl) rfl rfl (by (try simp only [List.map_toArray, List.map_cons, List.map_nil]); first | done | rfl) ?_
          refine (wear_Total w _ g 12 s b m t f _ hS4.out).mono ?_
          rintro r w5 ⟨rfl, rfl⟩
          refine ⟨_, rfl, ?_⟩
          refine hK.out _ _ (hc_2) (fun hHeld => ?_)
          clear hK K
          refine norm_ (a' := ?_) ?_ ?_
          rotate_left
          · show Act.put _ (some 54) _ = _
            simp only [Act.put, List.setIfInBounds_toArray, List.set_cons_zero, List.set_cons_succ, i64_w, i32_w]
            rfl
          refine pure_ (i := 6) (N := some 56) (v := ?_) (a' := ?_) #[true, true, true, true, true, true, true, false, false, false, false, false, false, false, false, false, false, false, false, false, false] rfl rfl (by kernel_rfl) (fun _ _ _ h => h) (Or.inl ⟨by rfl, ?_⟩) ?_ ?_
          rotate_left
          · intro w'
            go_simp
            with_reducible rfl
          rotate_left
          · simp only [Act.put, List.setIfInBounds_toArray, List.set_cons_zero, List.set_cons_succ, i64_w, i32_w]
            rfl
          refine pure_ (i := 7) (N := some 57) (v := ?_) (a' := ?_) #[true, true, true, true, true, true, true, true, false, false, false, false, false, false, false, false, false, false, false, false, false] rfl rfl (by kernel_rfl) (fun _ _ _ h => h) (Or.inl ⟨by rfl, ?_⟩) ?_ ?_
          rotate_left
          · intro w'
            go_simp
            with_reducible rfl
          rotate_left
          · simp only [Act.put, List.setIfInBounds_toArray, List.set_cons_zero, List.set_cons_succ, i64_w, i32_w]
            rfl
          refine pure_ (i := 8) (N := some 58) (v := ?_) (a' := ?_) #[true, true, true, true, true, true, true, true, true, false, false, false, false, false, false, false, false, false, false, false, false] rfl rfl (by kernel_rfl) (fun _ _ _ h => h) (Or.inl ⟨by rfl, ?_⟩) ?_ ?_
          rotate_left
          · intro w'
            go_simp
            with_reducible rfl
          rotate_left
          · simp only [Act.put, List.setIfInBounds_toArray, List.set_cons_zero, List.set_cons_succ, i64_w, i32_w]
            rfl
          refine pure_ (i := 9) (N := some 59) (v := ?_) (a' := ?_) #[true, true, true, true, true, true, true, true, true, true, false, false, false, false, false, false, false, false, false, false, false] rfl rfl (by kernel_rfl) (fun _ _ _ h => h) (Or.inl ⟨by rfl, ?_⟩) ?_ ?_
          rotate_left
          · intro w'
            go_simp
            with_reducible rfl
          rotate_left
          · simp only [Act.put, List.setIfInBounds_toArray, List.set_cons_zero, List.set_cons_succ, i64_w, i32_w]
            rfl
          refine pure_ (i := 10) (N := some 60) (v := ?_) (a' := ?_) #[true, true, true, true, true, true, true, true, true, true, true, false, false, false, false, false, false, false, false, false, false] rfl rfl (by kernel_rfl) (fun _ _ _ h => h) (Or.inl ⟨by rfl, ?_⟩) ?_ ?_
          rotate_left
          · intro w'
            go_simp
            with_reducible rfl
          rotate_left
          · simp only [Act.put, List.setIfInBounds_toArray, List.set_cons_zero, List.set_cons_succ, i64_w, i32_w]
            rfl
          refine pure_ (i := 11) (N := some 61) (v := ?_) (a' := ?_) #[true, true, true, true, true, true, true, true, true, true, true, true, false, false, false, false, false, false, false, false, false] rfl rfl (by kernel_rfl) (fun _ _ _ h => h) (Or.inl ⟨by rfl, ?_⟩) ?_ ?_
          rotate_left
          · intro w'
            go_simp
            with_reducible rfl
          rotate_left
          · simp only [Act.put, List.setIfInBounds_toArray, List.set_cons_zero, List.set_cons_succ, i64_w, i32_w]
            rfl
          refine pure_ (i := 12) (N := some 62) (v := undef) (a' := ?_) #[true, true, true, true, true, true, true, true, true, true, true, true, true, false, false, false, false, false, false, false, false] rfl rfl (by kernel_rfl) (fun _ _ _ h => h) (Or.inr ⟨by rfl, rfl⟩) ?_ ?_
          rotate_left
          · simp only [Act.put, List.setIfInBounds_toArray, List.set_cons_zero, List.set_cons_succ, i64_w, i32_w]
            rfl
          refine pure_ (i := 13) (N := some 63) (v := undef) (a' := ?_) #[true, true, true, true, true, true, true, true, true, true, true, true, true, true, false, false, false, false, false, false, false] rfl rfl (by kernel_rfl) (fun _ _ _ h => h) (Or.inr ⟨by rfl, rfl⟩) ?_ ?_
          rotate_left
          · simp only [Act.put, List.setIfInBounds_toArray, List.set_cons_zero, List.set_cons_succ, i64_w, i32_w]
            rfl
          refine pure_ (i := 14) (N := some 64) (v := undef) (a' := ?_) #[true, true, true, true, true, true, true, true, true, true, true, true, true, true, true, false, false, false, false, false, false] rfl rfl (by kernel_rfl) (fun _ _ _ h => h) (Or.inr ⟨by rfl, rfl⟩) ?_ ?_
          rotate_left
          · simp only [Act.put, List.setIfInBounds_toArray, List.set_cons_zero, List.set_cons_succ, i64_w, i32_w]
            rfl
          refine pure_ (i := 15) (N := some 65) (v := undef) (a' := ?_) #[true, true, true, true, true, true, true, true, true, true, true, true, true, true, true, true, false, false, false, false, false] rfl rfl (by kernel_rfl) (fun _ _ _ h => h) (Or.inr ⟨by rfl, rfl⟩) ?_ ?_
          rotate_left
          · simp only [Act.put, List.setIfInBounds_toArray, List.set_cons_zero, List.set_cons_succ, i64_w, i32_w]
            rfl
          refine pure_ (i := 16) (N := some 66) (v := undef) (a' := ?_) #[true, true, true, true, true, true, true, true, true, true, true, true, true, true, true, true, true, false, false, false, false] rfl rfl (by kernel_rfl) (fun _ _ _ h => h) (Or.inr ⟨by rfl, rfl⟩) ?_ ?_
          rotate_left
          · simp only [Act.put, List.setIfInBounds_toArray, List.set_cons_zero, List.set_cons_succ, i64_w, i32_w]
            rfl
          refine pure_ (i := 17) (N := some 67) (v := undef) (a' := ?_) #[true, true, true, true, true, true, true, true, true, true, true, true, true, true, true, true, true, true, false, false, false] rfl rfl (by kernel_rfl) (fun _ _ _ h => h) (Or.inr ⟨by rfl, rfl⟩) ?_ ?_
          rotate_left
          · simp only [Act.put, List.setIfInBounds_toArray, List.set_cons_zero, List.set_cons_succ, i64_w, i32_w]
            rfl
          refine pure_ (i := 18) (N := some 68) (v := undef) (a' := ?_) #[true, true, true, true, true, true, true, true, true, true, true, true, true, true, true, true, true, true, true, false, false] rfl rfl (by kernel_rfl) (fun _ _ _ h => h) (Or.inr ⟨by rfl, rfl⟩) ?_ ?_
          rotate_left
          · simp only [Act.put, List.setIfInBounds_toArray, List.set_cons_zero, List.set_cons_succ, i64_w, i32_w]
            rfl
          refine pure_ (i := 19) (N := some 69) (v := ?_) (a' := ?_) #[true, true, true, true, true, true, true, true, true, true, true, true, true, true, true, true, true, true, true, true, false] rfl rfl (by kernel_rfl) (fun _ _ _ h => h) (Or.inl ⟨by rfl, ?_⟩) ?_ ?_
          rotate_left
          · intro w'
            go_simp
            with_reducible rfl
          rotate_left
          · simp only [Act.put, List.setIfInBounds_toArray, List.set_cons_zero, List.set_cons_succ, i64_w, i32_w]
            rfl
          refine pure_ (i := 20) (N := some 70) (v := ?_) (a' := ?_) #[true, true, true, true, true, true, true, true, true, true, true, true, true, true, true, true, true, true, true, true, true] rfl rfl (by kernel_rfl) (fun _ _ _ h => h) (Or.inl ⟨by rfl, ?_⟩) ?_ ?_
          rotate_left
          · intro w'
            go_simp
            with_reducible rfl
          rotate_left
          · simp only [Act.put, List.setIfInBounds_toArray, List.set_cons_zero, List.set_cons_succ, i64_w, i32_w]
            rfl
          refine done_ (by kernel_rfl) ?_
          go_wp2_with (fail)
          refine (wear_Life w _ g 12 s b m t f _ limit hS4.out (hf64.out f t hJ.out) hlA.out).mono ?_
          rintro r w6 ⟨⟨mx, rfl, hMx⟩, hb6⟩
          have hle1 := life_unit limit mx hlA.out
          have g1 := ge0 (lifev limit mx) (by omega)
          have l1 : (FloatKind.f64.format.order (lifev limit mx) 4607182418800017408 == some .lt || FloatKind.f64.format.order (lifev limit mx) 4607182418800017408 == some .eq) = true := by rw [le_f _ _ (by omega) (by decide)]; exact decide_eq_true hle1
          have hS6 := Aside0.mk (hS4.out.below hb6)
          generalize lifev limit mx = L at *
          clear hb6 hMx hle1
          go_wp2_with (fail)
          refine (wear_Skew w _ g 12 s b m t f _ hS6.out (hf64.out f t hJ.out) hJ.out.2.2 hsA.out.1 (by have := hsA.out; omega)).mono ?_
          rintro r w7 ⟨⟨m2, rfl, hM2⟩, hb7⟩
          have e1 := edge_tests hJ.out hsA.out.1 (by have := hsA.out; omega) limit m2 hM2
          have hS7 := Aside0.mk (hS6.out.below hb7)
          generalize skewv m2 t s = K2 at *
          clear hb7 hM2 hS6
          go_wp2_with (fail)
          refine (wear_Mean w _ g 12 s b m t f _ hS7.out (by have := hJ.out.2.2; omega) (by have := hsA.out; omega)).mono ?_
          rintro r w8 ⟨rfl, hb8⟩
          have g3 := ge0 (ratiov t s) (ratiov_le t s)
          have hS8 := Aside0.mk (hS7.out.below hb8)
          generalize ratiov t s = R3 at *
          clear hb8 hS7
          go_wp2_with (fail)
          refine (wear_Total w _ g 12 s b m t f _ hS8.out).mono ?_
          rintro r w9 ⟨rfl, hw9⟩
          have hS9 := Aside0.mk ((hw9 ▸ hS8.out).pick2.tail)
          have hq9 : decide ((t : Int) > 9007199254740992) = false := decide_eq_false (by have := hJ.out.2.2; omega)
          have hq8 : decide (9007199254740992 < (t : Int)) = false := decide_eq_false (by have := hJ.out.2.2; omega)
          have hq7 : decide (9007199254740992 < t) = false := decide_eq_false (by have := hJ.out.2.2; omega)
          clear hw9 hS8
          go_wp2_with (fail)
          go_roundg k1
          case measure => omega
          case rel => exact ⟨i + 1, t, m, f, by rw [hw1], hA', ⟨by have := hm.out; omega⟩, hS9, hJ⟩
      · go_wp2_with (fail)
        refine (wear_Note_arg w _ g 12 s b m t f _ k x hSa.out (by omega)).mono ?_
        rintro r w4 ⟨rfl, hw4⟩
        have h4 := hw4 ▸ hSa.out
        clear hc_0 hc_1 hc_2
        have hq := h4.drew
        have hc_0 : w4.drew.cell? ⟨ga, 0, none⟩ = some (.int .u8 xa) := ((hq.pick2).cell 0).trans rfl; have hc_1 : w4.drew.cell? ⟨ga, 1, none⟩ = some (.int .u32 (k : Int)) := ((hq.pick2).cell 1).trans rfl; have hc_2 : w4.drew.cell? ⟨ga, 2, none⟩ = some (.int .u64 (x : Int)) := ((hq.pick2).cell 2).trans rfl
        have hS4 := Aside0.mk hq
        have hnn : (((t : Nat) : Int) != ((t : Nat) : Int)) = false := by simp
        clear h4 hq hks hSa hw4
        go_wp2_with (fail)
        refine start_ (n := 21) (S := fun w' => w'.cell? ⟨ga, 2, none⟩ = some (.int .u64 (x : Int))) (ds := []) #[false, false, false, false, false, false, false, false, false, false, false, false, false, false, false, false, false, false, false, false, false] (by kernel_rfl) rfl rfl (hc_2) (fun hHeld => ?_)
        refine pure_ (i := 0) (N := some 50) (v := ?_) (a' := ?_) #[true, false, false, false, false, false, false, false, false, false, false, false, false, false, false, false, false, false, false, false, false] rfl rfl (by kernel_rfl) (fun _ _ _ h => h) (Or.inl ⟨by rfl, ?_⟩) ?_ ?_
        rotate_left
        · intro w'
          go_simp
          with_reducible rfl
        rotate_left
        · simp only [Act.put, List.setIfInBounds_toArray, List.set_cons_zero, List.set_cons_succ, i64_w, i32_w]
          rfl
        refine pure_ (i := 1) (N := some 51) (v := ?_) (a' := ?_) #[true, true, false, false, false, false, false, false, false, false, false, false, false, false, false, false, false, false, false, false, false] rfl rfl (by kernel_rfl) (fun _ _ _ h => h) (Or.inl ⟨by rfl, ?_⟩) ?_ ?_
        rotate_left
        · intro w'
          go_simp
          with_reducible rfl
        rotate_left
        · simp only [Act.put, List.setIfInBounds_toArray, List.set_cons_zero, List.set_cons_succ, i64_w, i32_w]
          rfl
        refine pure_ (i := 2) (N := some 52) (v := ?_) (a' := ?_) #[true, true, true, false, false, false, false, false, false, false, false, false, false, false, false, false, false, false, false, false, false] rfl rfl (by kernel_rfl) (fun _ _ _ h => h) (Or.inl ⟨by rfl, ?_⟩) ?_ ?_
        rotate_left
        · intro w'
          go_simp
          with_reducible rfl
        rotate_left
        · simp only [Act.put, List.setIfInBounds_toArray, List.set_cons_zero, List.set_cons_succ, i64_w, i32_w]
          rfl
        refine pure_ (i := 3) (N := some 53) (v := ?_) (a' := ?_) #[true, true, true, true, false, false, false, false, false, false, false, false, false, false, false, false, false, false, false, false, false] rfl rfl (by kernel_rfl) (fun _ _ _ h => h) (Or.inl ⟨by rfl, ?_⟩) ?_ ?_
        rotate_left
        · intro w'
          go_simp
          with_reducible rfl
        rotate_left
        · simp only [Act.put, List.setIfInBounds_toArray, List.set_cons_zero, List.set_cons_succ, i64_w, i32_w]
          rfl
        refine pure_ (i := 5) (N := some 55) (v := ?_) (a' := ?_) #[true, true, true, true, false, true, false, false, false, false, false, false, false, false, false, false, false, false, false, false, false] rfl rfl (by kernel_rfl) (fun _ _ _ h => h) (Or.inl ⟨by rfl, ?_⟩) ?_ ?_
        rotate_left
        · intro w'
          go_simp
          with_reducible rfl
        rotate_left
        · simp only [Act.put, List.setIfInBounds_toArray, List.set_cons_zero, List.set_cons_succ, i64_w, i32_w]
          rfl
        refine one_ (i := 4) (N := some 54) #[true, true, true, true, true, true, false, false, false, false, false, false, false, false, false, false, false, false, false, false, false] rfl rfl (by kernel_rfl) (by decide) (fun K hK => ?_)
        refine goes_ Try.func22 (by kernel_rfl) rfl #[.pointer (some ⟨g, 0, none⟩)] (by rfl) rfl rfl (by (try simp only [List.map_toArray, List.map_cons, List.map_nil]); first | done | rfl) ?_
        refine (wear_Total w _ g 12 s b m t f _ hS4.out).mono ?_
        rintro r w5 ⟨rfl, rfl⟩
        refine ⟨_, rfl, ?_⟩
        refine hK.out _ _ (hc_2) (fun hHeld => ?_)
        clear hK K
        refine norm_ (a' := ?_) ?_ ?_
        rotate_left
        · show Act.put _ (some 54) _ = _
          simp only [Act.put, List.setIfInBounds_toArray, List.set_cons_zero, List.set_cons_succ, i64_w, i32_w]
          rfl
        refine pure_ (i := 6) (N := some 56) (v := ?_) (a' := ?_) #[true, true, true, true, true, true, true, false, false, false, false, false, false, false, false, false, false, false, false, false, false] rfl rfl (by kernel_rfl) (fun _ _ _ h => h) (Or.inl ⟨by rfl, ?_⟩) ?_ ?_
        rotate_left
        · intro w'
          go_simp
          with_reducible rfl
        rotate_left
        · simp only [Act.put, List.setIfInBounds_toArray, List.set_cons_zero, List.set_cons_succ, i64_w, i32_w]
          rfl
        refine pure_ (i := 7) (N := some 57) (v := ?_) (a' := ?_) #[true, true, true, true, true, true, true, true, false, false, false, false, false, false, false, false, false, false, false, false, false] rfl rfl (by kernel_rfl) (fun _ _ _ h => h) (Or.inl ⟨by rfl, ?_⟩) ?_ ?_
        rotate_left
        · intro w'
          go_simp
          with_reducible rfl
        rotate_left
        · simp only [Act.put, List.setIfInBounds_toArray, List.set_cons_zero, List.set_cons_succ, i64_w, i32_w]
          rfl
        refine pure_ (i := 8) (N := some 58) (v := ?_) (a' := ?_) #[true, true, true, true, true, true, true, true, true, false, false, false, false, false, false, false, false, false, false, false, false] rfl rfl (by kernel_rfl) (fun _ _ _ h => h) (Or.inl ⟨by rfl, ?_⟩) ?_ ?_
        rotate_left
        · intro w'
          go_simp
          with_reducible rfl
        rotate_left
        · simp only [Act.put, List.setIfInBounds_toArray, List.set_cons_zero, List.set_cons_succ, i64_w, i32_w]
          rfl
        refine pure_ (i := 9) (N := some 59) (v := ?_) (a' := ?_) #[true, true, true, true, true, true, true, true, true, true, false, false, false, false, false, false, false, false, false, false, false] rfl rfl (by kernel_rfl) (fun _ _ _ h => h) (Or.inl ⟨by rfl, ?_⟩) ?_ ?_
        rotate_left
        · intro w'
          go_simp
          with_reducible rfl
        rotate_left
        · simp only [Act.put, List.setIfInBounds_toArray, List.set_cons_zero, List.set_cons_succ, i64_w, i32_w]
          rfl
        refine pure_ (i := 10) (N := some 60) (v := ?_) (a' := ?_) #[true, true, true, true, true, true, true, true, true, true, true, false, false, false, false, false, false, false, false, false, false] rfl rfl (by kernel_rfl) (fun _ _ _ h => h) (Or.inl ⟨by rfl, ?_⟩) ?_ ?_
        rotate_left
        · intro w'
          go_simp
          with_reducible rfl
        rotate_left
        · simp only [Act.put, List.setIfInBounds_toArray, List.set_cons_zero, List.set_cons_succ, i64_w, i32_w]
          rfl
        refine pure_ (i := 11) (N := some 61) (v := ?_) (a' := ?_) #[true, true, true, true, true, true, true, true, true, true, true, true, false, false, false, false, false, false, false, false, false] rfl rfl (by kernel_rfl) (fun _ _ _ h => h) (Or.inl ⟨by rfl, ?_⟩) ?_ ?_
        rotate_left
        · intro w'
          go_simp
          with_reducible rfl
        rotate_left
        · simp only [Act.put, List.setIfInBounds_toArray, List.set_cons_zero, List.set_cons_succ, i64_w, i32_w]
          rfl
        refine pure_ (i := 12) (N := some 62) (v := undef) (a' := ?_) #[true, true, true, true, true, true, true, true, true, true, true, true, true, false, false, false, false, false, false, false, false] rfl rfl (by kernel_rfl) (fun _ _ _ h => h) (Or.inr ⟨by rfl, rfl⟩) ?_ ?_
        rotate_left
        · simp only [Act.put, List.setIfInBounds_toArray, List.set_cons_zero, List.set_cons_succ, i64_w, i32_w]
          rfl
        refine pure_ (i := 13) (N := some 63) (v := undef) (a' := ?_) #[true, true, true, true, true, true, true, true, true, true, true, true, true, true, false, false, false, false, false, false, false] rfl rfl (by kernel_rfl) (fun _ _ _ h => h) (Or.inr ⟨by rfl, rfl⟩) ?_ ?_
        rotate_left
        · simp only [Act.put, List.setIfInBounds_toArray, List.set_cons_zero, List.set_cons_succ, i64_w, i32_w]
          rfl
        refine pure_ (i := 14) (N := some 64) (v := undef) (a' := ?_) #[true, true, true, true, true, true, true, true, true, true, true, true, true, true, true, false, false, false, false, false, false] rfl rfl (by kernel_rfl) (fun _ _ _ h => h) (Or.inr ⟨by rfl, rfl⟩) ?_ ?_
        rotate_left
        · simp only [Act.put, List.setIfInBounds_toArray, List.set_cons_zero, List.set_cons_succ, i64_w, i32_w]
          rfl
        refine pure_ (i := 15) (N := some 65) (v := undef) (a' := ?_) #[true, true, true, true, true, true, true, true, true, true, true, true, true, true, true, true, false, false, false, false, false] rfl rfl (by kernel_rfl) (fun _ _ _ h => h) (Or.inr ⟨by rfl, rfl⟩) ?_ ?_
        rotate_left
        · simp only [Act.put, List.setIfInBounds_toArray, List.set_cons_zero, List.set_cons_succ, i64_w, i32_w]
          rfl
        refine pure_ (i := 16) (N := some 66) (v := undef) (a' := ?_) #[true, true, true, true, true, true, true, true, true, true, true, true, true, true, true, true, true, false, false, false, false] rfl rfl (by kernel_rfl) (fun _ _ _ h => h) (Or.inr ⟨by rfl, rfl⟩) ?_ ?_
        rotate_left
        · simp only [Act.put, List.setIfInBounds_toArray, List.set_cons_zero, List.set_cons_succ, i64_w, i32_w]
          rfl
        refine pure_ (i := 17) (N := some 67) (v := undef) (a' := ?_) #[true, true, true, true, true, true, true, true, true, true, true, true, true, true, true, true, true, true, false, false, false] rfl rfl (by kernel_rfl) (fun _ _ _ h => h) (Or.inr ⟨by rfl, rfl⟩) ?_ ?_
        rotate_left
        · simp only [Act.put, List.setIfInBounds_toArray, List.set_cons_zero, List.set_cons_succ, i64_w, i32_w]
          rfl
        refine pure_ (i := 18) (N := some 68) (v := undef) (a' := ?_) #[true, true, true, true, true, true, true, true, true, true, true, true, true, true, true, true, true, true, true, false, false] rfl rfl (by kernel_rfl) (fun _ _ _ h => h) (Or.inr ⟨by rfl, rfl⟩) ?_ ?_
        rotate_left
        · simp only [Act.put, List.setIfInBounds_toArray, List.set_cons_zero, List.set_cons_succ, i64_w, i32_w]
          rfl
        refine pure_ (i := 19) (N := some 69) (v := ?_) (a' := ?_) #[true, true, true, true, true, true, true, true, true, true, true, true, true, true, true, true, true, true, true, true, false] rfl rfl (by kernel_rfl) (fun _ _ _ h => h) (Or.inl ⟨by rfl, ?_⟩) ?_ ?_
        rotate_left
        · intro w'
          go_simp
          with_reducible rfl
        rotate_left
        · simp only [Act.put, List.setIfInBounds_toArray, List.set_cons_zero, List.set_cons_succ, i64_w, i32_w]
          rfl
        refine pure_ (i := 20) (N := some 70) (v := ?_) (a' := ?_) #[true, true, true, true, true, true, true, true, true, true, true, true, true, true, true, true, true, true, true, true, true] rfl rfl (by kernel_rfl) (fun _ _ _ h => h) (Or.inl ⟨by rfl, ?_⟩) ?_ ?_
        rotate_left
        · intro w'
          go_simp
          with_reducible rfl
        rotate_left
        · simp only [Act.put, List.setIfInBounds_toArray, List.set_cons_zero, List.set_cons_succ, i64_w, i32_w]
          rfl
        refine done_ (by kernel_rfl) ?_
        go_wp2_with (fail)
        refine (wear_Life w _ g 12 s b m t f _ limit hS4.out (hf64.out f t hJ.out) hlA.out).mono ?_
        rintro r w6 ⟨⟨mx, rfl, hMx⟩, hb6⟩
        have hle1 := life_unit limit mx hlA.out
        have g1 := ge0 (lifev limit mx) (by omega)
        have l1 : (FloatKind.f64.format.order (lifev limit mx) 4607182418800017408 == some .lt || FloatKind.f64.format.order (lifev limit mx) 4607182418800017408 == some .eq) = true := by rw [le_f _ _ (by omega) (by decide)]; exact decide_eq_true hle1
        have hS6 := Aside0.mk (hS4.out.below hb6)
        generalize lifev limit mx = L at *
        clear hb6 hMx hle1
        go_wp2_with (fail)
        refine (wear_Skew w _ g 12 s b m t f _ hS6.out (hf64.out f t hJ.out) hJ.out.2.2 hsA.out.1 (by have := hsA.out; omega)).mono ?_
        rintro r w7 ⟨⟨m2, rfl, hM2⟩, hb7⟩
        have e1 := edge_tests hJ.out hsA.out.1 (by have := hsA.out; omega) limit m2 hM2
        have hS7 := Aside0.mk (hS6.out.below hb7)
        generalize skewv m2 t s = K2 at *
        clear hb7 hM2 hS6
        go_wp2_with (fail)
        refine (wear_Mean w _ g 12 s b m t f _ hS7.out (by have := hJ.out.2.2; omega) (by have := hsA.out; omega)).mono ?_
        rintro r w8 ⟨rfl, hb8⟩
        have g3 := ge0 (ratiov t s) (ratiov_le t s)
        have hS8 := Aside0.mk (hS7.out.below hb8)
        generalize ratiov t s = R3 at *
        clear hb8 hS7
        go_wp2_with (fail)
        refine (wear_Total w _ g 12 s b m t f _ hS8.out).mono ?_
        rintro r w9 ⟨rfl, hw9⟩
        have hS9 := Aside0.mk ((hw9 ▸ hS8.out).pick2.tail)
        have hq9 : decide ((t : Int) > 9007199254740992) = false := decide_eq_false (by have := hJ.out.2.2; omega)
        have hq8 : decide (9007199254740992 < (t : Int)) = false := decide_eq_false (by have := hJ.out.2.2; omega)
        have hq7 : decide (9007199254740992 < t) = false := decide_eq_false (by have := hJ.out.2.2; omega)
        clear hw9 hS8
        go_wp2_with (fail)
        go_roundg k1
        case measure => omega
        case rel => exact ⟨i + 1, t, m, f, by rw [hw1], hA', ⟨by have := hm.out; omega⟩, hS9, hJ⟩
    · have he : decide ((i : Int) < (l.length : Int)) = false := decide_eq_false (by omega)
      have he2 : decide (i < l.length) = false := decide_eq_false hil
      clear hil
      go_wp2_with (fail)
      refine (wear_Total w _ g 12 s b m t f _ hS.out).mono ?_
      rintro r w3 ⟨rfl, hw3⟩
      have hS3 := Aside0.mk (hw3 ▸ hS.out)
      clear hw3 hS
      by_cases ht0 : t = 0
      · subst ht0
        have e1 := eq_lit 4607182418800017408 (by decide)
        go_wp2_with (fail)
        refine (wear_Skew w _ g 12 s b m 0 f _ hS3.out (fun k _ => by have := hJ.out.le k; omega) (by decide) hsA.out.1 (by have := hsA.out; omega)).mono ?_
        rintro r w4 ⟨⟨m2, rfl, hM2⟩, hb4⟩
        have hS4 := Aside0.mk (hS3.out.below hb4)
        rw [show skewv m2 0 s = 4607182418800017408 from if_pos rfl]
        clear hb4 hM2 hS3
        go_wp2_with (fail)
        refine (wear_Least w _ g 12 s b m 0 f _ hS4.out hsA.out.1 (by have := hsA.out; omega)).mono ?_
        rintro r w5 ⟨⟨k, rfl, hL⟩, hb5⟩
        have hk : k = 0 := by
          refine Nat.eq_zero_of_not_pos fun hk => ?_
          have h1 := hL.2.2 0 hk
          have h2 := hJ.out.le 0
          omega
        subst hk
        have hS5 := Aside0.mk (hS4.out.below hb5)
        clear hb5 hL hS4
        go_wp2_with (fail)
        go_ret
        exact ⟨by first | rfl | simp, hS5.out.1⟩
      · have hq1 : decide ((t : Int) > 0) = true := decide_eq_true (by omega)
        have hq2 : decide ((0 : Int) < (t : Int)) = true := decide_eq_true (by omega)
        have hq3 : decide (0 < t) = true := decide_eq_true (by omega)
        have hq4 : ¬ t = 0 := ht0
        clear ht0
        go_wp2_with (fail)
        go_ret
        exact ⟨by first | rfl | simp, hS3.out.1⟩
end Go.Proofs.Ytlakjninlpiedaa.Fw
