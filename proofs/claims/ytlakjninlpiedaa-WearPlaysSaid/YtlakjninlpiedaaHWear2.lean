/- wear: gauges made; the most worn, the mean, the skew, the least. -/
import Derived.Test.YtlakjninlpiedaaHWear
import Derived.OpenShut
set_option linter.unusedVariables false
set_option linter.unusedSimpArgs false
namespace Go.Proofs.Ytlakjninlpiedaa.Fw
open Go Go.RowKit Go.Proofs.YtlakjninlpiedaaW.PrintWords Go.Proofs.YtlakjninlpiedaaW.PrintLast Go.Proofs.YtlakjninlpiedaaW.PrintMore Go.Proofs.Ytlakjninlpiedaa.Fl Go.Proofs.Ytlakjninlpiedaa.Sep Go.Proofs.Ytlakjninlpiedaa.G
set_option maxHeartbeats 4000000
set_option maxRecDepth 100000
attribute [local go_sem] run_f64bits run_frombits max2_int min2_int

theorem check_ok {e s : Int} (h0 : 12 ≤ e) (h1 : e ≤ 24) (h2 : 1 ≤ s) (h3 : s ≤ 65536) : config_Check.f e s = some 0 := by
  unfold config_Check.f; rw [if_neg (by omega), if_neg (by omega), if_neg (by omega), if_neg (by omega)]
theorem check_no {e s : Int} (h : ¬ (12 ≤ e ∧ e ≤ 24 ∧ 1 ≤ s ∧ s ≤ 65536)) : config_Check.f e s = some 1 := by
  unfold config_Check.f
  by_cases a : e < 12
  · rw [if_pos a]
  rw [if_neg a]
  by_cases b : e > 24
  · rw [if_pos b]
  rw [if_neg b]
  by_cases c : s < 1
  · rw [if_pos c]
  rw [if_neg c, if_pos (by omega)]

theorem wear_New (w0 w : World) (e : Int) (s : Nat) (ps : List HP) (hs : Sep.Sep w0 w ps) (h0 : 12 ≤ e) (h1 : e ≤ 24) (h2 : 1 ≤ s) (h3 : s ≤ 65536) :
    Calls Try.prog 17 #[.agg #[.int .u8 e, .int .u32 (s : Int)]] w fun r w' => ∃ g b, r = .returned (.tuple #[.pointer (some ⟨g, 0, none⟩), .int .i64 0]) ∧ Sep.Sep w0 w' (gg g e s b 0 0 (fun _ => 0) ++ ps) := by
  have hu := Try.underlying107
  have hu2 := Try.underlying24
  have hck := check_ok h0 h1 (show 1 ≤ (s : Int) by omega) (by omega)
  have hmm := @run_makeMap Try.prog
  have hS := Aside0.mk (hs.alloc #[.int .u8 e, .int .u32 (s : Int)] 24)
  clear hs
  go_enter Try.func17, Try.ntmps17
  go_wp2_with (fail)
  refine (config_Check.calls e (s : Int) 0 _ hck).mono ?_
  rintro r w1 ⟨rfl, hb1⟩
  have h4 := hS.out.below hb1
  clear hb1
  have hc_0 : w1.cell? ⟨w.heap.size, 0, none⟩ = some (.int .u8 e) := ((h4).cell 0).trans rfl; have hc_1 : w1.cell? ⟨w.heap.size, 1, none⟩ = some (.int .u32 (s : Int)) := ((h4).cell 1).trans rfl
  have hsz : ∀ (W : World) (o : Obj), (W.alloc o).heap.size = W.heap.size + 1 := fun W o => by show (W.heap.push _).size = _; simp
  have h5 := h4.mp_new.alloc #[.int .u8 e, .int .u32 (s : Int), .map (some w1.heap.size), .int .u64 0] 107
  have hS5 := Aside0.mk h5.pick2.tail
  clear h4 h5
  go_wp2_with (fail)
  go_ret2
  exact ⟨_, _, by rw [← hsz w1 (.map #[] 0)]; rfl, hS5.out⟩
theorem wear_New_no (w : World) (e s : Int) (h : ¬ (12 ≤ e ∧ e ≤ 24 ∧ 1 ≤ s ∧ s ≤ 65536)) :
    Calls Try.prog 17 #[.agg #[.int .u8 e, .int .u32 s]] w fun r w' => r = .returned (.tuple #[.pointer none, .int .i64 1]) ∧ Below w.heap.size w w' := by
  have hu2 := Try.underlying24
  have hck := check_no h
  have hS := Aside0.mk ((Sep.start w).alloc #[.int .u8 e, .int .u32 s] 24)
  clear h
  go_enter Try.func17, Try.ntmps17
  go_wp2_with (fail)
  refine (config_Check.calls e s 1 _ hck).mono ?_
  rintro r w1 ⟨rfl, hb1⟩
  have hS1 := Aside0.mk (hS.out.below hb1)
  clear hb1
  go_wp2_with (fail)
  go_ret2
  exact ⟨rfl, hS1.out.1⟩

/-- Any bound of a map: it is reached, and none is above it. -/
def Mx (f : Nat → Nat) (m : Nat) : Prop := (∀ k, k < 4294967296 → f k ≤ m) ∧ (m = 0 ∨ ∃ k, k < 4294967296 ∧ f k = m)

theorem wear_most (w0 w : World) (g : Nat) (e : Int) (s b n t : Nat) (f : Nat → Nat) (ps : List HP) (hs : Sep.Sep w0 w (gg g e s b n t f ++ ps)) (hf : ∀ k, k < 4294967296 → f k < 18446744073709551616) :
    Calls Try.prog 82 #[.pointer (some ⟨g, 0, none⟩)] w fun r w' => (∃ m : Nat, r = .returned (.int .u64 (m : Int)) ∧ Mx f m) ∧ Below w.heap.size w w' := by
  have hu := Try.underlying107
  have hc_0 : w.cell? ⟨g, 0, none⟩ = some (.int .u8 e) := ((hs).cell 0).trans rfl; have hc_1 : w.cell? ⟨g, 1, none⟩ = some (.int .u32 (s : Int)) := ((hs).cell 1).trans rfl; have hc_2 : w.cell? ⟨g, 2, none⟩ = some (.map (some b)) := ((hs).cell 2).trans rfl; have hc_3 : w.cell? ⟨g, 3, none⟩ = some (.int .u64 (t : Int)) := ((hs).cell 3).trans rfl
  obtain ⟨⟨D, hD, hCn⟩, hb0, hblt⟩ := (hs.pick1).mp_at
  have hmap : Maps.IsMap D := by obtain ⟨es, clock, _, _, _, rfl⟩ := hD; exact ⟨_, rfl⟩
  obtain ⟨w1, hrun, hrg, hg1, hsz1⟩ := hD.range mKeyed Try.underlying105
  have hB1 : Below w.heap.size w w1 := ⟨hg1.os, hg1.tape, hg1.output, hg1.size, fun j hj => hg1.block j hj (by simp)⟩
  have hrgA := Aside0.mk hrg
  have hBA := Aside0.mk hB1
  have hCA := Aside0.mk hCn
  have hfA := Aside0.mk hf
  have h00 : Aside0 (∀ k : Nat, k < 4294967296 → Maps.has D (mK k) = false → f k ≤ 0) := ⟨fun k hk h => by
    have h1 := hCn k hk
    rw [Maps.atKey_of_not_has h] at h1
    simp only [DataW.lit.injEq, Lit.int.injEq, true_and] at h1
    omega⟩
  clear hs hD hCn hrg hg1 hB1 hb0 hblt hf hmap
  go_enter Try.func82, Try.ntmps82
  go_wp2_with (fail)
  go_loopg [3] (Maps.size D) (fun kq v3 w' => ∃ (m cnt : Nat) (left : Lit → Bool), v3 = .int .u64 (m : Int) ∧ Aside0 (cnt ≤ kq) ∧ Aside0 (w'.ranges Try.prog 22 mpR b w.heap.size n D left cnt) ∧ Aside0 (Below w.heap.size w w') ∧ Aside0 ((∀ k : Nat, k < 4294967296 → left (mK k) = false → f k ≤ m) ∧ (m = 0 ∨ ∃ k, k < 4294967296 ∧ f k = m)))
  case atStart => exact ⟨0, _, _, rfl, ⟨Nat.le_refl _⟩, hrgA, hBA, ⟨h00.out, .inl rfl⟩⟩
  case round =>
    obtain ⟨m, cnt, left, rfl, hA, hR, hB, hM⟩ := hrel
    rcases hR.out.next mKeyed 0 with ⟨hc0, hl0, hrn⟩ | ⟨key, v, kl, y, w2, cnt2, hkey, hlk, hv, hat, hrn, hrg2, hlt, hg2, hsz2, hen⟩
    · have hfin := Aside0.mk (show Mx f m from ⟨fun k hk => hM.out.1 k hk (hl0 _), hM.out.2⟩)
      clear hc0 hl0
      go_wp2_with (fail)
      go_ret
      exact ⟨⟨m, rfl, hfin.out⟩, hB.out⟩
    · obtain ⟨x, rfl, rfl, hxw⟩ := Maps.keyOf_int_inv Try.underlying22 hkey
      obtain ⟨c, rfl, rfl, hcw⟩ := plainElem_int_inv Try.underlying32 hv
      have hxb := bounds_u32 hxw
      have hcb := bounds_u64 hcw
      obtain ⟨k, rfl⟩ : ∃ k : Nat, x = k := ⟨x.toNat, by omega⟩
      obtain ⟨c, rfl⟩ : ∃ d : Nat, c = d := ⟨c.toNat, by omega⟩
      have hkb : k < 4294967296 := by omega
      have hfk : f k = c := by
        have h1 := hCA.out k hkb
        rw [hat] at h1
        simp only [DataW.lit.injEq, Lit.int.injEq, true_and] at h1
        omega
      obtain ⟨k1, rfl⟩ : ∃ k1, gk = k1 + 1 := ⟨gk - 1, by have := hA.out; omega⟩
      have hA2 : Aside0 (cnt2 ≤ k1) := ⟨by have := hA.out; omega⟩
      have hB2 : Aside0 (Below w.heap.size w w2) := ⟨hB.out.trans ⟨hg2.os, hg2.tape, hg2.output, hg2.size, fun j hj => hg2.block j (Nat.lt_of_lt_of_le hj hB.out.size) (by simp; omega)⟩⟩
      have hR2 := Aside0.mk hrg2
      have hne : ∀ j : Nat, ((Lit.int .u32 (j : Int)).sameKey (Lit.int .u32 (k : Int))) = true → j = k := fun j h => by
        have := WideAt.sameKey_eq h
        simp only [Lit.int.injEq, true_and] at this
        omega
      by_cases hmc : m < c
      · have hM2 : Aside0 ((∀ j : Nat, j < 4294967296 → (left (mK j) && !(mK j).sameKey (Lit.int .u32 (k : Int))) = false → f j ≤ c) ∧ (c = 0 ∨ ∃ k, k < 4294967296 ∧ f k = c)) := ⟨fun j hj h => by
            cases hl : left (mK j) with
            | false => have := hM.out.1 j hj hl; omega
            | true =>
              rw [hl, Bool.true_and] at h
              have := hne j (by simpa using h)
              rw [this, hfk]; omega, .inr ⟨k, hkb, hfk⟩⟩
        have hd : ((m : Int) < (c : Int)) = True := eq_true (by omega)
        have hd2 : (m < c) = True := eq_true hmc
        clear hxb hcb hkb hfk hxw hcw hlk hat hkey hv hlt hg2 hrg2 hne
        go_wp2_with (fail)
        all_goals first | contradiction | skip
        go_roundg k1
        case measure => omega
        case rel => exact ⟨c, cnt2, _, rfl, hA2, hR2, hB2, hM2⟩
      · have hM2 : Aside0 ((∀ j : Nat, j < 4294967296 → (left (mK j) && !(mK j).sameKey (Lit.int .u32 (k : Int))) = false → f j ≤ m) ∧ (m = 0 ∨ ∃ k, k < 4294967296 ∧ f k = m)) := ⟨fun j hj h => by
            cases hl : left (mK j) with
            | false => exact hM.out.1 j hj hl
            | true =>
              rw [hl, Bool.true_and] at h
              have := hne j (by simpa using h)
              rw [this, hfk]; omega, hM.out.2⟩
        clear hxb hcb hkb hfk hxw hcw hlk hat hkey hv hlt hg2 hrg2 hne
        go_wp2_with (fail)
        all_goals first | contradiction | skip
        go_roundg k1
        case measure => omega
        case rel => exact ⟨m, cnt2, _, rfl, hA2, hR2, hB2, hM2⟩
end Go.Proofs.Ytlakjninlpiedaa.Fw
