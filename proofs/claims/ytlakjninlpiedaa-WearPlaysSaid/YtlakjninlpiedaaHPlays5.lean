/- Written by mkplays.py: WearPlays, walked. -/
import Derived.Test.YtlakjninlpiedaaHPlays4
set_option linter.unusedVariables false
set_option linter.unusedSimpArgs false
namespace Go.Proofs.Ytlakjninlpiedaa.Fw
open Go Go.RowKit Go.Proofs.YtlakjninlpiedaaW.PrintWords Go.Proofs.YtlakjninlpiedaaW.PrintLast Go.Proofs.YtlakjninlpiedaaW.PrintMore Go.Proofs.Ytlakjninlpiedaa.Fl Go.Proofs.Ytlakjninlpiedaa.Sep Go.Proofs.Ytlakjninlpiedaa.G
set_option maxHeartbeats 8000000
set_option maxRecDepth 100000
attribute [local go_sem] run_f64bits run_frombits max2_int min2_int

theorem wearPlays_call (n : Nat) (A : Option Addr) (c : Nat) (l : List (Int × Int × Int)) (limit : Nat) (hn : n < 256) (hl : ∀ x ∈ l, (0 ≤ x.1 ∧ x.1 ≤ 255) ∧ (0 ≤ x.2.1 ∧ x.2.1 < 4294967296) ∧ (0 ≤ x.2.2 ∧ x.2.2 < 18446744073709551616)) (hlim : limit < 18446744073709551616) (w : World) (hC : KA.C w A l.length l) :
    Calls Try.prog 11 #[.int .u8 (n : Int), .slice A l.length c, .float .f64 limit] w fun r w' => r = .returned (.bool true) ∧ Below w.heap.size w w' := by
  have hu2 := Try.underlying24
  have hu3 := Try.underlying59
  have hS0 := Aside0.mk (Sep.start w)
  have hCA := Aside0.mk hC
  have hxA := Aside0.mk hl
  have hlA := Aside0.mk hlim
  have hmax := Aside0.mk (Kd.C_max hC)
  clear hC hl hlim
  by_cases hbig : 40 < l.length
  · have hd : decide ((l.length : Int) > 40) = true := decide_eq_true (by omega)
    have hd3 : decide (40 < l.length) = true := decide_eq_true hbig
    clear hbig
    go_enter Try.func11, Try.ntmps11
    go_wp2_with (fail)
    refine (lives29 w _ _ hS0.out).mono ?_
    rintro r w1 ⟨rfl, h1⟩
    have hS1 := Aside0.mk h1
    clear h1 hS0
    go_wp2_with (fail)
    refine (lives29 w _ _ hS1.out).mono ?_
    rintro r w2 ⟨rfl, h2⟩
    have hS2 := Aside0.mk h2
    clear h2 hS1
    go_wp2_with (fail)
    go_ret
    exact ⟨rfl, hS2.out.1⟩
  have hd : decide ((l.length : Int) > 40) = false := decide_eq_false (by omega)
  have hd3 : decide (40 < l.length) = false := decide_eq_false hbig
  have hbigA := Aside0.mk hbig
  obtain ⟨s, hs⟩ : ∃ s, 1 + n % 30 = s := ⟨_, rfl⟩
  have q1 : Int.tmod (n : Int) 30 = ((n % 30 : Nat) : Int) := by rw [Int.tmod_eq_emod_of_nonneg (by omega)]; omega
  have q2 : IntKind.u8.wrap ((n % 30 : Nat) : Int) = ((n % 30 : Nat) : Int) := by rw [IntKind.wrap_u8]; omega
  have q3 : IntKind.u32.wrap ((n % 30 : Nat) : Int) = ((n % 30 : Nat) : Int) := by rw [IntKind.wrap_u32]; omega
  have q4 : IntKind.u32.wrap (1 + ((n % 30 : Nat) : Int)) = (s : Int) := by rw [IntKind.wrap_u32]; omega
  have hsb : 1 ≤ s ∧ s ≤ 30 := by omega
  generalize n % 30 = n30 at *
  have hsA := Aside0.mk hsb
  have hmk := run_mk s (by omega)
  clear hbig hs hn hsb
  go_enter Try.func11, Try.ntmps11
  go_wp2_with (fail)
  refine (lives29 w _ _ hS0.out).mono ?_
  rintro r w1 ⟨rfl, h1⟩
  have hS1 := Aside0.mk h1
  clear h1 hS0
  go_wp2_with (fail)
  refine (wear_New w _ 12 s _ hS1.out (by decide) (by decide) hsA.out.1 (by have := hsA.out; omega)).mono ?_
  rintro r w2 ⟨g, b, rfl, h2⟩
  have hSm := Aside0.mk (mk_row h2 s (by have := hsA.out; omega)).put2
  clear h2 hS1
  go_wp2_with (fail)
  clear hmk
  go_loopg [10, 45] l.length (fun kq v10 v45 w' => ∃ (i t m : Nat) (f : Nat → Nat) (AR : Option Addr) (cR : Nat) (xs : List Int), v10 = .slice AR s cR ∧ v45 = .int .i64 (i : Int) ∧ Aside0 (i + kq = l.length) ∧ Aside0 (m ≤ i) ∧ Aside0 (Sep.Sep w w' (gg g 12 s b m t f ++ [urow AR s cR xs])) ∧ Aside0 (Cs f s t) ∧ Aside0 (Rw xs f s))
  case atStart => exact ⟨0, 0, 0, _, _, _, _, rfl, rfl, ⟨by omega⟩, ⟨by omega⟩, hSm, ⟨Cs.zero s⟩, ⟨Rw.zero s⟩⟩
  case round =>
    clear hSm
    obtain ⟨i, t, m, f, AR, cR, xs, rfl, rfl, hA, hm, hS, hJ, hR⟩ := hrel
    by_cases hil : i < l.length
    · obtain ⟨k1, rfl⟩ : ∃ k1, gk = k1 + 1 := ⟨gk - 1, by have := hA.out; omega⟩
      have he : decide ((i : Int) < (l.length : Int)) = true := decide_eq_true (by omega)
      have he2 : decide (i < l.length) = true := decide_eq_true hil
      have hw1 : wrap64 ((i : Int) + 1) = ((i + 1 : Nat) : Int) := w64 (by have := hbigA.out; omega)
      have hA' : Aside0 (i + 1 + k1 = l.length) := ⟨by have := hA.out; omega⟩
      have p0 : ((0 : Int) ≤ (i : Int)) = True := eq_true (by omega)
      have q0 : ((i : Int) < (l.length : Int)) = True := eq_true (by omega)
      obtain ⟨ad, e0, hx0, hx1, hx2⟩ := KA_cells (Kd.C_below hCA.out hS.out.1) i hil
      subst e0
      have hb := hxA.out _ (List.getElem_mem hil)
      obtain ⟨⟨xa, xb, xc⟩, hxx⟩ : ∃ x, l[i] = x := ⟨_, rfl⟩
      rw [hxx] at hx0 hx1 hx2 hb
      obtain ⟨hb1, hb2, hb3⟩ := hb
      dsimp only at hb1 hb2 hb3 hx0 hx1 hx2
      obtain ⟨k, rfl⟩ : ∃ k : Nat, xb = k := ⟨xb.toNat, by have := hb2; omega⟩
      obtain ⟨x, rfl⟩ : ∃ x : Nat, xc = x := ⟨xc.toNat, by have := hb3; omega⟩
      obtain ⟨ka, hka⟩ : ∃ ka : Nat, xa = ka := ⟨xa.toNat, by have := hb1; omega⟩
      have hkb : k < 4294967296 := by have := hb2; omega
      have hkA := Aside0.mk hkb
      have hmA := Aside0.mk (show m < 100 by have := hm.out; have := hA.out; have := hbigA.out; omega)
      have z1 : Int.tmod xa 4 = ((ka % 4 : Nat) : Int) := by rw [hka, Int.tmod_eq_emod_of_nonneg (by omega)]; omega
      have z2 : IntKind.u8.wrap ((ka % 4 : Nat) : Int) = ((ka % 4 : Nat) : Int) := by rw [IntKind.wrap_u8]; omega
      generalize ka % 4 = r4 at *
      clear hxx hb1 hb2 hb3 hkb hil hka
      go_upto_region 11 with (fail)
      have h1 := (hS.out.alloc #[.int .u8 xa, .int .u32 (k : Int), .int .u64 (x : Int)] 59).put2
      obtain ⟨ga, hga⟩ : ∃ ga, wr.heap.size = ga := ⟨_, rfl⟩
      rw [hga] at h1 ⊢
      generalize wr.alloc (.cells #[.int .u8 xa, .int .u32 (k : Int), .int .u64 (x : Int)] 59 (0, 0)) = wa at h1 ⊢
      have hc_0 : wa.cell? ⟨ga, 0, none⟩ = some (.int .u8 xa) := ((h1.pick2).cell 0).trans rfl; have hc_1 : wa.cell? ⟨ga, 1, none⟩ = some (.int .u32 (k : Int)) := ((h1.pick2).cell 1).trans rfl; have hc_2 : wa.cell? ⟨ga, 2, none⟩ = some (.int .u64 (x : Int)) := ((h1.pick2).cell 2).trans rfl
      have hSa := Aside0.mk h1
      clear h1 hga hx0 hx1 hx2 hS
      by_cases hk3 : r4 = 3
      · have z3 : (((r4 : Nat) : Int) == 3) = true := by rw [hk3]; rfl
        clear hk3
        go_wp2_with (fail)
        refine start_ (n := 5) (S := fun w' => w'.cell? ⟨ga, 1, none⟩ = some (.int .u32 (k : Int))) (ds := []) #[false, false, false, false, false] (by kernel_rfl) rfl rfl (hc_1) (fun hHeld => ?_)
        refine pure_ (i := 0) (N := some 53) (v := ?_) (a' := ?_) #[true, false, false, false, false] rfl rfl (by kernel_rfl) (fun _ _ _ h => h) (Or.inl ⟨by rfl, ?_⟩) ?_ ?_
        rotate_left
        · intro w'
          go_simp
          with_reducible rfl
        rotate_left
        · simp only [Act.put, List.setIfInBounds_toArray, List.set_cons_zero, List.set_cons_succ, i64_w, i32_w]
          rfl
        refine pure_ (i := 2) (N := some 55) (v := ?_) (a' := ?_) #[true, false, true, false, false] rfl rfl (by kernel_rfl) (fun _ _ _ h => h) (Or.inl ⟨by rfl, ?_⟩) ?_ ?_
        rotate_left
        · intro w'
          go_simp
          with_reducible rfl
        rotate_left
        · simp only [Act.put, List.setIfInBounds_toArray, List.set_cons_zero, List.set_cons_succ, i64_w, i32_w]
          rfl
        refine take_ (i := 3) (N := some 56) (v := ?_) (a' := ?_) #[true, false, true, true, false] rfl rfl (by kernel_rfl) (fun _ _ _ h => h) (Or.inl ⟨by rfl, ?_⟩) hHeld ?_ ?_
        rotate_left
        · intro w' s0
          go_simp
          with_reducible rfl
        rotate_left
        · simp only [Act.put, List.setIfInBounds_toArray, List.set_cons_zero, List.set_cons_succ, i64_w, i32_w]
          rfl
        refine one_ (i := 1) (N := some 54) #[true, true, true, true, false] rfl rfl (by kernel_rfl) (by decide) (fun K hK => ?_)
        refine goes_ Try.func48 (by kernel_rfl) rfl #[.pointer (some ⟨g, 0, none⟩)] (by rfl) rfl rfl (by (try simp only [List.map_toArray, List.map_cons, List.map_nil]); first | done | rfl) ?_
        refine (wear_Copy w _ g 12 s b m t f _ hSa.out.drew).mono ?_
        rintro r w5 ⟨g2, b2, rfl, h5⟩
        refine ⟨_, rfl, ?_⟩
        have hS5 := Aside0.mk h5
        clear h5
        refine hK.out _ _ (hS5.out.pick4.cell 1) (fun hHeld => ?_)
        clear hK K
        refine norm_ (a' := ?_) ?_ ?_
        rotate_left
        · show Act.put _ (some 54) _ = _
          simp only [Act.put, List.setIfInBounds_toArray, List.set_cons_zero, List.set_cons_succ, i64_w, i32_w]
          rfl
        refine one_ (i := 4) (N := some 57) #[true, true, true, true, true] rfl rfl (by kernel_rfl) (by decide) (fun K hK => ?_)
        refine goes_ Try.func19 (by kernel_rfl) rfl #[.pointer (some ⟨g2, 0, none⟩), .int .u32 (k : Int), .int .u64 1] (by rfl) rfl rfl (by (try simp only [List.map_toArray, List.map_cons, List.map_nil]); first | done | rfl) ?_
        refine (wear_Note w _ g2 12 s b2 m t f _ k 1 hS5.out (by have := hsA.out; omega) hJ.out (by have := hmA.out; omega)).mono ?_
        rintro r w6 ⟨m6, -, rfl, h6⟩
        refine ⟨_, rfl, ?_⟩
        have hS6 := Aside0.mk h6
        clear h6
        refine hK.out _ _ (hS6.out.pick4.cell 1) (fun hHeld => ?_)
        clear hK K
        refine norm_ (a' := ?_) ?_ ?_
        rotate_left
        · show Act.put _ (some 57) _ = _
          simp only [Act.put, List.setIfInBounds_toArray, List.set_cons_zero, List.set_cons_succ, i64_w, i32_w]
          rfl
        refine done_ (by kernel_rfl) ?_
        have hS4 := Aside0.mk (hS6.out.tail.tail)
        clear hS5 hS6 hSa hc_0 hc_1 hc_2
        obtain ⟨ad0, e0, -⟩ := Kd.at_int (urow_C hS4.out.pick3).2 0 (by omega) (by have := hsA.out; omega)
        subst e0
        go_wp2_with (fail)
        go_loopg [76] 32 (fun kq v76 w' => ∃ (j : Nat), v76 = .int .u32 (j : Int) ∧ Aside0 (j + kq = 32) ∧ Aside0 (Sep.Sep w w' (gg g 12 s b m t f ++ [blk ga #[.int .u8 xa, .int .u32 (k : Int), .int .u64 (x : Int)] 59, urow (some ad0) s cR xs])))
        case atStart => exact ⟨0, rfl, ⟨by omega⟩, hS4⟩
        case round =>
          clear hS4
          obtain ⟨j, rfl, hB, hS7⟩ := hrel
          by_cases hj : j < 32
          · obtain ⟨k2, rfl⟩ : ∃ k2, gk = k2 + 1 := ⟨gk - 1, by have := hB.out; omega⟩
            have ej : decide ((j : Int) < 32) = true := decide_eq_true (by omega)
            have ej2 : decide (j < 32) = true := decide_eq_true hj
            have hwj : IntKind.u32.wrap ((j : Int) + 1) = ((j + 1 : Nat) : Int) := by rw [IntKind.wrap_u32]; omega
            have hB' : Aside0 (j + 1 + k2 = 32) := ⟨by have := hB.out; omega⟩
            have hjA := Aside0.mk hj
            by_cases hjs : j < s
            · have es : decide ((j : Int) < (s : Int)) = true := decide_eq_true (by omega)
              have es2 : decide (j < s) = true := decide_eq_true hjs
              obtain ⟨ad1, e1, hx⟩ := Kd.at_int (urow_C hS7.out.pick3).2 (j : Int) (by omega) (by omega)
              cases e1
              rw [hR.out.2 j hjs, Int.toNat_natCast] at hx
              have pj : ((0 : Int) ≤ (j : Int)) = True := eq_true (by omega)
              have qj : ((j : Int) < (s : Int)) = True := eq_true (by omega)
              have hOf := wear_Of w _ g 12 s b m t f _ j hS7.out (by omega)
              have hne : ((f j : Int) != (f j : Int)) = false := by simp
              generalize f j = y at *
              have hOfA := Aside0.mk hOf
              clear hj hjs hOf
              go_wp2_with (fail)
              refine hOfA.out.mono ?_
              rintro r w8 ⟨rfl, hw8⟩
              have hS8 := Aside0.mk (hw8 ▸ hS7.out)
              clear hw8 hS7 hOfA hx
              go_wp2_with (fail)
              go_roundg k2
              case measure => omega
              case rel => exact ⟨j + 1, by first | rw [hwj] | rfl, hB', hS8⟩
            · have es : decide ((j : Int) < (s : Int)) = false := decide_eq_false (by omega)
              have es2 : decide (j < s) = false := decide_eq_false hjs
              have hOf := wear_Of w _ g 12 s b m t f _ j hS7.out (by omega)
              rw [hJ.out.1 j (by omega)] at hOf
              have hOfA := Aside0.mk hOf
              clear hj hjs hOf
              go_wp2_with (fail)
              refine hOfA.out.mono ?_
              rintro r w8 ⟨rfl, hw8⟩
              have hS8 := Aside0.mk (hw8 ▸ hS7.out)
              clear hw8 hS7 hOfA
              go_wp2_with (fail)
              go_roundg k2
              case measure => omega
              case rel => exact ⟨j + 1, by first | rw [hwj] | rfl, hB', hS8⟩
          · have ej : decide ((j : Int) < 32) = false := decide_eq_false (by omega)
            have ej2 : decide (j < 32) = false := decide_eq_false hj
            clear hj
            go_wp2_with (fail)
            refine (wear_Total w _ g 12 s b m t f _ hS7.out).mono ?_
            rintro r w9 ⟨rfl, hz⟩
            have hS9_ := Aside0.mk (hz ▸ hS7.out)
            have hne : ((t : Int) != (t : Int)) = false := by simp
            clear hz hS7
            go_wp2_with (fail)
            refine (ref_Total (some ad0) cR xs f s t _ (urow_C hS9_.out.pick3).2 hR.out (urow_C hS9_.out.pick3).1 (by have := hsA.out; omega) hJ.out).mono ?_
            rintro r w10 ⟨rfl, hz⟩
            have hS10_ := Aside0.mk (hS9_.out.below hz.below)
            clear hz hS9_
            go_wp2_with (fail)
            refine (wear_Least w _ g 12 s b m t f _ hS10_.out hsA.out.1 (by have := hsA.out; omega)).mono ?_
            rintro r w11 ⟨⟨kl, rfl, hL⟩, hz⟩
            have hS11_ := Aside0.mk (hS10_.out.below hz)
            have hLA := Aside0.mk hL
            clear hL
            clear hz hS10_
            go_wp2_with (fail)
            refine (ref_Least (some ad0) cR xs f s _ (urow_C hS11_.out.pick3).2 hR.out (urow_C hS11_.out.pick3).1 hsA.out.1 (by have := hsA.out; omega)).mono ?_
            rintro r w12 ⟨⟨kl2, rfl, hL⟩, hz⟩
            have hS12_ := Aside0.mk (hS11_.out.below hz.below)
            obtain rfl := hLA.out.uniq hL
            have hnk : ((kl : Int) != (kl : Int)) = false := by simp
            clear hL hLA
            clear hz hS11_
            go_wp2_with (fail)
            refine (wear_Mean w _ g 12 s b m t f _ hS12_.out (by have := hJ.out.2.2; omega) (by have := hsA.out; omega)).mono ?_
            rintro r w13 ⟨rfl, hz⟩
            have hS13_ := Aside0.mk (hS12_.out.below hz)
            have hnb := bits_eq (ratiov t s)
            clear hz hS12_
            go_wp2_with (fail)
            refine ((law_bits (ratiov t s)) _).mono ?_
            intro ef_ wf_ hf_
            obtain ⟨h1f_, h2f_⟩ := hf_
            subst h1f_
            subst h2f_
            go_wp2_with (fail)
            refine (ref_Mean (some ad0) cR xs f s t _ (urow_C hS13_.out.pick3).2 hR.out (urow_C hS13_.out.pick3).1 (by have := hsA.out; omega) hJ.out).mono ?_
            rintro r w14 ⟨rfl, hz⟩
            have hS14_ := Aside0.mk (hS13_.out.below hz.below)
            clear hz hS13_
            go_wp2_with (fail)
            refine ((law_bits (ratiov t s)) _).mono ?_
            intro ef_ wf_ hf_
            obtain ⟨h1f_, h2f_⟩ := hf_
            subst h1f_
            subst h2f_
            go_wp2_with (fail)
            refine (wear_Skew w _ g 12 s b m t f _ hS14_.out (fun k _ => by have := hJ.out.le k; have := hJ.out.2.2; omega) hJ.out.2.2 hsA.out.1 (by have := hsA.out; omega)).mono ?_
            rintro r w15 ⟨⟨m2, rfl, hM⟩, hz⟩
            have hS15_ := Aside0.mk (hS14_.out.below hz)
            have hMA := Aside0.mk hM
            have hnb2 := bits_eq (skewv m2 t s)
            clear hM
            clear hz hS14_
            go_wp2_with (fail)
            refine ((law_bits (skewv m2 t s)) _).mono ?_
            intro ef_ wf_ hf_
            obtain ⟨h1f_, h2f_⟩ := hf_
            subst h1f_
            subst h2f_
            go_wp2_with (fail)
            refine (ref_Skew (some ad0) cR xs f s t _ (urow_C hS15_.out.pick3).2 hR.out (urow_C hS15_.out.pick3).1 hsA.out.1 (by have := hsA.out; omega) hJ.out).mono ?_
            rintro r w16 ⟨⟨m3, rfl, hM⟩, hz⟩
            have hS16_ := Aside0.mk (hS15_.out.below hz.below)
            obtain rfl := hMA.out.uniq hM
            clear hM hMA
            clear hz hS15_
            go_wp2_with (fail)
            refine ((law_bits (skewv m2 t s)) _).mono ?_
            intro ef_ wf_ hf_
            obtain ⟨h1f_, h2f_⟩ := hf_
            subst h1f_
            subst h2f_
            go_wp2_with (fail)
            refine (wear_Life w _ g 12 s b m t f _ limit hS16_.out (fun k _ => by have := hJ.out.le k; have := hJ.out.2.2; omega) hlA.out).mono ?_
            rintro r w17 ⟨⟨m4, rfl, hM⟩, hz⟩
            have hS17_ := Aside0.mk (hS16_.out.below hz)
            have hMA := Aside0.mk hM
            have hnb3 := bits_eq (lifev limit m4)
            clear hM
            clear hz hS16_
            go_wp2_with (fail)
            refine ((law_bits (lifev limit m4)) _).mono ?_
            intro ef_ wf_ hf_
            obtain ⟨h1f_, h2f_⟩ := hf_
            subst h1f_
            subst h2f_
            go_wp2_with (fail)
            refine (ref_Life (some ad0) cR xs f s t limit _ (urow_C hS17_.out.pick3).2 hR.out (urow_C hS17_.out.pick3).1 (by have := hsA.out; omega) hJ.out hlA.out).mono ?_
            rintro r w18 ⟨⟨m5, rfl, hM⟩, hz⟩
            have hS18_ := Aside0.mk (hS17_.out.below hz.below)
            obtain rfl := hMA.out.uniq hM
            clear hM hMA
            clear hz hS17_
            go_wp2_with (fail)
            refine ((law_bits (lifev limit m4)) _).mono ?_
            intro ef_ wf_ hf_
            obtain ⟨h1f_, h2f_⟩ := hf_
            subst h1f_
            subst h2f_
            go_wp2_with (fail)
            go_roundg k1
            case measure => omega
            case rel => exact ⟨i + 1, t, m, f, some ad0, cR, xs, rfl, by rw [hw1], hA', ⟨by have := hm.out; omega⟩, ⟨hS18_.out.pick2.tail⟩, hJ, hR⟩
      · have z3 : (((r4 : Nat) : Int) == 3) = false := beq_false_of_ne (by omega)
        clear hk3
        go_wp2_with (fail)
        refine (ref_Note w _ AR cR xs f s t k x _ hSa.out.pick3 hR.out (by have := hsA.out; omega) hJ.out hkA.out).mono ?_
        rintro r w4 ⟨A4, c4, xs4, rfl, hR4_, h4⟩
        have hR4 := Aside0.mk hR4_
        have h4 := h4.put3
        clear hc_0 hc_1 hc_2 hR4_ hSa
        have hc_0 : w4.cell? ⟨ga, 0, none⟩ = some (.int .u8 xa) := ((h4.pick2).cell 0).trans rfl; have hc_1 : w4.cell? ⟨ga, 1, none⟩ = some (.int .u32 (k : Int)) := ((h4.pick2).cell 1).trans rfl; have hc_2 : w4.cell? ⟨ga, 2, none⟩ = some (.int .u64 (x : Int)) := ((h4.pick2).cell 2).trans rfl
        have hSb := Aside0.mk h4
        have hnE : (nE s t k x != nE s t k x) = false := by simp
        clear h4
        go_wp2_with (fail)
        refine (wear_Note w _ g 12 s b m t f _ k x hSb.out (by have := hsA.out; omega) hJ.out (by have := hmA.out; omega)).mono ?_
        rintro r w6 ⟨m6, hm6, rfl, h6⟩
        have hS4 := Aside0.mk h6
        have hm6A := Aside0.mk hm6
        have hJ4 := Aside0.mk (nCs (k := k) (x := x) hJ.out)
        generalize nE s t k x = er at *
        generalize nT s t k x = t4 at *
        generalize nF f s t k x = f4 at *
        clear h6 hm6 hSb hc_0 hc_1 hc_2
        obtain ⟨ad0, e0, -⟩ := Kd.at_int (urow_C hS4.out.pick3).2 0 (by omega) (by have := hsA.out; omega)
        subst e0
        go_wp2_with (fail)
        go_loopg [76] 32 (fun kq v76 w' => ∃ (j : Nat), v76 = .int .u32 (j : Int) ∧ Aside0 (j + kq = 32) ∧ Aside0 (Sep.Sep w w' (gg g 12 s b m6 t4 f4 ++ [blk ga #[.int .u8 xa, .int .u32 (k : Int), .int .u64 (x : Int)] 59, urow (some ad0) s c4 xs4])))
        case atStart => exact ⟨0, rfl, ⟨by omega⟩, hS4⟩
        case round =>
          clear hS4
          obtain ⟨j, rfl, hB, hS7⟩ := hrel
          by_cases hj : j < 32
          · obtain ⟨k2, rfl⟩ : ∃ k2, gk = k2 + 1 := ⟨gk - 1, by have := hB.out; omega⟩
            have ej : decide ((j : Int) < 32) = true := decide_eq_true (by omega)
            have ej2 : decide (j < 32) = true := decide_eq_true hj
            have hwj : IntKind.u32.wrap ((j : Int) + 1) = ((j + 1 : Nat) : Int) := by rw [IntKind.wrap_u32]; omega
            have hB' : Aside0 (j + 1 + k2 = 32) := ⟨by have := hB.out; omega⟩
            have hjA := Aside0.mk hj
            by_cases hjs : j < s
            · have es : decide ((j : Int) < (s : Int)) = true := decide_eq_true (by omega)
              have es2 : decide (j < s) = true := decide_eq_true hjs
              obtain ⟨ad1, e1, hx⟩ := Kd.at_int (urow_C hS7.out.pick3).2 (j : Int) (by omega) (by omega)
              cases e1
              rw [hR4.out.2 j hjs, Int.toNat_natCast] at hx
              have pj : ((0 : Int) ≤ (j : Int)) = True := eq_true (by omega)
              have qj : ((j : Int) < (s : Int)) = True := eq_true (by omega)
              have hOf := wear_Of w _ g 12 s b m6 t4 f4 _ j hS7.out (by omega)
              have hne : ((f4 j : Int) != (f4 j : Int)) = false := by simp
              generalize f4 j = y at *
              have hOfA := Aside0.mk hOf
              clear hj hjs hOf
              go_wp2_with (fail)
              refine hOfA.out.mono ?_
              rintro r w8 ⟨rfl, hw8⟩
              have hS8 := Aside0.mk (hw8 ▸ hS7.out)
              clear hw8 hS7 hOfA hx
              go_wp2_with (fail)
              go_roundg k2
              case measure => omega
              case rel => exact ⟨j + 1, by first | rw [hwj] | rfl, hB', hS8⟩
            · have es : decide ((j : Int) < (s : Int)) = false := decide_eq_false (by omega)
              have es2 : decide (j < s) = false := decide_eq_false hjs
              have hOf := wear_Of w _ g 12 s b m6 t4 f4 _ j hS7.out (by omega)
              rw [hJ4.out.1 j (by omega)] at hOf
              have hOfA := Aside0.mk hOf
              clear hj hjs hOf
              go_wp2_with (fail)
              refine hOfA.out.mono ?_
              rintro r w8 ⟨rfl, hw8⟩
              have hS8 := Aside0.mk (hw8 ▸ hS7.out)
              clear hw8 hS7 hOfA
              go_wp2_with (fail)
              go_roundg k2
              case measure => omega
              case rel => exact ⟨j + 1, by first | rw [hwj] | rfl, hB', hS8⟩
          · have ej : decide ((j : Int) < 32) = false := decide_eq_false (by omega)
            have ej2 : decide (j < 32) = false := decide_eq_false hj
            clear hj
            go_wp2_with (fail)
            refine (wear_Total w _ g 12 s b m6 t4 f4 _ hS7.out).mono ?_
            rintro r w9 ⟨rfl, hz⟩
            have hS9_ := Aside0.mk (hz ▸ hS7.out)
            have hne : ((t4 : Int) != (t4 : Int)) = false := by simp
            clear hz hS7
            go_wp2_with (fail)
            refine (ref_Total (some ad0) c4 xs4 f4 s t4 _ (urow_C hS9_.out.pick3).2 hR4.out (urow_C hS9_.out.pick3).1 (by have := hsA.out; omega) hJ4.out).mono ?_
            rintro r w10 ⟨rfl, hz⟩
            have hS10_ := Aside0.mk (hS9_.out.below hz.below)
            clear hz hS9_
            go_wp2_with (fail)
            refine (wear_Least w _ g 12 s b m6 t4 f4 _ hS10_.out hsA.out.1 (by have := hsA.out; omega)).mono ?_
            rintro r w11 ⟨⟨kl, rfl, hL⟩, hz⟩
            have hS11_ := Aside0.mk (hS10_.out.below hz)
            have hLA := Aside0.mk hL
            clear hL
            clear hz hS10_
            go_wp2_with (fail)
            refine (ref_Least (some ad0) c4 xs4 f4 s _ (urow_C hS11_.out.pick3).2 hR4.out (urow_C hS11_.out.pick3).1 hsA.out.1 (by have := hsA.out; omega)).mono ?_
            rintro r w12 ⟨⟨kl2, rfl, hL⟩, hz⟩
            have hS12_ := Aside0.mk (hS11_.out.below hz.below)
            obtain rfl := hLA.out.uniq hL
            have hnk : ((kl : Int) != (kl : Int)) = false := by simp
            clear hL hLA
            clear hz hS11_
            go_wp2_with (fail)
            refine (wear_Mean w _ g 12 s b m6 t4 f4 _ hS12_.out (by have := hJ4.out.2.2; omega) (by have := hsA.out; omega)).mono ?_
            rintro r w13 ⟨rfl, hz⟩
            have hS13_ := Aside0.mk (hS12_.out.below hz)
            have hnb := bits_eq (ratiov t4 s)
            clear hz hS12_
            go_wp2_with (fail)
            refine ((law_bits (ratiov t4 s)) _).mono ?_
            intro ef_ wf_ hf_
            obtain ⟨h1f_, h2f_⟩ := hf_
            subst h1f_
            subst h2f_
            go_wp2_with (fail)
            refine (ref_Mean (some ad0) c4 xs4 f4 s t4 _ (urow_C hS13_.out.pick3).2 hR4.out (urow_C hS13_.out.pick3).1 (by have := hsA.out; omega) hJ4.out).mono ?_
            rintro r w14 ⟨rfl, hz⟩
            have hS14_ := Aside0.mk (hS13_.out.below hz.below)
            clear hz hS13_
            go_wp2_with (fail)
            refine ((law_bits (ratiov t4 s)) _).mono ?_
            intro ef_ wf_ hf_
            obtain ⟨h1f_, h2f_⟩ := hf_
            subst h1f_
            subst h2f_
            go_wp2_with (fail)
            refine (wear_Skew w _ g 12 s b m6 t4 f4 _ hS14_.out (fun k _ => by have := hJ4.out.le k; have := hJ4.out.2.2; omega) hJ4.out.2.2 hsA.out.1 (by have := hsA.out; omega)).mono ?_
            rintro r w15 ⟨⟨m2, rfl, hM⟩, hz⟩
            have hS15_ := Aside0.mk (hS14_.out.below hz)
            have hMA := Aside0.mk hM
            have hnb2 := bits_eq (skewv m2 t4 s)
            clear hM
            clear hz hS14_
            go_wp2_with (fail)
            refine ((law_bits (skewv m2 t4 s)) _).mono ?_
            intro ef_ wf_ hf_
            obtain ⟨h1f_, h2f_⟩ := hf_
            subst h1f_
            subst h2f_
            go_wp2_with (fail)
            refine (ref_Skew (some ad0) c4 xs4 f4 s t4 _ (urow_C hS15_.out.pick3).2 hR4.out (urow_C hS15_.out.pick3).1 hsA.out.1 (by have := hsA.out; omega) hJ4.out).mono ?_
            rintro r w16 ⟨⟨m3, rfl, hM⟩, hz⟩
            have hS16_ := Aside0.mk (hS15_.out.below hz.below)
            obtain rfl := hMA.out.uniq hM
            clear hM hMA
            clear hz hS15_
            go_wp2_with (fail)
            refine ((law_bits (skewv m2 t4 s)) _).mono ?_
            intro ef_ wf_ hf_
            obtain ⟨h1f_, h2f_⟩ := hf_
            subst h1f_
            subst h2f_
            go_wp2_with (fail)
            refine (wear_Life w _ g 12 s b m6 t4 f4 _ limit hS16_.out (fun k _ => by have := hJ4.out.le k; have := hJ4.out.2.2; omega) hlA.out).mono ?_
            rintro r w17 ⟨⟨m4, rfl, hM⟩, hz⟩
            have hS17_ := Aside0.mk (hS16_.out.below hz)
            have hMA := Aside0.mk hM
            have hnb3 := bits_eq (lifev limit m4)
            clear hM
            clear hz hS16_
            go_wp2_with (fail)
            refine ((law_bits (lifev limit m4)) _).mono ?_
            intro ef_ wf_ hf_
            obtain ⟨h1f_, h2f_⟩ := hf_
            subst h1f_
            subst h2f_
            go_wp2_with (fail)
            refine (ref_Life (some ad0) c4 xs4 f4 s t4 limit _ (urow_C hS17_.out.pick3).2 hR4.out (urow_C hS17_.out.pick3).1 (by have := hsA.out; omega) hJ4.out hlA.out).mono ?_
            rintro r w18 ⟨⟨m5, rfl, hM⟩, hz⟩
            have hS18_ := Aside0.mk (hS17_.out.below hz.below)
            obtain rfl := hMA.out.uniq hM
            clear hM hMA
            clear hz hS17_
            go_wp2_with (fail)
            refine ((law_bits (lifev limit m4)) _).mono ?_
            intro ef_ wf_ hf_
            obtain ⟨h1f_, h2f_⟩ := hf_
            subst h1f_
            subst h2f_
            go_wp2_with (fail)
            go_roundg k1
            case measure => omega
            case rel => exact ⟨i + 1, t4, m6, f4, some ad0, c4, xs4, rfl, by rw [hw1], hA', ⟨by have := hm.out; have := hm6A.out; omega⟩, ⟨hS18_.out.pick2.tail⟩, hJ4, hR4⟩
    · have he : decide ((i : Int) < (l.length : Int)) = false := decide_eq_false (by omega)
      have he2 : decide (i < l.length) = false := decide_eq_false hil
      clear hil
      go_wp2_with (fail)
      go_ret
      exact ⟨rfl, hS.out.1⟩
end Go.Proofs.Ytlakjninlpiedaa.Fw
