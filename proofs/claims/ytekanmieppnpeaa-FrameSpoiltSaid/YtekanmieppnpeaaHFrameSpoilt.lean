/- fasciclelaw09.FrameSpoilt, walked. -/
import Derived.Test.YtekanmieppnpeaaHLives09
import Derived.Test.YtekanmieppnpeaaLFrame
import Derived.Test.YtekanmieppnpeaaHRowBlk
set_option linter.unusedVariables false
set_option linter.unusedSimpArgs false
namespace Go.Proofs.Ytekanmieppnpeaa.G
open Go Go.RowKit Go.Proofs.YtekanmieppnpeaaW.PrintWords Go.Proofs.YtekanmieppnpeaaW.PrintLast Go.Proofs.YtekanmieppnpeaaW.PrintMore Go.Proofs.Ytekanmieppnpeaa.PureKit Go.Proofs.Ytekanmieppnpeaa.Sep Go.Proofs.Ytekanmieppnpeaa.Rol Go.Proofs.Ytekanmieppnpeaa.LCobs

theorem stf_ge : ∀ (l now : List Int), now.length < 254 → now.length + l.length + 1 ≤ (stf l now).length
  | [], now, h => by simp [stf]
  | x :: xs, now, h => by
    unfold stf
    by_cases hx : x = 0
    · rw [if_pos hx]
      have := stf_ge xs [] (by simp)
      simp only [List.length_cons, List.length_append, List.length_nil] at *
      omega
    · rw [if_neg hx]
      by_cases hn : now.length + 1 = 254
      · rw [if_pos hn]
        by_cases he : xs = []
        · subst he; simp
        · rw [if_neg he]
          have := stf_ge xs [] (by simp)
          simp only [List.length_cons, List.length_append, List.length_nil] at *
          omega
      · rw [if_neg hn]
        have := stf_ge xs (now ++ [x]) (by simp; omega)
        simp only [List.length_cons, List.length_append, List.length_nil] at *
        omega
theorem sealed_ge (l : List Int) : 9 ≤ (sealed l).length := by
  have := stf_ge (summed l) [] (by simp)
  rw [summed_len] at this
  unfold sealed
  simp at this
  omega
theorem rem_facts (at_ n : Nat) (hn : 9 ≤ n) (hn1 : n ≤ 700) (hat : at_ ≤ 65535) : ∃ i : Nat, i < n ∧ Int.tmod (at_ : Int) (n : Int) = (i : Int) ∧ (at_ : Int) % (n : Int) = (i : Int) ∧ wrap64 (at_ : Int) = (at_ : Int) ∧ ((n : Int) = 0) = False ∧ (n = 0) = False ∧ ((0 : Int) ≤ (i : Int)) = True ∧ ((i : Int) < (n : Int)) = True ∧ (i < n) = True ∧ decide ((n : Int) < 9) = false :=
  have h := Nat.mod_lt at_ (show n > 0 by omega)
  ⟨at_ % n, h, by rw [Int.tmod_eq_emod_of_nonneg (by omega)]; rfl, rfl, w64 (by omega) (by omega), eq_false (by omega), eq_false (by omega), eq_true (Int.natCast_nonneg _), eq_true (Int.ofNat_lt.2 h), eq_true h, decide_eq_false (by omega)⟩
attribute [local go_sem] max2_int min2_int max_two min_two
def fasciclelaw09_FrameSpoilt.f (l0 : List Int) (a1 a2 : Int) : Option Bool := if wbytesOK l0 = true ∧ 0 ≤ a1 ∧ a1 ≤ 65535 ∧ 0 ≤ a2 ∧ a2 ≤ 255 then some true else none
def fasciclelaw09_FrameSpoilt.Pure : Prop := ∀ (l0 : List Int) (a1 : Int) (a2 : Int), l0.length ≤ maxLen → l0.length * 1 ≤ 140737488351232 → (∀ y ∈ l0, ((Lit.int .u8 y).wf = true)) → (Lit.int .u16 a1).wf = true → (Lit.int .u8 a2).wf = true → fasciclelaw09_FrameSpoilt.f l0 a1 a2 = some true

set_option maxHeartbeats 8000000 in
set_option maxRecDepth 100000 in
theorem frame_spoilt (w : World) (A : Option Addr) (c : Nat) (l : List Int) (at_ tb : Nat) (hC : Kd.C (Kd.int .u8) w A l.length l) (hc : l.length ≤ c) (hb : Bytes l) (hat : at_ ≤ 65535) (hto : tb ≤ 255) :
    Calls Try.prog 6 #[.slice A l.length c, .int .u16 (at_ : Int), .int .u8 (tb : Int)] w fun e w' => e = .returned (.bool true) ∧ Below w.heap.size w w' := by
  have hCA := Aside0.mk hC
  have hcA := Aside0.mk hc
  have hmax := Aside0.mk (Kd.C_max hC)
  clear hC hc
  go_enter Try.func6, Try.ntmps6
  by_cases hl : 600 < l.length
  · have hd : decide ((l.length : Int) > 600) = true := decide_eq_true (by omega)
    go_wp2_with (fail)
    refine (fasciclelaw09_lives.calls true _ lives09).mono ?_
    rintro e w1 ⟨rfl, hb1⟩
    have hB1 := Aside0.mk hb1
    clear hb1
    go_wp2_with (fail)
    refine (fasciclelaw09_lives.calls true _ lives09).mono ?_
    rintro e w2 ⟨rfl, hb2⟩
    have hB2 := Aside0.mk (below_step hB1.out hb2)
    clear hb2
    go_wp2_with (fail)
    go_ret
    exact ⟨rfl, hB2.out⟩
  · have hd : decide ((l.length : Int) > 600) = false := decide_eq_false (by omega)
    have hlA : Aside0 (l.length ≤ 600) := ⟨by omega⟩
    clear hl
    go_wp2_with (fail)
    refine (fasciclelaw09_lives.calls true _ lives09).mono ?_
    rintro e w1 ⟨rfl, hb1⟩
    have hS1 := Aside0.mk ((Sep.start w).below hb1)
    clear hb1
    go_wp2_with (fail)
    refine (frame_seal w1 A c l.length l rfl (Kd.C_below hCA.out hS1.out.1) hcA.out hb (by have := hlA.out; omega)).mono ?_
    rintro e w2 ⟨v2, rfl, ho2, hb2⟩
    have hS2 := Aside0.mk (Sep.row_new hS1.out hb2 ho2)
    obtain ⟨A2, c2, rfl⟩ := Kd.R_slice ho2
    have hr2 := Aside0.mk (Kd.R_reads' ho2)
    clear ho2 hb2
    obtain ⟨n, hn⟩ : ∃ n, (sealed l).length = n := ⟨_, rfl⟩
    have hfl : (sealed l ++ [0]).length = n + 1 := by rw [List.length_append, hn]; rfl
    have hn9 : 9 ≤ n := by rw [← hn]; exact sealed_ge l
    have hn1 : n ≤ 700 := by have := sealed_len l; have := hlA.out; omega
    rw [hfl] at hr2 hS2 ⊢
    obtain ⟨i0, hi0, _, hsz, _⟩ := info_parts finfo8
    have hcutT := cut_to (P := Try.prog) 39 5 .i64 Try.underlying39 hi0 A2 (n + 1) c2 (n : Int) (by omega) (by omega) (by have := hr2.out.2.1; omega)
    rw [Int.toNat_natCast] at hcutT
    have hCn := Kd.C_take (m := n) (show Kd.C (Kd.int .u8) w2 A2 (sealed l ++ [0]).length (sealed l ++ [0]) by rw [hfl]; exact hr2.out.2.2) (by omega)
    have hts : (sealed l ++ [0]).take n = sealed l := by rw [← hn]; exact List.take_left
    rw [hts, hn] at hCn
    have hCn := Aside0.mk hCn
    have hw1 : wrap64 (((n + 1 : Nat) : Int) - 1) = (n : Int) := by rw [w64 (by omega) (by omega)]; omega
    have hw2 : ((n + 1 : Nat) : Int) - 1 = (n : Int) := by omega
    have hw3 : wrap64 (n : Int) = (n : Int) := w64 (by omega) (by omega)
    have hm6 : (0 < n) = True := eq_true (by omega)
    have hm7 : (n ≤ c2) = True := eq_true (by have := hr2.out.2.1; omega)
    have hm3 : max (0 : Int) (n : Int) = (n : Int) := by omega
    have hm4 : ((n : Int) ≤ 0) = False := eq_false (by omega)
    have hm5 : ((0 : Int) ≤ (n : Int)) = True := eq_true (by omega)
    have hm0 : decide ((0 : Int) < (n : Int)) = true := decide_eq_true (by omega)
    have hm1 : ((0 : Int) < (n : Int)) = True := eq_true (by omega)
    have hm2 : ((n : Int) < 0) = False := eq_false (by omega)
    obtain ⟨i, hin, hRF⟩ := rem_facts at_ n hn9 hn1 hat
    have hinA := Aside0.mk hin
    have hRFA := Aside0.mk hRF
    have hatA := Aside0.mk hat
    have htoA := Aside0.mk hto
    have hd9 : decide ((n : Int) < 9) = false := decide_eq_false (by omega)
    have hnA := Aside0.mk hn
    have hn9A := Aside0.mk hn9
    have hn1A := Aside0.mk hn1
    clear hfl hn hn9 hn1 hsz hin hRF hat hto
    go_upto_region 7 with (first | ((with_reducible refine gate_dst (N := 23) rfl ?_); refine Kd.R_lit (Kd.int .u8) _ 5 ?hg (N := 23) ?hd (xs := ([] : List Int)) (inner := []) (ok := fun _ => True) (okp := fun _ => True) ?hr ?hp (fun _ hk => hk) trivial (Below.refl _ _) (Nat.le_refl _) (by simp) ?_; (case hd => rfl); (case hg => rfl); (case hr => first | (go_simp; done) | (go_simp; rfl)); (case hp => exact (Reps.none _ _)); intro v23 w4 ho4 hb4 hg_ hnew_; clear hg_ hnew_; have ho4 := Aside0.mk ho4; have hb4 := Aside0.mk hb4) | ((with_reducible refine gate_builtin (b := .append) (xs := #[.tmp 23, .tmp 29]) rfl ?_); at_builtin; refine Kd.R_append_rows (Kd.int .u8) (w0 := w2) w2.heap.size rfl (.tmp 23) (.tmp 29) 39 5 (.int .u8 0) 1 rfl Try.underlying39 finfo8 rfl (by decide) (by omega) v23 [] (sealed l) _ _ _ (fun _ => True) (fun _ => False) rfl rfl ?aO ?aR (fun _ _ h => h) (fun _ h => h.elim) ?aF ?aB ?aS ?aL ?_; (case aO => exact ho4.out); (case aR => exact Kd.C_below hCn.out hb4.out); (case aF => exact (fun _ _ => trivial)); (case aB => exact hb4.out); (case aS => exact hb4.out.size); (case aL => have := hnA.out; have := hn1A.out; simp; omega); intro v5 w5 ho5 hb5 hg5 hat5; rw [List.nil_append] at ho5; obtain ⟨g, cap, cur, e5, hcap, hS5r, hcur⟩ := row_blk (Sep.row_new hS2.out hb5 ho5) (fun h0 => by have h1 := hnA.out; rw [h0, List.length_nil] at h1; have h2 := hn9A.out; omega); rw [hnA.out] at e5 hcap; subst e5; have hS5 := Aside0.mk hS5r; have hcurA := Aside0.mk hcur; have hcapA := Aside0.mk hcap; clear ho5 hb5 hg5 hat5 hS5r hcur hcap))
    clear hw1 hw2 hw3 hm0 hm1 hm2 hm3 hm4 hm5 hm6 hm7 hcutT hd9
    obtain ⟨L, hL⟩ : ∃ L, sealed l = L := ⟨_, rfl⟩
    rw [hL] at hcurA hnA
    have hLb : Bytes L := by rw [← hL]; exact sealed_bytes l hb
    obtain ⟨x, hx⟩ : ∃ x, L[i]? = some x := ⟨_, List.getElem?_eq_getElem (by rw [hnA.out]; exact hinA.out)⟩
    have hc1 : w5.cell? ⟨g, i, none⟩ = some (.int .u8 x) := (hS5.out.cell i).trans (hcurA.out i x hx)
    have hz1 : w5.frozen? ⟨g, i, none⟩ = false := hS5.out.frozen i
    have hS6 := Aside0.mk (hS5.out.set i (.int .u8 (tb : Int)))
    have hcur6 : ∀ (j : Nat) (y : Int), (L.set i (tb : Int))[j]? = some y → (cur.setIfInBounds i (.int .u8 (tb : Int)))[j]? = some (.int .u8 y) := fun j y hj => by
      have hci := hcurA.out i x hx
      have hil := (Array.getElem?_eq_some_iff.1 hci).1
      rw [List.getElem?_set] at hj
      rw [Array.getElem?_setIfInBounds]
      by_cases hij : i = j
      · subst hij
        rw [if_pos rfl, if_pos (by rw [hnA.out]; exact hinA.out)] at hj
        cases hj
        rw [if_pos rfl, if_pos hil]
      · rw [if_neg hij] at hj ⊢
        exact hcurA.out j y hj
    have hlen6 : (L.set i (tb : Int)).length = n := by rw [List.length_set]; exact hnA.out
    have hb6 : Bytes (L.set i (tb : Int)) := fun y hy => by
      rcases List.mem_or_eq_of_mem_set hy with h | rfl
      · exact hLb y h
      · have := htoA.out; omega
    have hC6 := Aside0.mk (blk_row (L.set i (tb : Int)) hS6.out hcur6 (by rw [hlen6]; have := hn1A.out; omega))
    have hop := frame_open (w5.setCell ⟨g, i, none⟩ (.int .u8 (tb : Int))) (some ⟨g, 0, none⟩) cap n (L.set i (tb : Int)) hlen6.symm hC6.out (by rw [hlen6]; exact hcapA.out) hb6 (by rw [hlen6]; have := hn1A.out; omega)
    have hset : (x = (tb : Int)) → L.set i (tb : Int) = L := fun h => by
      rw [← h]
      refine List.ext_getElem? (fun j => ?_)
      rw [List.getElem?_set]
      split
      · rename_i hij; subst hij; rw [if_pos (by rw [hnA.out]; exact hinA.out), hx]
      · rfl
    have hset2 : (L.set i (tb : Int) = L) → x = (tb : Int) := fun h => by
      have h2 : (L.set i (tb : Int))[i]? = L[i]? := by rw [h]
      rw [List.getElem?_set_self (by rw [hnA.out]; exact hinA.out), hx] at h2
      exact (Option.some.inj h2).symm
    have hbk := sealed_opnb (L.set i (tb : Int)) hb6
    have hb7 := (opnb_facts (L.set i (tb : Int)) hb6).1
    have hLA := Aside0.mk hL
    clear hcur6 hlen6
    obtain ⟨fr, fr2, fa, fn0, fn1, fi1, fi2, fi3, hd9⟩ := hRFA.out
    go_wp2_with (fail)
    refine hop.mono ?_
    clear hop
    rintro e w7 ⟨A7, c7, rfl, hC7, hc7, hB7⟩
    have hS7 := Aside0.mk (hS6.out.below hB7)
    have hcvb := Kd.C_string (P := Try.prog) (A := A) (c := c) Try.underlying39 Try.underlying5 Try.underlying9 (Kd.C_below hCA.out hS7.out.1)
    have hcv7 := Kd.C_string (P := Try.prog) (A := A7) (c := c7) Try.underlying39 Try.underlying5 Try.underlying9 hC7
    clear hc1 hz1 hB7 hC7
    by_cases hxt : x = (tb : Int)
    · have hxd : (x == (tb : Int)) = true := by rw [hxt]; exact beq_self_eq_true _
      have hxd2 : decide (x = (tb : Int)) = true := decide_eq_true hxt
      rw [hset hxt, ← hLA.out, opnb_sealed] at hcv7 ⊢
      dsimp only at hcv7 ⊢
      go_wp2_with (fail)
      go_ret
      exact ⟨by first | rfl | simp, hS7.out.1⟩
    · have hxd : (x == (tb : Int)) = false := beq_eq_false_iff_ne.2 hxt
      have hxd2 : decide (x = (tb : Int)) = false := decide_eq_false hxt
      generalize opnb (L.set i (tb : Int)) = q at *
      obtain ⟨b7, e7⟩ := q
      dsimp only at hcv7 hbk hb7 ⊢
      by_cases he : e7 = 0
      · subst he
        have hbl : b7 ≠ l := fun h => hxt (hset2 (by rw [← hbk rfl, h, hLA.out]))
        have hs4 : strOfNums b7 ≠ strOfNums l := fun h => hbl (nums_inj hb7 hb h)
        have hs2 : ((strOfNums b7).toList == (strOfNums l).toList) = false := by rw [nums_beq hb7 hb]; exact decide_eq_false hbl
        have hs3 : decide (strOfNums b7 = strOfNums l) = false := decide_eq_false hs4
        have hs5 : ((strOfNums b7).toList = (strOfNums l).toList) = False := eq_false (fun h => hbl ((nums_eq hb7 hb).1 h))
        have hs6 : ((strOfNums b7).toList != (strOfNums l).toList) = true := by rw [bne, hs2]; rfl
        clear hbl
        go_wp2_with (fail)
        go_ret
        exact ⟨by first | rfl | simp [hs5] | simp, hS7.out.1⟩
      · have hed : (e7 != 0) = true := bne_iff_ne.2 he
        go_wp2_with (fail)
        go_ret
        exact ⟨by first | rfl | simp, hS7.out.1⟩

theorem fasciclelaw09_FrameSpoilt.calls (A0 : Option Addr) (c0 : Nat) (l0 : List Int) (a1 a2 : Int) (r : Bool) (w : World) (hr0 : Kd.C (Kd.int .u8) w A0 l0.length l0) (hc0 : l0.length ≤ c0) (h : fasciclelaw09_FrameSpoilt.f l0 a1 a2 = some r) :
    Calls Try.prog 6 #[.slice A0 l0.length c0, .int .u16 a1, .int .u8 a2] w fun e w' => e = .returned (.bool r) ∧ Below w.heap.size w w' := by
  unfold fasciclelaw09_FrameSpoilt.f at h
  split at h
  · rename_i hh
    cases h
    obtain ⟨h1, h2, h3, h4, h5⟩ := hh
    obtain ⟨x, rfl⟩ := Int.eq_ofNat_of_zero_le h2
    obtain ⟨y, rfl⟩ := Int.eq_ofNat_of_zero_le h4
    exact frame_spoilt w A0 c0 l0 x y hr0 hc0 ((wbytesOK_iff l0).1 h1) (by omega) (by omega)
  · cases h

end Go.Proofs.Ytekanmieppnpeaa.G
