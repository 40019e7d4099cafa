/- fasciclelaw14.PackGreedy, walked. -/
import Derived.Test.YtnmdckgaljldhaaHLives14
import Derived.Test.YtnmdckgaljldhaaLPackHead
import Derived.Test.YtnmdckgaljldhaaGx8
set_option linter.unusedVariables false
set_option linter.unusedSimpArgs false
namespace Go.Proofs.Ytnmdckgaljldhaa.G
open Go Go.RowKit Go.Proofs.YtnmdckgaljldhaaW.PrintWords Go.Proofs.YtnmdckgaljldhaaW.PrintLast Go.Proofs.YtnmdckgaljldhaaW.PrintMore Go.Proofs.Ytnmdckgaljldhaa.PureKit Go.Proofs.Ytnmdckgaljldhaa.Sep Go.Proofs.Ytnmdckgaljldhaa.Rol Go.Proofs.Ytnmdckgaljldhaa.LCobs Go.Proofs.Ytnmdckgaljldhaa.LPack
open Go.Proofs.Ytnmdckgaljldhaa.LConfig (Pair pair_of size_ok size_no may_ok may_no pair_S)

def i64sOK (l : List Int) : Bool := l.all fun x => decide (-9223372036854775808 ≤ x ∧ x ≤ 9223372036854775807)
theorem i64sOK_iff (l : List Int) : i64sOK l = true ↔ ∀ x ∈ l, -9223372036854775808 ≤ x ∧ x ≤ 9223372036854775807 := by
  unfold i64sOK
  rw [List.all_eq_true]
  exact ⟨fun h x hx => of_decide_eq_true (h x hx), fun h x hx => decide_eq_true (h x hx)⟩
def fasciclelaw14_PackGreedy.f (a0_0 a0_1 : Int) (l1 : List Int) : Option Bool := if 0 ≤ a0_0 ∧ a0_0 ≤ 255 ∧ 0 ≤ a0_1 ∧ a0_1 < 4294967296 ∧ i64sOK l1 = true then some true else none
def fasciclelaw14_PackGreedy.Pure : Prop := ∀ (a0_0 : Int) (a0_1 : Int) (l1 : List Int), (Lit.int .u8 a0_0).wf = true → (Lit.int .u32 a0_1).wf = true → l1.length ≤ maxLen → l1.length * 8 ≤ 140737488351232 → (∀ y ∈ l1, ((Lit.int .i64 y).wf = true)) → fasciclelaw14_PackGreedy.f a0_0 a0_1 l1 = some true
theorem large_ok {e S : Int} {s : Nat} (h : Cfg e s S) (x : Int) : pack_TooLarge.f e (s : Int) x = some (!fitsb S (HL s (s - 1)) 0 x) := by
  have hs1 := h.s1
  have hs2 := h.s2
  have hHL := HL_small (s := s) (n := s - 1) (by omega) (by omega)
  have h2 := empty_ok h (s - 1) (by omega)
  unfold pack_TooLarge.f
  rw [show ((s : Int) - 1) % 4294967296 = ((s - 1 : Nat) : Int) by omega, h2, Option.bind_some, if_pos rfl]
  dsimp only
  rw [fits_ok h _ _ 0 x (by omega) (by omega) (by omega) (by omega), Option.bind_some]
theorem planm_prefix (S : Int) (s : Nat) : ∀ (xs : List Int) (n : Nat) (u c : Int) (out R : List Int), planm S s xs n u c out = (R, 0) → out <+: R ∧ R.length = out.length + xs.length
  | [], n, u, c, out, R, h => by
    cases h
    exact ⟨List.prefix_refl _, by simp⟩
  | x :: xs, n, u, c, out, R, h => by
    unfold planm at h
    split at h
    · split at h
      · obtain ⟨h1, h2⟩ := planm_prefix S s xs _ _ _ _ _ h
        exact ⟨(List.prefix_append _ _).trans h1, by rw [h2]; simp; omega⟩
      · split at h
        · obtain ⟨h1, h2⟩ := planm_prefix S s xs _ _ _ _ _ h
          exact ⟨(List.prefix_append _ _).trans h1, by rw [h2]; simp; omega⟩
        · cases h
    · cases h
theorem planm_err (S : Int) (s : Nat) : ∀ (xs : List Int) (n : Nat) (u c : Int) (out : List Int), (planm S s xs n u c out).2 ≠ 0 → (planm S s xs n u c out).1 = [] ∧ (planm S s xs n u c out).2 ≠ 1
  | [], n, u, c, out, h => absurd rfl h
  | x :: xs, n, u, c, out, h => by
    unfold planm at h ⊢
    split
    · rename_i h1
      rw [if_pos h1] at h
      split
      · rename_i h2
        rw [if_pos h2] at h
        exact planm_err S s xs _ _ _ _ h
      · rename_i h2
        rw [if_neg h2] at h
        split
        · rename_i h3
          rw [if_pos h3] at h
          exact planm_err S s xs _ _ _ _ h
        · exact ⟨rfl, by decide⟩
    · exact ⟨rfl, by decide⟩
/-- One step of a plan that ends well. -/
theorem planm_step {S : Int} {s : Nat} {x : Int} {xs : List Int} {n : Nat} {u c : Int} {out R : List Int} (h : planm S s (x :: xs) n u c out = (R, 0)) :
    fitsb S (HL s (s - 1)) 0 x = true ∧ ((fitsb S u c x = true ∧ planm S s xs n (u + x) (c + 1) (out ++ [(n : Int)]) = (R, 0)) ∨ (fitsb S u c x = false ∧ n + 1 < s ∧ planm S s xs (n + 1) (HL s (n + 1) + x) 1 (out ++ [((n + 1 : Nat) : Int)]) = (R, 0))) := by
  unfold planm at h
  cases h1 : fitsb S (HL s (s - 1)) 0 x with
  | false => rw [h1, if_neg (by decide)] at h; cases h
  | true =>
    rw [h1, if_pos rfl] at h
    refine ⟨rfl, ?_⟩
    cases h2 : fitsb S u c x with
    | true => rw [h2, if_pos rfl] at h; exact .inl ⟨rfl, h⟩
    | false =>
      rw [h2, if_neg (by decide)] at h
      split at h
      · rename_i h3; exact .inr ⟨rfl, h3, h⟩
      · cases h
theorem take_of_prefix {R out : List Int} {y : Int} {i : Nat} (h : out ++ [y] <+: R) (hi : out.length = i) : R.take (i + 1) = out ++ [y] ∧ ∃ h : i < R.length, R[i] = y := by
  obtain ⟨t, rfl⟩ := h
  subst hi
  refine ⟨?_, by simp, ?_⟩
  · exact List.take_left' (by simp)
  · simp

set_option maxHeartbeats 8000000 in
set_option maxRecDepth 100000 in
theorem pack_greedy (w : World) (A : Option Addr) (cp : Nat) (e : Int) (s : Nat) (l : List Int) (hC : Kd.C (Kd.int .i64) w A l.length l) (hc : l.length ≤ cp) (he0 : 0 ≤ e) (he1 : e ≤ 255) (hs : s < 4294967296) (hx : ∀ x ∈ l, -9223372036854775808 ≤ x ∧ x ≤ 9223372036854775807) :
    Calls Try.prog 7 #[.agg #[.int .u8 e, .int .u32 (s : Int)], .slice A l.length cp] w fun e w' => e = .returned (.bool true) ∧ Below w.heap.size w w' := by
  have hu49 := Try.underlying49
  have hCA := Aside0.mk hC
  have hcA := Aside0.mk hc
  have hxA := Aside0.mk hx
  have hmax := Aside0.mk (Kd.C_max hC)
  have hS0 := Aside0.mk ((Sep.start w).alloc #[.int .u8 e, .int .u32 (s : Int)] 49)
  have hBN := Aside0.mk (And.intro he0 (And.intro he1 hs))
  clear hC hc hx he0 he1 hs
  go_enter Try.func7, Try.ntmps7
  by_cases hl : 200 < l.length
  · have hd : decide ((l.length : Int) > 200) = true := decide_eq_true (by omega)
    go_wp2_with (fail)
    refine (fasciclelaw14_lives.calls true _ lives14h).mono ?_
    rintro e1 w1 ⟨rfl, hb1⟩
    have hS1 := Aside0.mk (hS0.out.below hb1)
    clear hb1
    go_wp2_with (fail)
    refine (fasciclelaw14_lives.calls true _ lives14h).mono ?_
    rintro e2 w2 ⟨rfl, hb2⟩
    have hS2 := Aside0.mk (hS1.out.below hb2)
    clear hb2
    go_wp2_with (fail)
    go_ret
    exact ⟨rfl, hS2.out.1⟩
  · have hd : decide ((l.length : Int) > 200) = false := decide_eq_false (by omega)
    have hlA : Aside0 (l.length ≤ 200) := ⟨by omega⟩
    clear hl
    go_wp2_with (fail)
    refine (fasciclelaw14_lives.calls true _ lives14h).mono ?_
    rintro e1 w1 ⟨rfl, hb1⟩
    have h1 := hS0.out.below hb1
    have hcc_0 : w1.cell? ⟨w.heap.size, 0, none⟩ = some (.int .u8 e) := ((h1).cell 0).trans rfl; have hcc_1 : w1.cell? ⟨w.heap.size, 1, none⟩ = some (.int .u32 (s : Int)) := ((h1).cell 1).trans rfl
    have hS1 := Aside0.mk h1
    clear hb1 h1
    obtain ⟨b0, b1, b2⟩ := hBN.out
    by_cases hmay : 12 ≤ e ∧ e ≤ 24 ∧ 1 ≤ (s : Int) ∧ (s : Int) ≤ 65536
    · obtain ⟨S, hCf⟩ := cfg_of (s := s) hmay
      have hSb := pair_S hCf.p
      have hs1 := hCf.s1
      have hs2 := hCf.s2
      obtain ⟨kp, hkp⟩ := (plan_ok hCf l hlA.out).rounds
      obtain ⟨⟨outs, er⟩, hR⟩ : ∃ R, planm S s l 0 (HL s 0) 0 [] = R := ⟨_, rfl⟩
      rw [hR] at hkp
      have hkp := Aside0.mk hkp
      have hRA := Aside0.mk hR
      have hCfA := Aside0.mk hCf
      have hSbA := Aside0.mk hSb
      have hsA := Aside0.mk (And.intro hs1 hs2)
      clear b0 b1 b2 hmay hCf hSb hs1 hs2 hR
      go_wp2_with (fail)
      refine (pack_Plan.calls kp e (s : Int) A cp l outs er _ (Kd.C_below hCA.out hS1.out.1) hcA.out hkp.out).mono ?_
      rintro e2 w2 ⟨v2, rfl, ho2, hb2⟩
      obtain ⟨A1, c1, rfl⟩ := Kd.R_slice ho2
      have hS2 := Aside0.mk (Sep.row_new hS1.out hb2 ho2)
      clear ho2 hb2 hcc_0 hcc_1
      have h2 := hS2.out
      have hcc_0 : w2.cell? ⟨w.heap.size, 0, none⟩ = some (.int .u8 e) := ((h2.pick1).cell 0).trans rfl; have hcc_1 : w2.cell? ⟨w.heap.size, 1, none⟩ = some (.int .u32 (s : Int)) := ((h2.pick1).cell 1).trans rfl
      clear h2
      by_cases her : er = 0
      · subst her
        obtain ⟨kh, hkh⟩ := (head_ev e s 0 (by have := hSbA.out; omega) (by have := hSbA.out; omega) (by have := hsA.out; omega) (by decide)).rounds
        have hkh := Aside0.mk hkh
        have hhl := head_len e s 0 (by have := hsA.out; omega) (by decide)
        have hsz0 : (strOfNums (sealed (hbody e s 0) ++ [0])).size = HL s 0 := by rw [nums_size, hhl]
        obtain ⟨HB, hHB⟩ : ∃ HB, strOfNums (sealed (hbody e s 0) ++ [0]) = HB := ⟨_, rfl⟩
        rw [hHB] at hsz0 hkh
        have hsz0 := Aside0.mk hsz0
        clear hHB
        have hpx := planm_prefix S s l 0 (HL s 0) 0 [] outs hRA.out
        have hol : outs.length = l.length := by rw [hpx.2]; simp
        have holA := Aside0.mk hol
        have hH0 := Aside0.mk (HL_small (s := s) (n := 0) (by have := hsA.out; omega) (by decide))
        have hSz := Aside0.mk (size_ok hCfA.out.p (s := (s : Int)) (by have := hsA.out; omega) (by have := hsA.out; omega))
        clear hpx hol hhl
        go_wp2_with (fail)
        refine (fascicleref09_Head.calls kh e (s : Int) 0 _ _ hkh.out).mono ?_
        rintro e3 w3 ⟨rfl, hb3⟩
        have hS3 := Aside0.mk (hS2.out.below hb3)
        clear hb3 hcc_0 hcc_1
        go_wp2_with (fail)
        go_loopg [7, 8, 45] l.length (fun kq v7 v8 v45 w' => ∃ (i n : Nat) (u c : Int), v7 = .int .i64 u ∧ v8 = .int .i64 c ∧ v45 = .int .i64 i ∧ Aside0 (i + kq = l.length ∧ n < s ∧ 0 ≤ u ∧ u ≤ S ∧ 0 ≤ c ∧ c ≤ i ∧ (c = 0 → u = HL s n) ∧ (i = 0 → n = 0) ∧ (∀ h : 0 < i, ∃ h2 : i - 1 < outs.length, outs[i - 1] = (n : Int)) ∧ planm S s (l.drop i) n u c (outs.take i) = (outs, 0)) ∧ Aside0 (Sep.Sep w w' (row (Kd.int .u32) 47 (.slice A1 outs.length c1) outs :: blk w.heap.size #[.int .u8 e, .int .u32 (s : Int)] 49 :: [])))
        case atStart => exact ⟨0, 0, (HL s 0 : Int), 0, rfl, rfl, rfl, ⟨by omega, by have := hsA.out; omega, by omega, by have := hH0.out; have := hSbA.out; omega, by omega, by omega, fun _ => rfl, fun _ => rfl, fun h => absurd h (by omega), hRA.out⟩, hS3⟩
        case round =>
          obtain ⟨i, n, u, c, rfl, rfl, rfl, hA, hS⟩ := hrel
          by_cases hin : i < l.length
          · obtain ⟨kk, rfl⟩ : ∃ kk, gk = kk + 1 := ⟨gk - 1, by have := hA.out.1; omega⟩
            have hd2 : decide ((i : Int) < (outs.length : Int)) = true := decide_eq_true (by have := holA.out; omega)
            obtain ⟨a0, a1, a2, a3, a4, a5, a6, a7, a8, a9⟩ := hA.out
            have hC0 := Kd.C_below hCA.out hS.out.1
            obtain ⟨ad0, e0, hx0⟩ := Kd.at_int hC0 (i : Int) (by omega) (by omega)
            cases e0
            clear hx0
            obtain ⟨x, hxe⟩ : ∃ x, l[i] = x := ⟨_, rfl⟩
            have hEl : Aside0 (∀ W, Below w.heap.size w W → W.cell? (ad0.add i) = some (.int .i64 x)) := ⟨fun W hW => by
              obtain ⟨ad2, e0, hx0⟩ := Kd.at_int (Kd.C_below hCA.out hW) (i : Int) (by omega) (by omega)
              cases e0
              rw [Int.toNat_natCast, rd_at l i hin, hxe] at hx0
              exact hx0⟩
            rw [List.drop_eq_getElem_cons hin, hxe] at a9
            obtain ⟨f1, f2⟩ := planm_step a9
            have hTLx := large_ok hCfA.out x
            rw [f1] at hTLx
            have hTL : Aside0 (pack_TooLarge.f e (s : Int) x = some false) := ⟨hTLx⟩
            have hx1 := fits_used f1 (by omega)
            have hio : i < outs.length := by have := holA.out; omega
            have hol : (outs.take i).length = i := by rw [List.length_take]; omega
            have hSb := hSbA.out
            have hsb := hsA.out
            have hll := hlA.out
            obtain ⟨bs, hRr⟩ := hS.out.row_R
            obtain ⟨ad1, e1, hy0⟩ := Kd.at_int (Kd.R_reads' hRr).2.2 (i : Int) (by omega) (by omega)
            cases e1
            rw [Int.toNat_natCast, rd_at outs i hio] at hy0
            have hprev : ∀ h : 0 < i, wr.cell? (ad1.add (i - 1)) = some (.int .u32 (n : Int)) := fun h => by
              obtain ⟨h2, h3⟩ := a8 h
              obtain ⟨ad2, e2, hz0⟩ := Kd.at_int (Kd.R_reads' hRr).2.2 ((i - 1 : Nat) : Int) (by omega) (by omega)
              cases e2
              rw [Int.toNat_natCast, rd_at outs (i - 1) h2, h3] at hz0
              exact hz0
            clear hRr hC0
            have p0 : ((0 : Int) ≤ (i : Int)) = True := eq_true (by omega)
            have q0 : ((i : Int) < (l.length : Int)) = True := eq_true (by omega)
            have q1 : ((i : Int) < (outs.length : Int)) = True := eq_true (by omega)
            have wi1 := Aside0.mk (show wrap64 ((i : Int) + 1) = ((i + 1 : Nat) : Int) from by rw [w64 (by omega) (by omega)]; omega)
            have hx1A := Aside0.mk hx1
            rcases f2 with ⟨f2, f3⟩ | ⟨f2, f4, f3⟩
            · obtain ⟨t1, t2, t3⟩ := take_of_prefix (planm_prefix S s _ _ _ _ _ _ f3).1 hol
              rw [t3] at hy0
              have hus := fits_used f2 a4
              have hfm := of_decide_eq_true f2
              have hm1 := most_pos (n := c + 1) (by omega)
              have hMo := Aside0.mk (LPack.most_f (n := c + 1) (by omega) (by omega))
              obtain ⟨mo, hmo⟩ : ∃ mo, most (c + 1) = mo := ⟨_, rfl⟩
              rw [hmo] at hMo hfm hm1
              have wu := Aside0.mk (show wrap64 (u + x) = u + x from w64 (by omega) (by omega))
              have wc := Aside0.mk (show wrap64 (c + 1) = c + 1 from w64 (by omega) (by omega))
              have wum := Aside0.mk (show wrap64 (u + x + mo) = u + x + mo from w64 (by omega) (by omega))
              have dfin : decide (u + x + mo > S) = false := decide_eq_false (by omega)
              have hnew : Aside0 (i + 1 + kk = l.length ∧ n < s ∧ 0 ≤ u + x ∧ u + x ≤ S ∧ 0 ≤ c + 1 ∧ c + 1 ≤ (i + 1 : Nat) ∧ (c + 1 = 0 → u + x = HL s n) ∧ (i + 1 = 0 → n = 0) ∧ (∀ h : 0 < i + 1, ∃ h2 : i + 1 - 1 < outs.length, outs[i + 1 - 1] = (n : Int)) ∧ planm S s (l.drop (i + 1)) n (u + x) (c + 1) (outs.take (i + 1)) = (outs, 0)) :=
                ⟨by omega, a1, by omega, hus.1, by omega, by omega, fun h => by omega, fun h => by omega, fun h => ⟨t2, t3⟩, by rw [t1]; exact f3⟩
              have hsn : decide ((n : Int) ≥ (s : Int)) = false := decide_eq_false (by omega)
              have hsn2 : decide (s ≤ n) = false := decide_eq_false (by omega)
              have hsn3 : decide ((s : Int) ≤ (n : Int)) = false := decide_eq_false (by omega)
              by_cases hi0 : i = 0
              · have hn0 := a7 hi0
                have g1 : decide ((i : Int) > 0) = false := decide_eq_false (by omega)
                have g2 : decide (0 < i) = false := decide_eq_false (by omega)
                have g3 : ((i : Int) == 0) = true := by rw [hi0]; rfl
                have g4 : decide (i = 0) = true := decide_eq_true hi0
                have g5 : (i == 0) = true := by rw [hi0]; rfl
                have g6 : ((n : Int) != 0) = false := by rw [hn0]; rfl
                have g7 : decide (n = 0) = true := decide_eq_true hn0
                have g8 : (n != 0) = false := by rw [hn0]; rfl
                have g9 : (n == 0) = true := by rw [hn0]; rfl
                have hz : ((0 : Nat) : Int) = (n : Int) := by rw [hn0]
                clear a0 a1 a2 a3 a4 a5 a6 a7 a8 a9 hprev f1 f2 f3 t1 t2 t3 hus hfm hm1 hSb hsb hll hio hol hx1 hxe hi0 hn0 hTLx hmo
                have wi1 := wi1.out
                have wu := wu.out
                have wc := wc.out
                have wum := wum.out
                have hc_0 : wr.cell? ⟨w.heap.size, 0, none⟩ = some (.int .u8 e) := (hS.out.pick1.cell 0).trans rfl
                have hc_1 : wr.cell? ⟨w.heap.size, 1, none⟩ = some (.int .u32 (s : Int)) := (hS.out.pick1.cell 1).trans rfl
                have hel : wr.cell? (ad0.add i) = some (.int .i64 x) := hEl.out _ hS.out.1
                go_upto_region 13 with (fail)
                have hS := Aside0.mk hS.out.drew
                clear hc_0 hc_1 hel
                have hc_0 : wr.drew.cell? ⟨w.heap.size, 0, none⟩ = some (.int .u8 e) := (hS.out.pick1.cell 0).trans rfl
                have hc_1 : wr.drew.cell? ⟨w.heap.size, 1, none⟩ = some (.int .u32 (s : Int)) := (hS.out.pick1.cell 1).trans rfl
                have hel : wr.drew.cell? (ad0.add i) = some (.int .i64 x) := hEl.out _ hS.out.1
                go_wp2_with (fail)
                refine start_ (n := 31) (S := fun w' => w'.cell? ⟨w.heap.size, 0, none⟩ = some (.int .u8 e) ∧ w'.cell? ⟨w.heap.size, 1, none⟩ = some (.int .u32 (s : Int)) ∧ w'.cell? (ad0.add i) = some (.int .i64 x)) (ds := []) #[false, false, false, false, false, false, false, false, false, false, false, false, false, false, false, false, false, false, false, false, false, false, false, false, false, false, false, false, false, false, false] (by kernel_rfl) rfl rfl ⟨hc_0, hc_1, hel⟩ (fun hHeld => ?_)
                refine pure_ (i := 0) (N := some 57) (v := ?_) (a' := ?_) #[true, false, false, false, false, false, false, false, false, false, false, false, false, false, false, false, false, false, false, false, false, false, false, false, false, false, false, false, false, false, false] rfl rfl (by kernel_rfl) (fun _ _ _ h => h) (Or.inl ⟨by rfl, ?_⟩) ?_ ?_
                rotate_left
                · intro w'
                  go_simp
                  with_reducible rfl
                rotate_left
                · simp only [Act.put, List.setIfInBounds_toArray, List.set_cons_zero, List.set_cons_succ, i64_w, i32_w]
                  rfl
                refine pure_ (i := 1) (N := some 58) (v := ?_) (a' := ?_) #[true, true, false, false, false, false, false, false, false, false, false, false, false, false, false, false, false, false, false, false, false, false, false, false, false, false, false, false, false, false, false] rfl rfl (by kernel_rfl) (fun _ _ _ h => h) (Or.inl ⟨by rfl, ?_⟩) ?_ ?_
                rotate_left
                · intro w'
                  go_simp
                  with_reducible rfl
                rotate_left
                · simp only [Act.put, List.setIfInBounds_toArray, List.set_cons_zero, List.set_cons_succ, i64_w, i32_w]
                  rfl
                refine pure_ (i := 2) (N := some 59) (v := ?_) (a' := ?_) #[true, true, true, false, false, false, false, false, false, false, false, false, false, false, false, false, false, false, false, false, false, false, false, false, false, false, false, false, false, false, false] rfl rfl (by kernel_rfl) (fun _ _ _ h => h) (Or.inl ⟨by rfl, ?_⟩) ?_ ?_
                rotate_left
                · intro w'
                  go_simp
                  with_reducible rfl
                rotate_left
                · simp only [Act.put, List.setIfInBounds_toArray, List.set_cons_zero, List.set_cons_succ, i64_w, i32_w]
                  rfl
                refine pure_ (i := 3) (N := some 60) (v := ?_) (a' := ?_) #[true, true, true, true, false, false, false, false, false, false, false, false, false, false, false, false, false, false, false, false, false, false, false, false, false, false, false, false, false, false, false] rfl rfl (by kernel_rfl) (fun _ _ _ h => h) (Or.inl ⟨by rfl, ?_⟩) ?_ ?_
                rotate_left
                · intro w'
                  go_simp
                  with_reducible rfl
                rotate_left
                · simp only [Act.put, List.setIfInBounds_toArray, List.set_cons_zero, List.set_cons_succ, i64_w, i32_w]
                  rfl
                refine pure_ (i := 4) (N := some 61) (v := undef) (a' := ?_) #[true, true, true, true, true, false, false, false, false, false, false, false, false, false, false, false, false, false, false, false, false, false, false, false, false, false, false, false, false, false, false] rfl rfl (by kernel_rfl) (fun _ _ _ h => h) (Or.inr ⟨by rfl, rfl⟩) ?_ ?_
                rotate_left
                · simp only [Act.put, List.setIfInBounds_toArray, List.set_cons_zero, List.set_cons_succ, i64_w, i32_w]
                  rfl
                refine pure_ (i := 5) (N := some 62) (v := undef) (a' := ?_) #[true, true, true, true, true, true, false, false, false, false, false, false, false, false, false, false, false, false, false, false, false, false, false, false, false, false, false, false, false, false, false] rfl rfl (by kernel_rfl) (fun _ _ _ h => h) (Or.inr ⟨by rfl, rfl⟩) ?_ ?_
                rotate_left
                · simp only [Act.put, List.setIfInBounds_toArray, List.set_cons_zero, List.set_cons_succ, i64_w, i32_w]
                  rfl
                refine pure_ (i := 6) (N := some 63) (v := undef) (a' := ?_) #[true, true, true, true, true, true, true, false, false, false, false, false, false, false, false, false, false, false, false, false, false, false, false, false, false, false, false, false, false, false, false] rfl rfl (by kernel_rfl) (fun _ _ _ h => h) (Or.inr ⟨by rfl, rfl⟩) ?_ ?_
                rotate_left
                · simp only [Act.put, List.setIfInBounds_toArray, List.set_cons_zero, List.set_cons_succ, i64_w, i32_w]
                  rfl
                refine pure_ (i := 7) (N := some 64) (v := undef) (a' := ?_) #[true, true, true, true, true, true, true, true, false, false, false, false, false, false, false, false, false, false, false, false, false, false, false, false, false, false, false, false, false, false, false] rfl rfl (by kernel_rfl) (fun _ _ _ h => h) (Or.inr ⟨by rfl, rfl⟩) ?_ ?_
                rotate_left
                · simp only [Act.put, List.setIfInBounds_toArray, List.set_cons_zero, List.set_cons_succ, i64_w, i32_w]
                  rfl
                refine pure_ (i := 8) (N := some 65) (v := ?_) (a' := ?_) #[true, true, true, true, true, true, true, true, true, false, false, false, false, false, false, false, false, false, false, false, false, false, false, false, false, false, false, false, false, false, false] rfl rfl (by kernel_rfl) (fun _ _ _ h => h) (Or.inl ⟨by rfl, ?_⟩) ?_ ?_
                rotate_left
                · intro w'
                  go_simp
                  with_reducible rfl
                rotate_left
                · simp only [Act.put, List.setIfInBounds_toArray, List.set_cons_zero, List.set_cons_succ, i64_w, i32_w]
                  rfl
                refine pure_ (i := 9) (N := some 66) (v := ?_) (a' := ?_) #[true, true, true, true, true, true, true, true, true, true, false, false, false, false, false, false, false, false, false, false, false, false, false, false, false, false, false, false, false, false, false] rfl rfl (by kernel_rfl) (fun _ _ _ h => h) (Or.inl ⟨by rfl, ?_⟩) ?_ ?_
                rotate_left
                · intro w'
                  go_simp
                  with_reducible rfl
                rotate_left
                · simp only [Act.put, List.setIfInBounds_toArray, List.set_cons_zero, List.set_cons_succ, i64_w, i32_w]
                  rfl
                refine pure_ (i := 10) (N := some 67) (v := ?_) (a' := ?_) #[true, true, true, true, true, true, true, true, true, true, true, false, false, false, false, false, false, false, false, false, false, false, false, false, false, false, false, false, false, false, false] rfl rfl (by kernel_rfl) (fun _ _ _ h => h) (Or.inl ⟨by rfl, ?_⟩) ?_ ?_
                rotate_left
                · intro w'
                  go_simp
                  with_reducible rfl
                rotate_left
                · simp only [Act.put, List.setIfInBounds_toArray, List.set_cons_zero, List.set_cons_succ, i64_w, i32_w]
                  rfl
                refine pure_ (i := 11) (N := some 68) (v := ?_) (a' := ?_) #[true, true, true, true, true, true, true, true, true, true, true, true, false, false, false, false, false, false, false, false, false, false, false, false, false, false, false, false, false, false, false] rfl rfl (by kernel_rfl) (fun _ _ _ h => h) (Or.inl ⟨by rfl, ?_⟩) ?_ ?_
                rotate_left
                · intro w'
                  go_simp
                  with_reducible rfl
                rotate_left
                · simp only [Act.put, List.setIfInBounds_toArray, List.set_cons_zero, List.set_cons_succ, i64_w, i32_w]
                  rfl
                refine pure_ (i := 12) (N := some 69) (v := ?_) (a' := ?_) #[true, true, true, true, true, true, true, true, true, true, true, true, true, false, false, false, false, false, false, false, false, false, false, false, false, false, false, false, false, false, false] rfl rfl (by kernel_rfl) (fun _ _ _ h => h) (Or.inl ⟨by rfl, ?_⟩) ?_ ?_
                rotate_left
                · intro w'
                  go_simp
                  with_reducible rfl
                rotate_left
                · simp only [Act.put, List.setIfInBounds_toArray, List.set_cons_zero, List.set_cons_succ, i64_w, i32_w]
                  rfl
                refine pure_ (i := 13) (N := some 70) (v := ?_) (a' := ?_) #[true, true, true, true, true, true, true, true, true, true, true, true, true, true, false, false, false, false, false, false, false, false, false, false, false, false, false, false, false, false, false] rfl rfl (by kernel_rfl) (fun _ _ _ h => h) (Or.inl ⟨by rfl, ?_⟩) ?_ ?_
                rotate_left
                · intro w'
                  go_simp
                  with_reducible rfl
                rotate_left
                · simp only [Act.put, List.setIfInBounds_toArray, List.set_cons_zero, List.set_cons_succ, i64_w, i32_w]
                  rfl
                refine pure_ (i := 14) (N := some 71) (v := ?_) (a' := ?_) #[true, true, true, true, true, true, true, true, true, true, true, true, true, true, true, false, false, false, false, false, false, false, false, false, false, false, false, false, false, false, false] rfl rfl (by kernel_rfl) (fun _ _ _ h => h) (Or.inl ⟨by rfl, ?_⟩) ?_ ?_
                rotate_left
                · intro w'
                  go_simp
                  with_reducible rfl
                rotate_left
                · simp only [Act.put, List.setIfInBounds_toArray, List.set_cons_zero, List.set_cons_succ, i64_w, i32_w]
                  rfl
                refine pure_ (i := 15) (N := some 72) (v := ?_) (a' := ?_) #[true, true, true, true, true, true, true, true, true, true, true, true, true, true, true, true, false, false, false, false, false, false, false, false, false, false, false, false, false, false, false] rfl rfl (by kernel_rfl) (fun _ _ _ h => h) (Or.inl ⟨by rfl, ?_⟩) ?_ ?_
                rotate_left
                · intro w'
                  go_simp
                  with_reducible rfl
                rotate_left
                · simp only [Act.put, List.setIfInBounds_toArray, List.set_cons_zero, List.set_cons_succ, i64_w, i32_w]
                  rfl
                refine pure_ (i := 16) (N := some 73) (v := ?_) (a' := ?_) #[true, true, true, true, true, true, true, true, true, true, true, true, true, true, true, true, true, false, false, false, false, false, false, false, false, false, false, false, false, false, false] rfl rfl (by kernel_rfl) (fun _ _ _ h => h) (Or.inl ⟨by rfl, ?_⟩) ?_ ?_
                rotate_left
                · intro w'
                  go_simp
                  with_reducible rfl
                rotate_left
                · simp only [Act.put, List.setIfInBounds_toArray, List.set_cons_zero, List.set_cons_succ, i64_w, i32_w]
                  rfl
                refine pure_ (i := 17) (N := some 74) (v := ?_) (a' := ?_) #[true, true, true, true, true, true, true, true, true, true, true, true, true, true, true, true, true, true, false, false, false, false, false, false, false, false, false, false, false, false, false] rfl rfl (by kernel_rfl) (fun _ _ _ h => h) (Or.inl ⟨by rfl, ?_⟩) ?_ ?_
                rotate_left
                · intro w'
                  go_simp
                  with_reducible rfl
                rotate_left
                · simp only [Act.put, List.setIfInBounds_toArray, List.set_cons_zero, List.set_cons_succ, i64_w, i32_w]
                  rfl
                refine pure_ (i := 18) (N := some 75) (v := ?_) (a' := ?_) #[true, true, true, true, true, true, true, true, true, true, true, true, true, true, true, true, true, true, true, false, false, false, false, false, false, false, false, false, false, false, false] rfl rfl (by kernel_rfl) (fun _ _ _ h => h) (Or.inl ⟨by rfl, ?_⟩) ?_ ?_
                rotate_left
                · intro w'
                  go_simp
                  with_reducible rfl
                rotate_left
                · simp only [Act.put, List.setIfInBounds_toArray, List.set_cons_zero, List.set_cons_succ, i64_w, i32_w]
                  rfl
                refine pure_ (i := 19) (N := some 76) (v := ?_) (a' := ?_) #[true, true, true, true, true, true, true, true, true, true, true, true, true, true, true, true, true, true, true, true, false, false, false, false, false, false, false, false, false, false, false] rfl rfl (by kernel_rfl) (fun _ _ _ h => h) (Or.inl ⟨by rfl, ?_⟩) ?_ ?_
                rotate_left
                · intro w'
                  go_simp
                  with_reducible rfl
                rotate_left
                · simp only [Act.put, List.setIfInBounds_toArray, List.set_cons_zero, List.set_cons_succ, i64_w, i32_w]
                  rfl
                refine take_ (i := 20) (N := some 77) (v := ?_) (a' := ?_) #[true, true, true, true, true, true, true, true, true, true, true, true, true, true, true, true, true, true, true, true, true, false, false, false, false, false, false, false, false, false, false] rfl rfl (by kernel_rfl) (fun _ _ _ h => h) (Or.inl ⟨by rfl, ?_⟩) hHeld ?_ ?_
                rotate_left
                · rintro w' ⟨s0, s1, s2⟩
                  go_simp
                  with_reducible rfl
                rotate_left
                · simp only [Act.put, List.setIfInBounds_toArray, List.set_cons_zero, List.set_cons_succ, i64_w, i32_w]
                  rfl
                refine pure_ (i := 21) (N := some 78) (v := ?_) (a' := ?_) #[true, true, true, true, true, true, true, true, true, true, true, true, true, true, true, true, true, true, true, true, true, true, false, false, false, false, false, false, false, false, false] rfl rfl (by kernel_rfl) (fun _ _ _ h => h) (Or.inl ⟨by rfl, ?_⟩) ?_ ?_
                rotate_left
                · intro w'
                  go_simp
                  with_reducible rfl
                rotate_left
                · simp only [Act.put, List.setIfInBounds_toArray, List.set_cons_zero, List.set_cons_succ, i64_w, i32_w]
                  rfl
                refine pure_ (i := 22) (N := some 79) (v := ?_) (a' := ?_) #[true, true, true, true, true, true, true, true, true, true, true, true, true, true, true, true, true, true, true, true, true, true, true, false, false, false, false, false, false, false, false] rfl rfl (by kernel_rfl) (fun _ _ _ h => h) (Or.inl ⟨by rfl, ?_⟩) ?_ ?_
                rotate_left
                · intro w'
                  go_simp
                  with_reducible rfl
                rotate_left
                · simp only [Act.put, List.setIfInBounds_toArray, List.set_cons_zero, List.set_cons_succ, i64_w, i32_w]
                  rfl
                refine pure_ (i := 23) (N := some 80) (v := ?_) (a' := ?_) #[true, true, true, true, true, true, true, true, true, true, true, true, true, true, true, true, true, true, true, true, true, true, true, true, false, false, false, false, false, false, false] rfl rfl (by kernel_rfl) (fun _ _ _ h => h) (Or.inl ⟨by rfl, ?_⟩) ?_ ?_
                rotate_left
                · intro w'
                  go_simp
                  with_reducible rfl
                rotate_left
                · simp only [Act.put, List.setIfInBounds_toArray, List.set_cons_zero, List.set_cons_succ, i64_w, i32_w]
                  rfl
                refine pure_ (i := 25) (N := some 82) (v := ?_) (a' := ?_) #[true, true, true, true, true, true, true, true, true, true, true, true, true, true, true, true, true, true, true, true, true, true, true, true, false, true, false, false, false, false, false] rfl rfl (by kernel_rfl) (fun _ _ _ h => h) (Or.inl ⟨by rfl, ?_⟩) ?_ ?_
                rotate_left
                · intro w'
                  go_simp
                  with_reducible rfl
                rotate_left
                · simp only [Act.put, List.setIfInBounds_toArray, List.set_cons_zero, List.set_cons_succ, i64_w, i32_w]
                  rfl
                refine pure_ (i := 26) (N := some 83) (v := ?_) (a' := ?_) #[true, true, true, true, true, true, true, true, true, true, true, true, true, true, true, true, true, true, true, true, true, true, true, true, false, true, true, false, false, false, false] rfl rfl (by kernel_rfl) (fun _ _ _ h => h) (Or.inl ⟨by rfl, ?_⟩) ?_ ?_
                rotate_left
                · intro w'
                  go_simp
                  with_reducible rfl
                rotate_left
                · simp only [Act.put, List.setIfInBounds_toArray, List.set_cons_zero, List.set_cons_succ, i64_w, i32_w]
                  rfl
                refine pure_ (i := 27) (N := some 84) (v := ?_) (a' := ?_) #[true, true, true, true, true, true, true, true, true, true, true, true, true, true, true, true, true, true, true, true, true, true, true, true, false, true, true, true, false, false, false] rfl rfl (by kernel_rfl) (fun _ _ _ h => h) (Or.inl ⟨by rfl, ?_⟩) ?_ ?_
                rotate_left
                · intro w'
                  go_simp
                  with_reducible rfl
                rotate_left
                · simp only [Act.put, List.setIfInBounds_toArray, List.set_cons_zero, List.set_cons_succ, i64_w, i32_w]
                  rfl
                refine take_ (i := 24) (N := some 81) (v := ?_) (a' := ?_) #[true, true, true, true, true, true, true, true, true, true, true, true, true, true, true, true, true, true, true, true, true, true, true, true, true, true, true, true, false, false, false] rfl rfl (by kernel_rfl) (fun _ _ _ h => h) (Or.inl ⟨by rfl, ?_⟩) hHeld ?_ ?_
                rotate_left
                · rintro w' ⟨s0, s1, s2⟩
                  go_simp
                  with_reducible rfl
                rotate_left
                · simp only [Act.put, List.setIfInBounds_toArray, List.set_cons_zero, List.set_cons_succ, i64_w, i32_w]
                  rfl
                refine take_ (i := 28) (N := some 85) (v := ?_) (a' := ?_) #[true, true, true, true, true, true, true, true, true, true, true, true, true, true, true, true, true, true, true, true, true, true, true, true, true, true, true, true, true, false, false] rfl rfl (by kernel_rfl) (fun _ _ _ h => h) (Or.inl ⟨by rfl, ?_⟩) hHeld ?_ ?_
                rotate_left
                · rintro w' ⟨s0, s1, s2⟩
                  go_simp
                  with_reducible rfl
                rotate_left
                · simp only [Act.put, List.setIfInBounds_toArray, List.set_cons_zero, List.set_cons_succ, i64_w, i32_w]
                  rfl
                refine one_ (i := 29) (N := some 86) #[true, true, true, true, true, true, true, true, true, true, true, true, true, true, true, true, true, true, true, true, true, true, true, true, true, true, true, true, true, true, false] rfl rfl (by kernel_rfl) (by decide) (fun K hK => ?_)
                refine goes_ Try.func41 (by kernel_rfl) rfl #[.agg #[.int .u8 e, .int .u32 (s : Int)], .int .i64 x] (by rfl) rfl rfl (by (try simp only [List.map_toArray, List.map_cons, List.map_nil]); first | done | rfl) ?_
                refine (pack_TooLarge.calls e (s : Int) x false _ hTL.out).mono ?_
                rintro ee wq ⟨rfl, hbq⟩
                refine ⟨_, rfl, ?_⟩
                have hS := Aside0.mk (hS.out.below hbq)
                clear hbq
                refine hK.out _ _ ⟨(hS.out.pick1.cell 0).trans rfl, (hS.out.pick1.cell 1).trans rfl, hEl.out _ hS.out.1⟩ (fun hHeld => ?_)
                clear hK K
                refine norm_ (a' := ?_) ?_ ?_
                rotate_left
                · show Act.put _ (some 86) _ = _
                  simp only [Act.put, List.setIfInBounds_toArray, List.set_cons_zero, List.set_cons_succ, i64_w, i32_w]
                  rfl
                refine pure_ (i := 30) (N := some 87) (v := ?_) (a' := ?_) #[true, true, true, true, true, true, true, true, true, true, true, true, true, true, true, true, true, true, true, true, true, true, true, true, true, true, true, true, true, true, true] rfl rfl (by kernel_rfl) (fun _ _ _ h => h) (Or.inl ⟨by rfl, ?_⟩) ?_ ?_
                rotate_left
                · intro w'
                  go_simp
                  with_reducible rfl
                rotate_left
                · simp only [Act.put, List.setIfInBounds_toArray, List.set_cons_zero, List.set_cons_succ, i64_w, i32_w]
                  rfl
                refine done_ (by kernel_rfl) ?_
                clear hc_0 hc_1 hel
                have hc_0 : wq.cell? ⟨w.heap.size, 0, none⟩ = some (.int .u8 e) := (hS.out.pick1.cell 0).trans rfl
                have hc_1 : wq.cell? ⟨w.heap.size, 1, none⟩ = some (.int .u32 (s : Int)) := (hS.out.pick1.cell 1).trans rfl
                have hel : wq.cell? (ad0.add i) = some (.int .i64 x) := hEl.out _ hS.out.1
                go_upto_region 20 with (fail)
                have hS := Aside0.mk hS.out.drew
                clear hc_0 hc_1 hel
                have hc_0 : wq.drew.cell? ⟨w.heap.size, 0, none⟩ = some (.int .u8 e) := (hS.out.pick1.cell 0).trans rfl
                have hc_1 : wq.drew.cell? ⟨w.heap.size, 1, none⟩ = some (.int .u32 (s : Int)) := (hS.out.pick1.cell 1).trans rfl
                have hel : wq.drew.cell? (ad0.add i) = some (.int .i64 x) := hEl.out _ hS.out.1
                go_wp2_with (fail)
                refine start_ (n := 7) (S := fun w' => w'.cell? ⟨w.heap.size, 0, none⟩ = some (.int .u8 e) ∧ w'.cell? ⟨w.heap.size, 1, none⟩ = some (.int .u32 (s : Int)) ∧ w'.cell? (ad0.add i) = some (.int .i64 x)) (ds := []) #[false, false, false, false, false, false, false] (by kernel_rfl) rfl rfl ⟨hc_0, hc_1, hel⟩ (fun hHeld => ?_)
                obtain ⟨wz, hwz⟩ : ∃ wz, wq.drew = wz := ⟨_, rfl⟩
                rw [hwz] at hS hHeld ⊢
                clear hc_0 hc_1 hel
                clear hwz
                refine pure_ (i := 0) (N := some 121) (v := ?_) (a' := ?_) #[true, false, false, false, false, false, false] rfl rfl (by kernel_rfl) (fun _ _ _ h => h) (Or.inl ⟨by rfl, ?_⟩) ?_ ?_
                rotate_left
                · intro w'
                  go_simp
                  with_reducible rfl
                rotate_left
                · simp only [Act.put, List.setIfInBounds_toArray, List.set_cons_zero, List.set_cons_succ, i64_w, i32_w]
                  rfl
                refine pure_ (i := 1) (N := some 122) (v := ?_) (a' := ?_) #[true, true, false, false, false, false, false] rfl rfl (by kernel_rfl) (fun _ _ _ h => h) (Or.inl ⟨by rfl, ?_⟩) ?_ ?_
                rotate_left
                · intro w'
                  go_simp
                  with_reducible rfl
                rotate_left
                · simp only [Act.put, List.setIfInBounds_toArray, List.set_cons_zero, List.set_cons_succ, i64_w, i32_w]
                  rfl
                refine take_ (i := 4) (N := some 125) (v := ?_) (a' := ?_) #[true, true, false, false, true, false, false] rfl rfl (by kernel_rfl) (fun _ _ _ h => h) (Or.inl ⟨by rfl, ?_⟩) hHeld ?_ ?_
                rotate_left
                · rintro w' ⟨s0, s1, s2⟩
                  go_simp
                  with_reducible rfl
                rotate_left
                · simp only [Act.put, List.setIfInBounds_toArray, List.set_cons_zero, List.set_cons_succ, i64_w, i32_w]
                  rfl
                refine one_ (i := 2) (N := some 123) #[true, true, true, false, true, false, false] rfl rfl (by kernel_rfl) (by decide) (fun K hK => ?_)
                refine goes_ Try.func42 (by kernel_rfl) rfl #[.int .i64 (c + 1)] (by rfl) rfl rfl (by (try simp only [List.map_toArray, List.map_cons, List.map_nil]); first | done | rfl) ?_
                refine (footer_Most.calls _ _ _ hMo.out).mono ?_
                rintro ee wz ⟨rfl, hbz⟩
                refine ⟨_, rfl, ?_⟩
                have hS := Aside0.mk (hS.out.below hbz)
                clear hbz
                refine hK.out _ _ ⟨(hS.out.pick1.cell 0).trans rfl, (hS.out.pick1.cell 1).trans rfl, hEl.out _ hS.out.1⟩ (fun hHeld => ?_)
                clear hK K
                refine norm_ (a' := ?_) ?_ ?_
                rotate_left
                · show Act.put _ (some 123) _ = _
                  simp only [Act.put, List.setIfInBounds_toArray, List.set_cons_zero, List.set_cons_succ, i64_w, i32_w]
                  rfl
                refine pure_ (i := 3) (N := some 124) (v := ?_) (a' := ?_) #[true, true, true, true, true, false, false] rfl rfl (by kernel_rfl) (fun _ _ _ h => h) (Or.inl ⟨by rfl, ?_⟩) ?_ ?_
                rotate_left
                · intro w'
                  go_simp
                  with_reducible rfl
                rotate_left
                · simp only [Act.put, List.setIfInBounds_toArray, List.set_cons_zero, List.set_cons_succ, i64_w, i32_w]
                  rfl
                refine one_ (i := 5) (N := some 126) #[true, true, true, true, true, true, false] rfl rfl (by kernel_rfl) (by decide) (fun K hK => ?_)
                refine goes_ Try.func43 (by kernel_rfl) rfl #[.agg #[.int .u8 e, .int .u32 (s : Int)]] (by rfl) rfl rfl (by (try simp only [List.map_toArray, List.map_cons, List.map_nil]); first | done | rfl) ?_
                refine (config_Size.calls e (s : Int) S _ hSz.out).mono ?_
                rintro ee wz ⟨rfl, hbz⟩
                refine ⟨_, rfl, ?_⟩
                have hS := Aside0.mk (hS.out.below hbz)
                clear hbz
                refine hK.out _ _ ⟨(hS.out.pick1.cell 0).trans rfl, (hS.out.pick1.cell 1).trans rfl, hEl.out _ hS.out.1⟩ (fun hHeld => ?_)
                clear hK K
                refine norm_ (a' := ?_) ?_ ?_
                rotate_left
                · show Act.put _ (some 126) _ = _
                  simp only [Act.put, List.setIfInBounds_toArray, List.set_cons_zero, List.set_cons_succ, i64_w, i32_w]
                  rfl
                refine pure_ (i := 6) (N := some 127) (v := ?_) (a' := ?_) #[true, true, true, true, true, true, true] rfl rfl (by kernel_rfl) (fun _ _ _ h => h) (Or.inl ⟨by rfl, ?_⟩) ?_ ?_
                rotate_left
                · intro w'
                  go_simp
                  with_reducible rfl
                rotate_left
                · simp only [Act.put, List.setIfInBounds_toArray, List.set_cons_zero, List.set_cons_succ, i64_w, i32_w]
                  rfl
                refine done_ (by kernel_rfl) ?_
                have hc_0 : wz.cell? ⟨w.heap.size, 0, none⟩ = some (.int .u8 e) := (hS.out.pick1.cell 0).trans rfl
                have hc_1 : wz.cell? ⟨w.heap.size, 1, none⟩ = some (.int .u32 (s : Int)) := (hS.out.pick1.cell 1).trans rfl
                have hel : wz.cell? (ad0.add i) = some (.int .i64 x) := hEl.out _ hS.out.1
                clear hc_0 hc_1 hel
                go_wp2_with (fail)
                go_roundg kk
                case measure => omega
                case rel => exact ⟨i + 1, n, u + x, c + 1, by first | rfl | rw [wu] | rw [wh], by first | rfl | rw [wc], by first | rfl | simp [wi1] | simp, hnew, hS⟩
              · have g1 : decide ((i : Int) > 0) = true := decide_eq_true (by omega)
                have g2 : decide (0 < i) = true := decide_eq_true (by omega)
                have g3 : ((i : Int) == 0) = false := beq_eq_false_iff_ne.2 (by omega)
                have g4 : decide (i = 0) = false := decide_eq_false hi0
                have g5 : (i == 0) = false := beq_eq_false_iff_ne.2 hi0
                have hpv := hprev (by omega)
                have wi0 := Aside0.mk (show wrap64 ((i : Int) - 1) = ((i - 1 : Nat) : Int) from by rw [w64 (by omega) (by omega)]; omega)
                have p1 : ((0 : Int) ≤ ((i - 1 : Nat) : Int)) = True := eq_true (by omega)
                have q2 : (((i - 1 : Nat) : Int) < (outs.length : Int)) = True := eq_true (by omega)
                have p1' : ((1 : Int) ≤ (i : Int)) = True := eq_true (by omega)
                clear a0 a1 a2 a3 a4 a5 a6 a7 a8 a9 hprev f1 f2 f3 t1 t2 t3 hus hfm hm1 hSb hsb hll hio hol hx1 hxe hi0 hTLx hmo
                have wi1 := wi1.out
                have wi0 := wi0.out
                have wu := wu.out
                have wc := wc.out
                have wum := wum.out
                have hc_0 : wr.cell? ⟨w.heap.size, 0, none⟩ = some (.int .u8 e) := (hS.out.pick1.cell 0).trans rfl
                have hc_1 : wr.cell? ⟨w.heap.size, 1, none⟩ = some (.int .u32 (s : Int)) := (hS.out.pick1.cell 1).trans rfl
                have hel : wr.cell? (ad0.add i) = some (.int .i64 x) := hEl.out _ hS.out.1
                go_upto_region 13 with (fail)
                have hS := Aside0.mk hS.out.drew
                clear hc_0 hc_1 hel
                have hc_0 : wr.drew.cell? ⟨w.heap.size, 0, none⟩ = some (.int .u8 e) := (hS.out.pick1.cell 0).trans rfl
                have hc_1 : wr.drew.cell? ⟨w.heap.size, 1, none⟩ = some (.int .u32 (s : Int)) := (hS.out.pick1.cell 1).trans rfl
                have hel : wr.drew.cell? (ad0.add i) = some (.int .i64 x) := hEl.out _ hS.out.1
                go_wp2_with (fail)
                refine start_ (n := 31) (S := fun w' => w'.cell? ⟨w.heap.size, 0, none⟩ = some (.int .u8 e) ∧ w'.cell? ⟨w.heap.size, 1, none⟩ = some (.int .u32 (s : Int)) ∧ w'.cell? (ad0.add i) = some (.int .i64 x)) (ds := []) #[false, false, false, false, false, false, false, false, false, false, false, false, false, false, false, false, false, false, false, false, false, false, false, false, false, false, false, false, false, false, false] (by kernel_rfl) rfl rfl ⟨hc_0, hc_1, hel⟩ (fun hHeld => ?_)
                refine pure_ (i := 0) (N := some 57) (v := ?_) (a' := ?_) #[true, false, false, false, false, false, false, false, false, false, false, false, false, false, false, false, false, false, false, false, false, false, false, false, false, false, false, false, false, false, false] rfl rfl (by kernel_rfl) (fun _ _ _ h => h) (Or.inl ⟨by rfl, ?_⟩) ?_ ?_
                rotate_left
                · intro w'
                  go_simp
                  with_reducible rfl
                rotate_left
                · simp only [Act.put, List.setIfInBounds_toArray, List.set_cons_zero, List.set_cons_succ, i64_w, i32_w]
                  rfl
                refine pure_ (i := 1) (N := some 58) (v := ?_) (a' := ?_) #[true, true, false, false, false, false, false, false, false, false, false, false, false, false, false, false, false, false, false, false, false, false, false, false, false, false, false, false, false, false, false] rfl rfl (by kernel_rfl) (fun _ _ _ h => h) (Or.inl ⟨by rfl, ?_⟩) ?_ ?_
                rotate_left
                · intro w'
                  go_simp
                  with_reducible rfl
                rotate_left
                · simp only [Act.put, List.setIfInBounds_toArray, List.set_cons_zero, List.set_cons_succ, i64_w, i32_w]
                  rfl
                refine pure_ (i := 2) (N := some 59) (v := ?_) (a' := ?_) #[true, true, true, false, false, false, false, false, false, false, false, false, false, false, false, false, false, false, false, false, false, false, false, false, false, false, false, false, false, false, false] rfl rfl (by kernel_rfl) (fun _ _ _ h => h) (Or.inl ⟨by rfl, ?_⟩) ?_ ?_
                rotate_left
                · intro w'
                  go_simp
                  with_reducible rfl
                rotate_left
                · simp only [Act.put, List.setIfInBounds_toArray, List.set_cons_zero, List.set_cons_succ, i64_w, i32_w]
                  rfl
                refine pure_ (i := 3) (N := some 60) (v := ?_) (a' := ?_) #[true, true, true, true, false, false, false, false, false, false, false, false, false, false, false, false, false, false, false, false, false, false, false, false, false, false, false, false, false, false, false] rfl rfl (by kernel_rfl) (fun _ _ _ h => h) (Or.inl ⟨by rfl, ?_⟩) ?_ ?_
                rotate_left
                · intro w'
                  go_simp
                  with_reducible rfl
                rotate_left
                · simp only [Act.put, List.setIfInBounds_toArray, List.set_cons_zero, List.set_cons_succ, i64_w, i32_w]
                  rfl
                refine pure_ (i := 4) (N := some 61) (v := undef) (a' := ?_) #[true, true, true, true, true, false, false, false, false, false, false, false, false, false, false, false, false, false, false, false, false, false, false, false, false, false, false, false, false, false, false] rfl rfl (by kernel_rfl) (fun _ _ _ h => h) (Or.inr ⟨by rfl, rfl⟩) ?_ ?_
                rotate_left
                · simp only [Act.put, List.setIfInBounds_toArray, List.set_cons_zero, List.set_cons_succ, i64_w, i32_w]
                  rfl
                refine pure_ (i := 5) (N := some 62) (v := undef) (a' := ?_) #[true, true, true, true, true, true, false, false, false, false, false, false, false, false, false, false, false, false, false, false, false, false, false, false, false, false, false, false, false, false, false] rfl rfl (by kernel_rfl) (fun _ _ _ h => h) (Or.inr ⟨by rfl, rfl⟩) ?_ ?_
                rotate_left
                · simp only [Act.put, List.setIfInBounds_toArray, List.set_cons_zero, List.set_cons_succ, i64_w, i32_w]
                  rfl
                refine pure_ (i := 6) (N := some 63) (v := undef) (a' := ?_) #[true, true, true, true, true, true, true, false, false, false, false, false, false, false, false, false, false, false, false, false, false, false, false, false, false, false, false, false, false, false, false] rfl rfl (by kernel_rfl) (fun _ _ _ h => h) (Or.inr ⟨by rfl, rfl⟩) ?_ ?_
                rotate_left
                · simp only [Act.put, List.setIfInBounds_toArray, List.set_cons_zero, List.set_cons_succ, i64_w, i32_w]
                  rfl
                refine pure_ (i := 7) (N := some 64) (v := undef) (a' := ?_) #[true, true, true, true, true, true, true, true, false, false, false, false, false, false, false, false, false, false, false, false, false, false, false, false, false, false, false, false, false, false, false] rfl rfl (by kernel_rfl) (fun _ _ _ h => h) (Or.inr ⟨by rfl, rfl⟩) ?_ ?_
                rotate_left
                · simp only [Act.put, List.setIfInBounds_toArray, List.set_cons_zero, List.set_cons_succ, i64_w, i32_w]
                  rfl
                refine pure_ (i := 8) (N := some 65) (v := ?_) (a' := ?_) #[true, true, true, true, true, true, true, true, true, false, false, false, false, false, false, false, false, false, false, false, false, false, false, false, false, false, false, false, false, false, false] rfl rfl (by kernel_rfl) (fun _ _ _ h => h) (Or.inl ⟨by rfl, ?_⟩) ?_ ?_
                rotate_left
                · intro w'
                  go_simp
                  with_reducible rfl
                rotate_left
                · simp only [Act.put, List.setIfInBounds_toArray, List.set_cons_zero, List.set_cons_succ, i64_w, i32_w]
                  rfl
                refine pure_ (i := 9) (N := some 66) (v := ?_) (a' := ?_) #[true, true, true, true, true, true, true, true, true, true, false, false, false, false, false, false, false, false, false, false, false, false, false, false, false, false, false, false, false, false, false] rfl rfl (by kernel_rfl) (fun _ _ _ h => h) (Or.inl ⟨by rfl, ?_⟩) ?_ ?_
                rotate_left
                · intro w'
                  go_simp
                  with_reducible rfl
                rotate_left
                · simp only [Act.put, List.setIfInBounds_toArray, List.set_cons_zero, List.set_cons_succ, i64_w, i32_w]
                  rfl
                refine pure_ (i := 10) (N := some 67) (v := ?_) (a' := ?_) #[true, true, true, true, true, true, true, true, true, true, true, false, false, false, false, false, false, false, false, false, false, false, false, false, false, false, false, false, false, false, false] rfl rfl (by kernel_rfl) (fun _ _ _ h => h) (Or.inl ⟨by rfl, ?_⟩) ?_ ?_
                rotate_left
                · intro w'
                  go_simp
                  with_reducible rfl
                rotate_left
                · simp only [Act.put, List.setIfInBounds_toArray, List.set_cons_zero, List.set_cons_succ, i64_w, i32_w]
                  rfl
                refine pure_ (i := 11) (N := some 68) (v := ?_) (a' := ?_) #[true, true, true, true, true, true, true, true, true, true, true, true, false, false, false, false, false, false, false, false, false, false, false, false, false, false, false, false, false, false, false] rfl rfl (by kernel_rfl) (fun _ _ _ h => h) (Or.inl ⟨by rfl, ?_⟩) ?_ ?_
                rotate_left
                · intro w'
                  go_simp
                  with_reducible rfl
                rotate_left
                · simp only [Act.put, List.setIfInBounds_toArray, List.set_cons_zero, List.set_cons_succ, i64_w, i32_w]
                  rfl
                refine pure_ (i := 12) (N := some 69) (v := ?_) (a' := ?_) #[true, true, true, true, true, true, true, true, true, true, true, true, true, false, false, false, false, false, false, false, false, false, false, false, false, false, false, false, false, false, false] rfl rfl (by kernel_rfl) (fun _ _ _ h => h) (Or.inl ⟨by rfl, ?_⟩) ?_ ?_
                rotate_left
                · intro w'
                  go_simp
                  with_reducible rfl
                rotate_left
                · simp only [Act.put, List.setIfInBounds_toArray, List.set_cons_zero, List.set_cons_succ, i64_w, i32_w]
                  rfl
                refine pure_ (i := 13) (N := some 70) (v := undef) (a' := ?_) #[true, true, true, true, true, true, true, true, true, true, true, true, true, true, false, false, false, false, false, false, false, false, false, false, false, false, false, false, false, false, false] rfl rfl (by kernel_rfl) (fun _ _ _ h => h) (Or.inr ⟨by rfl, rfl⟩) ?_ ?_
                rotate_left
                · simp only [Act.put, List.setIfInBounds_toArray, List.set_cons_zero, List.set_cons_succ, i64_w, i32_w]
                  rfl
                refine pure_ (i := 14) (N := some 71) (v := undef) (a' := ?_) #[true, true, true, true, true, true, true, true, true, true, true, true, true, true, true, false, false, false, false, false, false, false, false, false, false, false, false, false, false, false, false] rfl rfl (by kernel_rfl) (fun _ _ _ h => h) (Or.inr ⟨by rfl, rfl⟩) ?_ ?_
                rotate_left
                · simp only [Act.put, List.setIfInBounds_toArray, List.set_cons_zero, List.set_cons_succ, i64_w, i32_w]
                  rfl
                refine pure_ (i := 15) (N := some 72) (v := ?_) (a' := ?_) #[true, true, true, true, true, true, true, true, true, true, true, true, true, true, true, true, false, false, false, false, false, false, false, false, false, false, false, false, false, false, false] rfl rfl (by kernel_rfl) (fun _ _ _ h => h) (Or.inl ⟨by rfl, ?_⟩) ?_ ?_
                rotate_left
                · intro w'
                  go_simp
                  with_reducible rfl
                rotate_left
                · simp only [Act.put, List.setIfInBounds_toArray, List.set_cons_zero, List.set_cons_succ, i64_w, i32_w]
                  rfl
                refine pure_ (i := 16) (N := some 73) (v := ?_) (a' := ?_) #[true, true, true, true, true, true, true, true, true, true, true, true, true, true, true, true, true, false, false, false, false, false, false, false, false, false, false, false, false, false, false] rfl rfl (by kernel_rfl) (fun _ _ _ h => h) (Or.inl ⟨by rfl, ?_⟩) ?_ ?_
                rotate_left
                · intro w'
                  go_simp
                  with_reducible rfl
                rotate_left
                · simp only [Act.put, List.setIfInBounds_toArray, List.set_cons_zero, List.set_cons_succ, i64_w, i32_w]
                  rfl
                refine pure_ (i := 17) (N := some 74) (v := ?_) (a' := ?_) #[true, true, true, true, true, true, true, true, true, true, true, true, true, true, true, true, true, true, false, false, false, false, false, false, false, false, false, false, false, false, false] rfl rfl (by kernel_rfl) (fun _ _ _ h => h) (Or.inl ⟨by rfl, ?_⟩) ?_ ?_
                rotate_left
                · intro w'
                  go_simp
                  with_reducible rfl
                rotate_left
                · simp only [Act.put, List.setIfInBounds_toArray, List.set_cons_zero, List.set_cons_succ, i64_w, i32_w]
                  rfl
                refine pure_ (i := 18) (N := some 75) (v := ?_) (a' := ?_) #[true, true, true, true, true, true, true, true, true, true, true, true, true, true, true, true, true, true, true, false, false, false, false, false, false, false, false, false, false, false, false] rfl rfl (by kernel_rfl) (fun _ _ _ h => h) (Or.inl ⟨by rfl, ?_⟩) ?_ ?_
                rotate_left
                · intro w'
                  go_simp
                  with_reducible rfl
                rotate_left
                · simp only [Act.put, List.setIfInBounds_toArray, List.set_cons_zero, List.set_cons_succ, i64_w, i32_w]
                  rfl
                refine pure_ (i := 19) (N := some 76) (v := ?_) (a' := ?_) #[true, true, true, true, true, true, true, true, true, true, true, true, true, true, true, true, true, true, true, true, false, false, false, false, false, false, false, false, false, false, false] rfl rfl (by kernel_rfl) (fun _ _ _ h => h) (Or.inl ⟨by rfl, ?_⟩) ?_ ?_
                rotate_left
                · intro w'
                  go_simp
                  with_reducible rfl
                rotate_left
                · simp only [Act.put, List.setIfInBounds_toArray, List.set_cons_zero, List.set_cons_succ, i64_w, i32_w]
                  rfl
                refine take_ (i := 20) (N := some 77) (v := ?_) (a' := ?_) #[true, true, true, true, true, true, true, true, true, true, true, true, true, true, true, true, true, true, true, true, true, false, false, false, false, false, false, false, false, false, false] rfl rfl (by kernel_rfl) (fun _ _ _ h => h) (Or.inl ⟨by rfl, ?_⟩) hHeld ?_ ?_
                rotate_left
                · rintro w' ⟨s0, s1, s2⟩
                  go_simp
                  with_reducible rfl
                rotate_left
                · simp only [Act.put, List.setIfInBounds_toArray, List.set_cons_zero, List.set_cons_succ, i64_w, i32_w]
                  rfl
                refine pure_ (i := 21) (N := some 78) (v := ?_) (a' := ?_) #[true, true, true, true, true, true, true, true, true, true, true, true, true, true, true, true, true, true, true, true, true, true, false, false, false, false, false, false, false, false, false] rfl rfl (by kernel_rfl) (fun _ _ _ h => h) (Or.inl ⟨by rfl, ?_⟩) ?_ ?_
                rotate_left
                · intro w'
                  go_simp
                  with_reducible rfl
                rotate_left
                · simp only [Act.put, List.setIfInBounds_toArray, List.set_cons_zero, List.set_cons_succ, i64_w, i32_w]
                  rfl
                refine pure_ (i := 22) (N := some 79) (v := ?_) (a' := ?_) #[true, true, true, true, true, true, true, true, true, true, true, true, true, true, true, true, true, true, true, true, true, true, true, false, false, false, false, false, false, false, false] rfl rfl (by kernel_rfl) (fun _ _ _ h => h) (Or.inl ⟨by rfl, ?_⟩) ?_ ?_
                rotate_left
                · intro w'
                  go_simp
                  with_reducible rfl
                rotate_left
                · simp only [Act.put, List.setIfInBounds_toArray, List.set_cons_zero, List.set_cons_succ, i64_w, i32_w]
                  rfl
                refine pure_ (i := 23) (N := some 80) (v := ?_) (a' := ?_) #[true, true, true, true, true, true, true, true, true, true, true, true, true, true, true, true, true, true, true, true, true, true, true, true, false, false, false, false, false, false, false] rfl rfl (by kernel_rfl) (fun _ _ _ h => h) (Or.inl ⟨by rfl, ?_⟩) ?_ ?_
                rotate_left
                · intro w'
                  go_simp
                  with_reducible rfl
                rotate_left
                · simp only [Act.put, List.setIfInBounds_toArray, List.set_cons_zero, List.set_cons_succ, i64_w, i32_w]
                  rfl
                refine pure_ (i := 25) (N := some 82) (v := ?_) (a' := ?_) #[true, true, true, true, true, true, true, true, true, true, true, true, true, true, true, true, true, true, true, true, true, true, true, true, false, true, false, false, false, false, false] rfl rfl (by kernel_rfl) (fun _ _ _ h => h) (Or.inl ⟨by rfl, ?_⟩) ?_ ?_
                rotate_left
                · intro w'
                  go_simp
                  with_reducible rfl
                rotate_left
                · simp only [Act.put, List.setIfInBounds_toArray, List.set_cons_zero, List.set_cons_succ, i64_w, i32_w]
                  rfl
                refine pure_ (i := 26) (N := some 83) (v := ?_) (a' := ?_) #[true, true, true, true, true, true, true, true, true, true, true, true, true, true, true, true, true, true, true, true, true, true, true, true, false, true, true, false, false, false, false] rfl rfl (by kernel_rfl) (fun _ _ _ h => h) (Or.inl ⟨by rfl, ?_⟩) ?_ ?_
                rotate_left
                · intro w'
                  go_simp
                  with_reducible rfl
                rotate_left
                · simp only [Act.put, List.setIfInBounds_toArray, List.set_cons_zero, List.set_cons_succ, i64_w, i32_w]
                  rfl
                refine pure_ (i := 27) (N := some 84) (v := ?_) (a' := ?_) #[true, true, true, true, true, true, true, true, true, true, true, true, true, true, true, true, true, true, true, true, true, true, true, true, false, true, true, true, false, false, false] rfl rfl (by kernel_rfl) (fun _ _ _ h => h) (Or.inl ⟨by rfl, ?_⟩) ?_ ?_
                rotate_left
                · intro w'
                  go_simp
                  with_reducible rfl
                rotate_left
                · simp only [Act.put, List.setIfInBounds_toArray, List.set_cons_zero, List.set_cons_succ, i64_w, i32_w]
                  rfl
                refine take_ (i := 24) (N := some 81) (v := ?_) (a' := ?_) #[true, true, true, true, true, true, true, true, true, true, true, true, true, true, true, true, true, true, true, true, true, true, true, true, true, true, true, true, false, false, false] rfl rfl (by kernel_rfl) (fun _ _ _ h => h) (Or.inl ⟨by rfl, ?_⟩) hHeld ?_ ?_
                rotate_left
                · rintro w' ⟨s0, s1, s2⟩
                  go_simp
                  with_reducible rfl
                rotate_left
                · simp only [Act.put, List.setIfInBounds_toArray, List.set_cons_zero, List.set_cons_succ, i64_w, i32_w]
                  rfl
                refine take_ (i := 28) (N := some 85) (v := ?_) (a' := ?_) #[true, true, true, true, true, true, true, true, true, true, true, true, true, true, true, true, true, true, true, true, true, true, true, true, true, true, true, true, true, false, false] rfl rfl (by kernel_rfl) (fun _ _ _ h => h) (Or.inl ⟨by rfl, ?_⟩) hHeld ?_ ?_
                rotate_left
                · rintro w' ⟨s0, s1, s2⟩
                  go_simp
                  with_reducible rfl
                rotate_left
                · simp only [Act.put, List.setIfInBounds_toArray, List.set_cons_zero, List.set_cons_succ, i64_w, i32_w]
                  rfl
                refine one_ (i := 29) (N := some 86) #[true, true, true, true, true, true, true, true, true, true, true, true, true, true, true, true, true, true, true, true, true, true, true, true, true, true, true, true, true, true, false] rfl rfl (by kernel_rfl) (by decide) (fun K hK => ?_)
                refine goes_ Try.func41 (by kernel_rfl) rfl #[.agg #[.int .u8 e, .int .u32 (s : Int)], .int .i64 x] (by rfl) rfl rfl (by (try simp only [List.map_toArray, List.map_cons, List.map_nil]); first | done | rfl) ?_
                refine (pack_TooLarge.calls e (s : Int) x false _ hTL.out).mono ?_
                rintro ee wq ⟨rfl, hbq⟩
                refine ⟨_, rfl, ?_⟩
                have hS := Aside0.mk (hS.out.below hbq)
                clear hbq
                refine hK.out _ _ ⟨(hS.out.pick1.cell 0).trans rfl, (hS.out.pick1.cell 1).trans rfl, hEl.out _ hS.out.1⟩ (fun hHeld => ?_)
                clear hK K
                refine norm_ (a' := ?_) ?_ ?_
                rotate_left
                · show Act.put _ (some 86) _ = _
                  simp only [Act.put, List.setIfInBounds_toArray, List.set_cons_zero, List.set_cons_succ, i64_w, i32_w]
                  rfl
                refine pure_ (i := 30) (N := some 87) (v := ?_) (a' := ?_) #[true, true, true, true, true, true, true, true, true, true, true, true, true, true, true, true, true, true, true, true, true, true, true, true, true, true, true, true, true, true, true] rfl rfl (by kernel_rfl) (fun _ _ _ h => h) (Or.inl ⟨by rfl, ?_⟩) ?_ ?_
                rotate_left
                · intro w'
                  go_simp
                  with_reducible rfl
                rotate_left
                · simp only [Act.put, List.setIfInBounds_toArray, List.set_cons_zero, List.set_cons_succ, i64_w, i32_w]
                  rfl
                refine done_ (by kernel_rfl) ?_
                clear hc_0 hc_1 hel
                have hc_0 : wq.cell? ⟨w.heap.size, 0, none⟩ = some (.int .u8 e) := (hS.out.pick1.cell 0).trans rfl
                have hc_1 : wq.cell? ⟨w.heap.size, 1, none⟩ = some (.int .u32 (s : Int)) := (hS.out.pick1.cell 1).trans rfl
                have hel : wq.cell? (ad0.add i) = some (.int .i64 x) := hEl.out _ hS.out.1
                go_upto_region 20 with (fail)
                have hS := Aside0.mk hS.out.drew
                clear hc_0 hc_1 hel
                have hc_0 : wq.drew.cell? ⟨w.heap.size, 0, none⟩ = some (.int .u8 e) := (hS.out.pick1.cell 0).trans rfl
                have hc_1 : wq.drew.cell? ⟨w.heap.size, 1, none⟩ = some (.int .u32 (s : Int)) := (hS.out.pick1.cell 1).trans rfl
                have hel : wq.drew.cell? (ad0.add i) = some (.int .i64 x) := hEl.out _ hS.out.1
                go_wp2_with (fail)
                refine start_ (n := 7) (S := fun w' => w'.cell? ⟨w.heap.size, 0, none⟩ = some (.int .u8 e) ∧ w'.cell? ⟨w.heap.size, 1, none⟩ = some (.int .u32 (s : Int)) ∧ w'.cell? (ad0.add i) = some (.int .i64 x)) (ds := []) #[false, false, false, false, false, false, false] (by kernel_rfl) rfl rfl ⟨hc_0, hc_1, hel⟩ (fun hHeld => ?_)
                obtain ⟨wz, hwz⟩ : ∃ wz, wq.drew = wz := ⟨_, rfl⟩
                rw [hwz] at hS hHeld ⊢
                clear hc_0 hc_1 hel
                clear hwz
                refine pure_ (i := 0) (N := some 121) (v := ?_) (a' := ?_) #[true, false, false, false, false, false, false] rfl rfl (by kernel_rfl) (fun _ _ _ h => h) (Or.inl ⟨by rfl, ?_⟩) ?_ ?_
                rotate_left
                · intro w'
                  go_simp
                  with_reducible rfl
                rotate_left
                · simp only [Act.put, List.setIfInBounds_toArray, List.set_cons_zero, List.set_cons_succ, i64_w, i32_w]
                  rfl
                refine pure_ (i := 1) (N := some 122) (v := ?_) (a' := ?_) #[true, true, false, false, false, false, false] rfl rfl (by kernel_rfl) (fun _ _ _ h => h) (Or.inl ⟨by rfl, ?_⟩) ?_ ?_
                rotate_left
                · intro w'
                  go_simp
                  with_reducible rfl
                rotate_left
                · simp only [Act.put, List.setIfInBounds_toArray, List.set_cons_zero, List.set_cons_succ, i64_w, i32_w]
                  rfl
                refine take_ (i := 4) (N := some 125) (v := ?_) (a' := ?_) #[true, true, false, false, true, false, false] rfl rfl (by kernel_rfl) (fun _ _ _ h => h) (Or.inl ⟨by rfl, ?_⟩) hHeld ?_ ?_
                rotate_left
                · rintro w' ⟨s0, s1, s2⟩
                  go_simp
                  with_reducible rfl
                rotate_left
                · simp only [Act.put, List.setIfInBounds_toArray, List.set_cons_zero, List.set_cons_succ, i64_w, i32_w]
                  rfl
                refine one_ (i := 2) (N := some 123) #[true, true, true, false, true, false, false] rfl rfl (by kernel_rfl) (by decide) (fun K hK => ?_)
                refine goes_ Try.func42 (by kernel_rfl) rfl #[.int .i64 (c + 1)] (by rfl) rfl rfl (by (try simp only [List.map_toArray, List.map_cons, List.map_nil]); first | done | rfl) ?_
                refine (footer_Most.calls _ _ _ hMo.out).mono ?_
                rintro ee wz ⟨rfl, hbz⟩
                refine ⟨_, rfl, ?_⟩
                have hS := Aside0.mk (hS.out.below hbz)
                clear hbz
                refine hK.out _ _ ⟨(hS.out.pick1.cell 0).trans rfl, (hS.out.pick1.cell 1).trans rfl, hEl.out _ hS.out.1⟩ (fun hHeld => ?_)
                clear hK K
                refine norm_ (a' := ?_) ?_ ?_
                rotate_left
                · show Act.put _ (some 123) _ = _
                  simp only [Act.put, List.setIfInBounds_toArray, List.set_cons_zero, List.set_cons_succ, i64_w, i32_w]
                  rfl
                refine pure_ (i := 3) (N := some 124) (v := ?_) (a' := ?_) #[true, true, true, true, true, false, false] rfl rfl (by kernel_rfl) (fun _ _ _ h => h) (Or.inl ⟨by rfl, ?_⟩) ?_ ?_
                rotate_left
                · intro w'
                  go_simp
                  with_reducible rfl
                rotate_left
                · simp only [Act.put, List.setIfInBounds_toArray, List.set_cons_zero, List.set_cons_succ, i64_w, i32_w]
                  rfl
                refine one_ (i := 5) (N := some 126) #[true, true, true, true, true, true, false] rfl rfl (by kernel_rfl) (by decide) (fun K hK => ?_)
                refine goes_ Try.func43 (by kernel_rfl) rfl #[.agg #[.int .u8 e, .int .u32 (s : Int)]] (by rfl) rfl rfl (by (try simp only [List.map_toArray, List.map_cons, List.map_nil]); first | done | rfl) ?_
                refine (config_Size.calls e (s : Int) S _ hSz.out).mono ?_
                rintro ee wz ⟨rfl, hbz⟩
                refine ⟨_, rfl, ?_⟩
                have hS := Aside0.mk (hS.out.below hbz)
                clear hbz
                refine hK.out _ _ ⟨(hS.out.pick1.cell 0).trans rfl, (hS.out.pick1.cell 1).trans rfl, hEl.out _ hS.out.1⟩ (fun hHeld => ?_)
                clear hK K
                refine norm_ (a' := ?_) ?_ ?_
                rotate_left
                · show Act.put _ (some 126) _ = _
                  simp only [Act.put, List.setIfInBounds_toArray, List.set_cons_zero, List.set_cons_succ, i64_w, i32_w]
                  rfl
                refine pure_ (i := 6) (N := some 127) (v := ?_) (a' := ?_) #[true, true, true, true, true, true, true] rfl rfl (by kernel_rfl) (fun _ _ _ h => h) (Or.inl ⟨by rfl, ?_⟩) ?_ ?_
                rotate_left
                · intro w'
                  go_simp
                  with_reducible rfl
                rotate_left
                · simp only [Act.put, List.setIfInBounds_toArray, List.set_cons_zero, List.set_cons_succ, i64_w, i32_w]
                  rfl
                refine done_ (by kernel_rfl) ?_
                have hc_0 : wz.cell? ⟨w.heap.size, 0, none⟩ = some (.int .u8 e) := (hS.out.pick1.cell 0).trans rfl
                have hc_1 : wz.cell? ⟨w.heap.size, 1, none⟩ = some (.int .u32 (s : Int)) := (hS.out.pick1.cell 1).trans rfl
                have hel : wz.cell? (ad0.add i) = some (.int .i64 x) := hEl.out _ hS.out.1
                clear hc_0 hc_1 hel
                go_wp2_with (fail)
                go_roundg kk
                case measure => omega
                case rel => exact ⟨i + 1, n, u + x, c + 1, by first | rfl | rw [wu] | rw [wh], by first | rfl | rw [wc], by first | rfl | simp [wi1] | simp, hnew, hS⟩
            · obtain ⟨t1, t2, t3⟩ := take_of_prefix (planm_prefix S s _ _ _ _ _ _ f3).1 hol
              rw [t3] at hy0
              have hle1 := HL_le (s := s) (show n ≤ s - 1 by omega)
              have hle2 := HL_le (s := s) (show n + 1 ≤ s - 1 by omega)
              have hc0 : c ≠ 0 := fun h => by
                subst h
                rw [a6 rfl, fits_le (c := 0) f1 (by omega)] at f2
                cases f2
              have hf3 : fitsb S (HL s (n + 1)) 0 x = true := fits_le (c := 0) f1 (by omega)
              have hfm := of_decide_eq_true hf3
              have hfn := of_decide_eq_false f2
              have hus := fits_used hf3 (by omega)
              obtain ⟨m, hm⟩ : ∃ m, n + 1 = m := ⟨_, rfl⟩
              rw [hm] at hy0 f3 t1 t3 hle2 hf3 hfm hus f4
              have hm1 := most_pos (n := c + 1) (by omega)
              have hm2 := most_pos (n := (1 : Int)) (by omega)
              have hMo := Aside0.mk (LPack.most_f (n := c + 1) (by omega) (by omega))
              have hMo1 : Aside0 (footer_Most.f 1 = some (most 1)) := ⟨LPack.most_f (n := 1) (by omega) (by omega)⟩
              rw [Int.zero_add] at hfm
              obtain ⟨mo, hmo⟩ : ∃ mo, most (c + 1) = mo := ⟨_, rfl⟩
              rw [hmo] at hMo hfn hm1
              obtain ⟨mo1, hmo1⟩ : ∃ mo1, most 1 = mo1 := ⟨_, rfl⟩
              rw [hmo1] at hMo1 hfm hm2
              obtain ⟨kh2, hkh2⟩ := (head_ev e s m (by omega) (by omega) (by omega) (by omega)).rounds
              have hkh2 := Aside0.mk hkh2
              have hszm : (strOfNums (sealed (hbody e s m) ++ [0])).size = HL s m := by rw [nums_size, head_len e s m (by omega) (by omega)]
              obtain ⟨HM, hHM⟩ : ∃ HM, strOfNums (sealed (hbody e s m) ++ [0]) = HM := ⟨_, rfl⟩
              rw [hHM] at hszm hkh2
              rw [← hszm] at f3 hfm hus hle2
              have hHs : HM.size ≤ 23 := by rw [hszm]; exact HL_small (by omega) (by omega)
              have wu := Aside0.mk (show wrap64 (u + x) = u + x from w64 (by omega) (by omega))
              have wc := Aside0.mk (show wrap64 (c + 1) = c + 1 from w64 (by omega) (by omega))
              have wum := Aside0.mk (show wrap64 (u + x + mo) = u + x + mo from w64 (by omega) (by omega))
              have dle : decide (u + x + mo ≤ S) = false := decide_eq_false (by omega)
              have wh := Aside0.mk (show wrap64 ((HM.size : Int) + x) = (HM.size : Int) + x from w64 (by omega) (by omega))
              have whm := Aside0.mk (show wrap64 ((HM.size : Int) + x + mo1) = (HM.size : Int) + x + mo1 from w64 (by omega) (by omega))
              have dfin : decide ((HM.size : Int) + x + mo1 > S) = false := decide_eq_false (by omega)
              have dle2 := Aside0.mk (show decide (wrap64 (wrap64 (u + x) + mo) ≤ S) = false from by rw [wu.out, wum.out]; exact dle)
              have hcz : (c == 0) = false := beq_eq_false_iff_ne.2 hc0
              have hcz2 : decide (c = 0) = false := decide_eq_false hc0
              have wm := Aside0.mk (show IntKind.u64.wrap (m : Int) = (m : Int) from wu64 (by omega) (by omega))
              have hne : ((m : Int) != (n : Int)) = true := bne_iff_ne.2 (by omega)
              have hne2 : decide (m = n) = false := decide_eq_false (by omega)
              have hne3 : (m != n) = true := bne_iff_ne.2 (by omega)
              have hne4 : (m == n) = false := beq_eq_false_iff_ne.2 (by omega)
              have h32 := Aside0.mk (show IntKind.u32.wrap ((n : Int) + 1) = (m : Int) from by rw [IntKind.wrap_u32]; omega)
              have h32b := Aside0.mk (show ((n : Int) + 1) % 4294967296 = (m : Int) from by omega)
              have hsn : decide ((m : Int) ≥ (s : Int)) = false := decide_eq_false (by omega)
              have hsn2 : decide (s ≤ m) = false := decide_eq_false (by omega)
              have hsn3 : decide ((s : Int) ≤ (m : Int)) = false := decide_eq_false (by omega)
              have hi0 : ¬ i = 0 := fun h => by omega
              have hnew : Aside0 (i + 1 + kk = l.length ∧ m < s ∧ 0 ≤ (HM.size : Int) + x ∧ (HM.size : Int) + x ≤ S ∧ 0 ≤ (1 : Int) ∧ (1 : Int) ≤ (i + 1 : Nat) ∧ ((1 : Int) = 0 → (HM.size : Int) + x = HL s m) ∧ (i + 1 = 0 → m = 0) ∧ (∀ h : 0 < i + 1, ∃ h2 : i + 1 - 1 < outs.length, outs[i + 1 - 1] = (m : Int)) ∧ planm S s (l.drop (i + 1)) m ((HM.size : Int) + x) 1 (outs.take (i + 1)) = (outs, 0)) :=
                ⟨by omega, f4, by omega, hus.1, by omega, by omega, fun h => by omega, fun h => by omega, fun h => ⟨t2, t3⟩, by rw [t1]; exact f3⟩
              have g1 : decide ((i : Int) > 0) = true := decide_eq_true (by omega)
              have g2 : decide (0 < i) = true := decide_eq_true (by omega)
              have g3 : ((i : Int) == 0) = false := beq_eq_false_iff_ne.2 (by omega)
              have g4 : decide (i = 0) = false := decide_eq_false hi0
              have g5 : (i == 0) = false := beq_eq_false_iff_ne.2 hi0
              have hpv := hprev (by omega)
              have wi0 := Aside0.mk (show wrap64 ((i : Int) - 1) = ((i - 1 : Nat) : Int) from by rw [w64 (by omega) (by omega)]; omega)
              have p1 : ((0 : Int) ≤ ((i - 1 : Nat) : Int)) = True := eq_true (by omega)
              have q2 : (((i - 1 : Nat) : Int) < (outs.length : Int)) = True := eq_true (by omega)
              have p1' : ((1 : Int) ≤ (i : Int)) = True := eq_true (by omega)
              clear a0 a1 a2 a3 a4 a5 a6 a7 a8 a9 hprev f1 f2 f3 f4 t1 t2 t3 hus hfm hfn hm1 hm2 hSb hsb hll hio hol hx1 hxe hi0 hTLx hmo hmo1 hle1 hle2 hf3 hc0 hm hHM hHs hszm
              have wi1 := wi1.out
              have wi0 := wi0.out
              have wu := wu.out
              have wc := wc.out
              have wum := wum.out
              have wh := wh.out
              have whm := whm.out
              have wm := wm.out
              have dle2 := dle2.out
              have h32 := h32.out
              have h32b := h32b.out
              have hc_0 : wr.cell? ⟨w.heap.size, 0, none⟩ = some (.int .u8 e) := (hS.out.pick1.cell 0).trans rfl
              have hc_1 : wr.cell? ⟨w.heap.size, 1, none⟩ = some (.int .u32 (s : Int)) := (hS.out.pick1.cell 1).trans rfl
              have hel : wr.cell? (ad0.add i) = some (.int .i64 x) := hEl.out _ hS.out.1
              go_upto_region 13 with (fail)
              have hS := Aside0.mk hS.out.drew
              clear hc_0 hc_1 hel
              have hc_0 : wr.drew.cell? ⟨w.heap.size, 0, none⟩ = some (.int .u8 e) := (hS.out.pick1.cell 0).trans rfl
              have hc_1 : wr.drew.cell? ⟨w.heap.size, 1, none⟩ = some (.int .u32 (s : Int)) := (hS.out.pick1.cell 1).trans rfl
              have hel : wr.drew.cell? (ad0.add i) = some (.int .i64 x) := hEl.out _ hS.out.1
              go_wp2_with (fail)
              refine start_ (n := 31) (S := fun w' => w'.cell? ⟨w.heap.size, 0, none⟩ = some (.int .u8 e) ∧ w'.cell? ⟨w.heap.size, 1, none⟩ = some (.int .u32 (s : Int)) ∧ w'.cell? (ad0.add i) = some (.int .i64 x)) (ds := []) #[false, false, false, false, false, false, false, false, false, false, false, false, false, false, false, false, false, false, false, false, false, false, false, false, false, false, false, false, false, false, false] (by kernel_rfl) rfl rfl ⟨hc_0, hc_1, hel⟩ (fun hHeld => ?_)
              refine pure_ (i := 0) (N := some 57) (v := ?_) (a' := ?_) #[true, false, false, false, false, false, false, false, false, false, false, false, false, false, false, false, false, false, false, false, false, false, false, false, false, false, false, false, false, false, false] rfl rfl (by kernel_rfl) (fun _ _ _ h => h) (Or.inl ⟨by rfl, ?_⟩) ?_ ?_
              rotate_left
              · intro w'
                go_simp
                with_reducible rfl
              rotate_left
              · simp only [Act.put, List.setIfInBounds_toArray, List.set_cons_zero, List.set_cons_succ, i64_w, i32_w]
                rfl
              refine pure_ (i := 1) (N := some 58) (v := ?_) (a' := ?_) #[true, true, false, false, false, false, false, false, false, false, false, false, false, false, false, false, false, false, false, false, false, false, false, false, false, false, false, false, false, false, false] rfl rfl (by kernel_rfl) (fun _ _ _ h => h) (Or.inl ⟨by rfl, ?_⟩) ?_ ?_
              rotate_left
              · intro w'
                go_simp
                with_reducible rfl
              rotate_left
              · simp only [Act.put, List.setIfInBounds_toArray, List.set_cons_zero, List.set_cons_succ, i64_w, i32_w]
                rfl
              refine pure_ (i := 2) (N := some 59) (v := ?_) (a' := ?_) #[true, true, true, false, false, false, false, false, false, false, false, false, false, false, false, false, false, false, false, false, false, false, false, false, false, false, false, false, false, false, false] rfl rfl (by kernel_rfl) (fun _ _ _ h => h) (Or.inl ⟨by rfl, ?_⟩) ?_ ?_
              rotate_left
              · intro w'
                go_simp
                with_reducible rfl
              rotate_left
              · simp only [Act.put, List.setIfInBounds_toArray, List.set_cons_zero, List.set_cons_succ, i64_w, i32_w]
                rfl
              refine pure_ (i := 3) (N := some 60) (v := ?_) (a' := ?_) #[true, true, true, true, false, false, false, false, false, false, false, false, false, false, false, false, false, false, false, false, false, false, false, false, false, false, false, false, false, false, false] rfl rfl (by kernel_rfl) (fun _ _ _ h => h) (Or.inl ⟨by rfl, ?_⟩) ?_ ?_
              rotate_left
              · intro w'
                go_simp
                with_reducible rfl
              rotate_left
              · simp only [Act.put, List.setIfInBounds_toArray, List.set_cons_zero, List.set_cons_succ, i64_w, i32_w]
                rfl
              refine pure_ (i := 4) (N := some 61) (v := ?_) (a' := ?_) #[true, true, true, true, true, false, false, false, false, false, false, false, false, false, false, false, false, false, false, false, false, false, false, false, false, false, false, false, false, false, false] rfl rfl (by kernel_rfl) (fun _ _ _ h => h) (Or.inl ⟨by rfl, ?_⟩) ?_ ?_
              rotate_left
              · intro w'
                go_simp
                with_reducible rfl
              rotate_left
              · simp only [Act.put, List.setIfInBounds_toArray, List.set_cons_zero, List.set_cons_succ, i64_w, i32_w]
                rfl
              refine pure_ (i := 5) (N := some 62) (v := ?_) (a' := ?_) #[true, true, true, true, true, true, false, false, false, false, false, false, false, false, false, false, false, false, false, false, false, false, false, false, false, false, false, false, false, false, false] rfl rfl (by kernel_rfl) (fun _ _ _ h => h) (Or.inl ⟨by rfl, ?_⟩) ?_ ?_
              rotate_left
              · intro w'
                go_simp
                with_reducible rfl
              rotate_left
              · simp only [Act.put, List.setIfInBounds_toArray, List.set_cons_zero, List.set_cons_succ, i64_w, i32_w]
                rfl
              refine pure_ (i := 6) (N := some 63) (v := ?_) (a' := ?_) #[true, true, true, true, true, true, true, false, false, false, false, false, false, false, false, false, false, false, false, false, false, false, false, false, false, false, false, false, false, false, false] rfl rfl (by kernel_rfl) (fun _ _ _ h => h) (Or.inl ⟨by rfl, ?_⟩) ?_ ?_
              rotate_left
              · intro w'
                go_simp
                with_reducible rfl
              rotate_left
              · simp only [Act.put, List.setIfInBounds_toArray, List.set_cons_zero, List.set_cons_succ, i64_w, i32_w]
                rfl
              refine pure_ (i := 7) (N := some 64) (v := ?_) (a' := ?_) #[true, true, true, true, true, true, true, true, false, false, false, false, false, false, false, false, false, false, false, false, false, false, false, false, false, false, false, false, false, false, false] rfl rfl (by kernel_rfl) (fun _ _ _ h => h) (Or.inl ⟨by rfl, ?_⟩) ?_ ?_
              rotate_left
              · intro w'
                go_simp
                with_reducible rfl
              rotate_left
              · simp only [Act.put, List.setIfInBounds_toArray, List.set_cons_zero, List.set_cons_succ, i64_w, i32_w]
                rfl
              refine pure_ (i := 8) (N := some 65) (v := ?_) (a' := ?_) #[true, true, true, true, true, true, true, true, true, false, false, false, false, false, false, false, false, false, false, false, false, false, false, false, false, false, false, false, false, false, false] rfl rfl (by kernel_rfl) (fun _ _ _ h => h) (Or.inl ⟨by rfl, ?_⟩) ?_ ?_
              rotate_left
              · intro w'
                go_simp
                with_reducible rfl
              rotate_left
              · simp only [Act.put, List.setIfInBounds_toArray, List.set_cons_zero, List.set_cons_succ, i64_w, i32_w]
                rfl
              refine pure_ (i := 9) (N := some 66) (v := ?_) (a' := ?_) #[true, true, true, true, true, true, true, true, true, true, false, false, false, false, false, false, false, false, false, false, false, false, false, false, false, false, false, false, false, false, false] rfl rfl (by kernel_rfl) (fun _ _ _ h => h) (Or.inl ⟨by rfl, ?_⟩) ?_ ?_
              rotate_left
              · intro w'
                go_simp
                with_reducible rfl
              rotate_left
              · simp only [Act.put, List.setIfInBounds_toArray, List.set_cons_zero, List.set_cons_succ, i64_w, i32_w]
                rfl
              refine pure_ (i := 10) (N := some 67) (v := ?_) (a' := ?_) #[true, true, true, true, true, true, true, true, true, true, true, false, false, false, false, false, false, false, false, false, false, false, false, false, false, false, false, false, false, false, false] rfl rfl (by kernel_rfl) (fun _ _ _ h => h) (Or.inl ⟨by rfl, ?_⟩) ?_ ?_
              rotate_left
              · intro w'
                go_simp
                with_reducible rfl
              rotate_left
              · simp only [Act.put, List.setIfInBounds_toArray, List.set_cons_zero, List.set_cons_succ, i64_w, i32_w]
                rfl
              refine pure_ (i := 11) (N := some 68) (v := ?_) (a' := ?_) #[true, true, true, true, true, true, true, true, true, true, true, true, false, false, false, false, false, false, false, false, false, false, false, false, false, false, false, false, false, false, false] rfl rfl (by kernel_rfl) (fun _ _ _ h => h) (Or.inl ⟨by rfl, ?_⟩) ?_ ?_
              rotate_left
              · intro w'
                go_simp
                with_reducible rfl
              rotate_left
              · simp only [Act.put, List.setIfInBounds_toArray, List.set_cons_zero, List.set_cons_succ, i64_w, i32_w]
                rfl
              refine pure_ (i := 12) (N := some 69) (v := ?_) (a' := ?_) #[true, true, true, true, true, true, true, true, true, true, true, true, true, false, false, false, false, false, false, false, false, false, false, false, false, false, false, false, false, false, false] rfl rfl (by kernel_rfl) (fun _ _ _ h => h) (Or.inl ⟨by rfl, ?_⟩) ?_ ?_
              rotate_left
              · intro w'
                go_simp
                with_reducible rfl
              rotate_left
              · simp only [Act.put, List.setIfInBounds_toArray, List.set_cons_zero, List.set_cons_succ, i64_w, i32_w]
                rfl
              refine pure_ (i := 13) (N := some 70) (v := undef) (a' := ?_) #[true, true, true, true, true, true, true, true, true, true, true, true, true, true, false, false, false, false, false, false, false, false, false, false, false, false, false, false, false, false, false] rfl rfl (by kernel_rfl) (fun _ _ _ h => h) (Or.inr ⟨by rfl, rfl⟩) ?_ ?_
              rotate_left
              · simp only [Act.put, List.setIfInBounds_toArray, List.set_cons_zero, List.set_cons_succ, i64_w, i32_w]
                rfl
              refine pure_ (i := 14) (N := some 71) (v := undef) (a' := ?_) #[true, true, true, true, true, true, true, true, true, true, true, true, true, true, true, false, false, false, false, false, false, false, false, false, false, false, false, false, false, false, false] rfl rfl (by kernel_rfl) (fun _ _ _ h => h) (Or.inr ⟨by rfl, rfl⟩) ?_ ?_
              rotate_left
              · simp only [Act.put, List.setIfInBounds_toArray, List.set_cons_zero, List.set_cons_succ, i64_w, i32_w]
                rfl
              refine pure_ (i := 15) (N := some 72) (v := ?_) (a' := ?_) #[true, true, true, true, true, true, true, true, true, true, true, true, true, true, true, true, false, false, false, false, false, false, false, false, false, false, false, false, false, false, false] rfl rfl (by kernel_rfl) (fun _ _ _ h => h) (Or.inl ⟨by rfl, ?_⟩) ?_ ?_
              rotate_left
              · intro w'
                go_simp
                with_reducible rfl
              rotate_left
              · simp only [Act.put, List.setIfInBounds_toArray, List.set_cons_zero, List.set_cons_succ, i64_w, i32_w]
                rfl
              refine pure_ (i := 16) (N := some 73) (v := ?_) (a' := ?_) #[true, true, true, true, true, true, true, true, true, true, true, true, true, true, true, true, true, false, false, false, false, false, false, false, false, false, false, false, false, false, false] rfl rfl (by kernel_rfl) (fun _ _ _ h => h) (Or.inl ⟨by rfl, ?_⟩) ?_ ?_
              rotate_left
              · intro w'
                go_simp
                with_reducible rfl
              rotate_left
              · simp only [Act.put, List.setIfInBounds_toArray, List.set_cons_zero, List.set_cons_succ, i64_w, i32_w]
                rfl
              refine pure_ (i := 17) (N := some 74) (v := ?_) (a' := ?_) #[true, true, true, true, true, true, true, true, true, true, true, true, true, true, true, true, true, true, false, false, false, false, false, false, false, false, false, false, false, false, false] rfl rfl (by kernel_rfl) (fun _ _ _ h => h) (Or.inl ⟨by rfl, ?_⟩) ?_ ?_
              rotate_left
              · intro w'
                go_simp
                with_reducible rfl
              rotate_left
              · simp only [Act.put, List.setIfInBounds_toArray, List.set_cons_zero, List.set_cons_succ, i64_w, i32_w]
                rfl
              refine pure_ (i := 18) (N := some 75) (v := ?_) (a' := ?_) #[true, true, true, true, true, true, true, true, true, true, true, true, true, true, true, true, true, true, true, false, false, false, false, false, false, false, false, false, false, false, false] rfl rfl (by kernel_rfl) (fun _ _ _ h => h) (Or.inl ⟨by rfl, ?_⟩) ?_ ?_
              rotate_left
              · intro w'
                go_simp
                with_reducible rfl
              rotate_left
              · simp only [Act.put, List.setIfInBounds_toArray, List.set_cons_zero, List.set_cons_succ, i64_w, i32_w]
                rfl
              refine pure_ (i := 19) (N := some 76) (v := ?_) (a' := ?_) #[true, true, true, true, true, true, true, true, true, true, true, true, true, true, true, true, true, true, true, true, false, false, false, false, false, false, false, false, false, false, false] rfl rfl (by kernel_rfl) (fun _ _ _ h => h) (Or.inl ⟨by rfl, ?_⟩) ?_ ?_
              rotate_left
              · intro w'
                go_simp
                with_reducible rfl
              rotate_left
              · simp only [Act.put, List.setIfInBounds_toArray, List.set_cons_zero, List.set_cons_succ, i64_w, i32_w]
                rfl
              refine take_ (i := 20) (N := some 77) (v := ?_) (a' := ?_) #[true, true, true, true, true, true, true, true, true, true, true, true, true, true, true, true, true, true, true, true, true, false, false, false, false, false, false, false, false, false, false] rfl rfl (by kernel_rfl) (fun _ _ _ h => h) (Or.inl ⟨by rfl, ?_⟩) hHeld ?_ ?_
              rotate_left
              · rintro w' ⟨s0, s1, s2⟩
                go_simp
                with_reducible rfl
              rotate_left
              · simp only [Act.put, List.setIfInBounds_toArray, List.set_cons_zero, List.set_cons_succ, i64_w, i32_w]
                rfl
              refine pure_ (i := 21) (N := some 78) (v := ?_) (a' := ?_) #[true, true, true, true, true, true, true, true, true, true, true, true, true, true, true, true, true, true, true, true, true, true, false, false, false, false, false, false, false, false, false] rfl rfl (by kernel_rfl) (fun _ _ _ h => h) (Or.inl ⟨by rfl, ?_⟩) ?_ ?_
              rotate_left
              · intro w'
                go_simp
                with_reducible rfl
              rotate_left
              · simp only [Act.put, List.setIfInBounds_toArray, List.set_cons_zero, List.set_cons_succ, i64_w, i32_w]
                rfl
              refine pure_ (i := 22) (N := some 79) (v := ?_) (a' := ?_) #[true, true, true, true, true, true, true, true, true, true, true, true, true, true, true, true, true, true, true, true, true, true, true, false, false, false, false, false, false, false, false] rfl rfl (by kernel_rfl) (fun _ _ _ h => h) (Or.inl ⟨by rfl, ?_⟩) ?_ ?_
              rotate_left
              · intro w'
                go_simp
                with_reducible rfl
              rotate_left
              · simp only [Act.put, List.setIfInBounds_toArray, List.set_cons_zero, List.set_cons_succ, i64_w, i32_w]
                rfl
              refine pure_ (i := 23) (N := some 80) (v := ?_) (a' := ?_) #[true, true, true, true, true, true, true, true, true, true, true, true, true, true, true, true, true, true, true, true, true, true, true, true, false, false, false, false, false, false, false] rfl rfl (by kernel_rfl) (fun _ _ _ h => h) (Or.inl ⟨by rfl, ?_⟩) ?_ ?_
              rotate_left
              · intro w'
                go_simp
                with_reducible rfl
              rotate_left
              · simp only [Act.put, List.setIfInBounds_toArray, List.set_cons_zero, List.set_cons_succ, i64_w, i32_w]
                rfl
              refine pure_ (i := 25) (N := some 82) (v := ?_) (a' := ?_) #[true, true, true, true, true, true, true, true, true, true, true, true, true, true, true, true, true, true, true, true, true, true, true, true, false, true, false, false, false, false, false] rfl rfl (by kernel_rfl) (fun _ _ _ h => h) (Or.inl ⟨by rfl, ?_⟩) ?_ ?_
              rotate_left
              · intro w'
                go_simp
                with_reducible rfl
              rotate_left
              · simp only [Act.put, List.setIfInBounds_toArray, List.set_cons_zero, List.set_cons_succ, i64_w, i32_w]
                rfl
              refine pure_ (i := 26) (N := some 83) (v := ?_) (a' := ?_) #[true, true, true, true, true, true, true, true, true, true, true, true, true, true, true, true, true, true, true, true, true, true, true, true, false, true, true, false, false, false, false] rfl rfl (by kernel_rfl) (fun _ _ _ h => h) (Or.inl ⟨by rfl, ?_⟩) ?_ ?_
              rotate_left
              · intro w'
                go_simp
                with_reducible rfl
              rotate_left
              · simp only [Act.put, List.setIfInBounds_toArray, List.set_cons_zero, List.set_cons_succ, i64_w, i32_w]
                rfl
              refine pure_ (i := 27) (N := some 84) (v := ?_) (a' := ?_) #[true, true, true, true, true, true, true, true, true, true, true, true, true, true, true, true, true, true, true, true, true, true, true, true, false, true, true, true, false, false, false] rfl rfl (by kernel_rfl) (fun _ _ _ h => h) (Or.inl ⟨by rfl, ?_⟩) ?_ ?_
              rotate_left
              · intro w'
                go_simp
                with_reducible rfl
              rotate_left
              · simp only [Act.put, List.setIfInBounds_toArray, List.set_cons_zero, List.set_cons_succ, i64_w, i32_w]
                rfl
              refine take_ (i := 24) (N := some 81) (v := ?_) (a' := ?_) #[true, true, true, true, true, true, true, true, true, true, true, true, true, true, true, true, true, true, true, true, true, true, true, true, true, true, true, true, false, false, false] rfl rfl (by kernel_rfl) (fun _ _ _ h => h) (Or.inl ⟨by rfl, ?_⟩) hHeld ?_ ?_
              rotate_left
              · rintro w' ⟨s0, s1, s2⟩
                go_simp
                with_reducible rfl
              rotate_left
              · simp only [Act.put, List.setIfInBounds_toArray, List.set_cons_zero, List.set_cons_succ, i64_w, i32_w]
                rfl
              refine take_ (i := 28) (N := some 85) (v := ?_) (a' := ?_) #[true, true, true, true, true, true, true, true, true, true, true, true, true, true, true, true, true, true, true, true, true, true, true, true, true, true, true, true, true, false, false] rfl rfl (by kernel_rfl) (fun _ _ _ h => h) (Or.inl ⟨by rfl, ?_⟩) hHeld ?_ ?_
              rotate_left
              · rintro w' ⟨s0, s1, s2⟩
                go_simp
                with_reducible rfl
              rotate_left
              · simp only [Act.put, List.setIfInBounds_toArray, List.set_cons_zero, List.set_cons_succ, i64_w, i32_w]
                rfl
              refine one_ (i := 29) (N := some 86) #[true, true, true, true, true, true, true, true, true, true, true, true, true, true, true, true, true, true, true, true, true, true, true, true, true, true, true, true, true, true, false] rfl rfl (by kernel_rfl) (by decide) (fun K hK => ?_)
              refine goes_ Try.func41 (by kernel_rfl) rfl #[.agg #[.int .u8 e, .int .u32 (s : Int)], .int .i64 x] (by rfl) rfl rfl (by (try simp only [List.map_toArray, List.map_cons, List.map_nil]); first | done | rfl) ?_
              refine (pack_TooLarge.calls e (s : Int) x false _ hTL.out).mono ?_
              rintro ee wq ⟨rfl, hbq⟩
              refine ⟨_, rfl, ?_⟩
              have hS := Aside0.mk (hS.out.below hbq)
              clear hbq
              refine hK.out _ _ ⟨(hS.out.pick1.cell 0).trans rfl, (hS.out.pick1.cell 1).trans rfl, hEl.out _ hS.out.1⟩ (fun hHeld => ?_)
              clear hK K
              refine norm_ (a' := ?_) ?_ ?_
              rotate_left
              · show Act.put _ (some 86) _ = _
                simp only [Act.put, List.setIfInBounds_toArray, List.set_cons_zero, List.set_cons_succ, i64_w, i32_w]
                rfl
              refine pure_ (i := 30) (N := some 87) (v := ?_) (a' := ?_) #[true, true, true, true, true, true, true, true, true, true, true, true, true, true, true, true, true, true, true, true, true, true, true, true, true, true, true, true, true, true, true] rfl rfl (by kernel_rfl) (fun _ _ _ h => h) (Or.inl ⟨by rfl, ?_⟩) ?_ ?_
              rotate_left
              · intro w'
                go_simp
                with_reducible rfl
              rotate_left
              · simp only [Act.put, List.setIfInBounds_toArray, List.set_cons_zero, List.set_cons_succ, i64_w, i32_w]
                rfl
              refine done_ (by kernel_rfl) ?_
              clear hc_0 hc_1 hel
              have hc_0 : wq.cell? ⟨w.heap.size, 0, none⟩ = some (.int .u8 e) := (hS.out.pick1.cell 0).trans rfl
              have hc_1 : wq.cell? ⟨w.heap.size, 1, none⟩ = some (.int .u32 (s : Int)) := (hS.out.pick1.cell 1).trans rfl
              have hel : wq.cell? (ad0.add i) = some (.int .i64 x) := hEl.out _ hS.out.1
              go_upto_region 16 with (fail)
              have hS := Aside0.mk hS.out.drew
              clear hc_0 hc_1 hel
              have hc_0 : wq.drew.cell? ⟨w.heap.size, 0, none⟩ = some (.int .u8 e) := (hS.out.pick1.cell 0).trans rfl
              have hc_1 : wq.drew.cell? ⟨w.heap.size, 1, none⟩ = some (.int .u32 (s : Int)) := (hS.out.pick1.cell 1).trans rfl
              have hel : wq.drew.cell? (ad0.add i) = some (.int .i64 x) := hEl.out _ hS.out.1
              go_wp2_with (fail)
              refine start_ (n := 17) (S := fun w' => w'.cell? ⟨w.heap.size, 0, none⟩ = some (.int .u8 e) ∧ w'.cell? ⟨w.heap.size, 1, none⟩ = some (.int .u32 (s : Int)) ∧ w'.cell? (ad0.add i) = some (.int .i64 x)) (ds := []) #[false, false, false, false, false, false, false, false, false, false, false, false, false, false, false, false, false] (by kernel_rfl) rfl rfl ⟨hc_0, hc_1, hel⟩ (fun hHeld => ?_)
              obtain ⟨wz, hwz⟩ : ∃ wz, wq.drew = wz := ⟨_, rfl⟩
              rw [hwz] at hS hHeld ⊢
              clear hc_0 hc_1 hel
              clear hwz
              refine pure_ (i := 0) (N := some 91) (v := ?_) (a' := ?_) #[true, false, false, false, false, false, false, false, false, false, false, false, false, false, false, false, false] rfl rfl (by kernel_rfl) (fun _ _ _ h => h) (Or.inl ⟨by rfl, ?_⟩) ?_ ?_
              rotate_left
              · intro w'
                go_simp
                with_reducible rfl
              rotate_left
              · simp only [Act.put, List.setIfInBounds_toArray, List.set_cons_zero, List.set_cons_succ, i64_w, i32_w]
                rfl
              refine pure_ (i := 1) (N := some 92) (v := ?_) (a' := ?_) #[true, true, false, false, false, false, false, false, false, false, false, false, false, false, false, false, false] rfl rfl (by kernel_rfl) (fun _ _ _ h => h) (Or.inl ⟨by rfl, ?_⟩) ?_ ?_
              rotate_left
              · intro w'
                go_simp
                with_reducible rfl
              rotate_left
              · simp only [Act.put, List.setIfInBounds_toArray, List.set_cons_zero, List.set_cons_succ, i64_w, i32_w]
                rfl
              refine pure_ (i := 2) (N := some 93) (v := ?_) (a' := ?_) #[true, true, true, false, false, false, false, false, false, false, false, false, false, false, false, false, false] rfl rfl (by kernel_rfl) (fun _ _ _ h => h) (Or.inl ⟨by rfl, ?_⟩) ?_ ?_
              rotate_left
              · intro w'
                go_simp
                with_reducible rfl
              rotate_left
              · simp only [Act.put, List.setIfInBounds_toArray, List.set_cons_zero, List.set_cons_succ, i64_w, i32_w]
                rfl
              refine pure_ (i := 3) (N := some 94) (v := ?_) (a' := ?_) #[true, true, true, true, false, false, false, false, false, false, false, false, false, false, false, false, false] rfl rfl (by kernel_rfl) (fun _ _ _ h => h) (Or.inl ⟨by rfl, ?_⟩) ?_ ?_
              rotate_left
              · intro w'
                go_simp
                with_reducible rfl
              rotate_left
              · simp only [Act.put, List.setIfInBounds_toArray, List.set_cons_zero, List.set_cons_succ, i64_w, i32_w]
                rfl
              refine pure_ (i := 6) (N := some 97) (v := ?_) (a' := ?_) #[true, true, true, true, false, false, true, false, false, false, false, false, false, false, false, false, false] rfl rfl (by kernel_rfl) (fun _ _ _ h => h) (Or.inl ⟨by rfl, ?_⟩) ?_ ?_
              rotate_left
              · intro w'
                go_simp
                with_reducible rfl
              rotate_left
              · simp only [Act.put, List.setIfInBounds_toArray, List.set_cons_zero, List.set_cons_succ, i64_w, i32_w]
                rfl
              refine pure_ (i := 7) (N := some 98) (v := ?_) (a' := ?_) #[true, true, true, true, false, false, true, true, false, false, false, false, false, false, false, false, false] rfl rfl (by kernel_rfl) (fun _ _ _ h => h) (Or.inl ⟨by rfl, ?_⟩) ?_ ?_
              rotate_left
              · intro w'
                go_simp
                with_reducible rfl
              rotate_left
              · simp only [Act.put, List.setIfInBounds_toArray, List.set_cons_zero, List.set_cons_succ, i64_w, i32_w]
                rfl
              refine take_ (i := 4) (N := some 95) (v := ?_) (a' := ?_) #[true, true, true, true, true, false, true, true, false, false, false, false, false, false, false, false, false] rfl rfl (by kernel_rfl) (fun _ _ _ h => h) (Or.inl ⟨by rfl, ?_⟩) hHeld ?_ ?_
              rotate_left
              · rintro w' ⟨s0, s1, s2⟩
                go_simp
                with_reducible rfl
              rotate_left
              · simp only [Act.put, List.setIfInBounds_toArray, List.set_cons_zero, List.set_cons_succ, i64_w, i32_w]
                rfl
              refine pure_ (i := 5) (N := some 96) (v := ?_) (a' := ?_) #[true, true, true, true, true, true, true, true, false, false, false, false, false, false, false, false, false] rfl rfl (by kernel_rfl) (fun _ _ _ h => h) (Or.inl ⟨by rfl, ?_⟩) ?_ ?_
              rotate_left
              · intro w'
                go_simp
                with_reducible rfl
              rotate_left
              · simp only [Act.put, List.setIfInBounds_toArray, List.set_cons_zero, List.set_cons_succ, i64_w, i32_w]
                rfl
              refine take_ (i := 10) (N := some 101) (v := ?_) (a' := ?_) #[true, true, true, true, true, true, true, true, false, false, true, false, false, false, false, false, false] rfl rfl (by kernel_rfl) (fun _ _ _ h => h) (Or.inl ⟨by rfl, ?_⟩) hHeld ?_ ?_
              rotate_left
              · rintro w' ⟨s0, s1, s2⟩
                go_simp
                with_reducible rfl
              rotate_left
              · simp only [Act.put, List.setIfInBounds_toArray, List.set_cons_zero, List.set_cons_succ, i64_w, i32_w]
                rfl
              refine one_ (i := 8) (N := some 99) #[true, true, true, true, true, true, true, true, true, false, true, false, false, false, false, false, false] rfl rfl (by kernel_rfl) (by decide) (fun K hK => ?_)
              refine goes_ Try.func42 (by kernel_rfl) rfl #[.int .i64 (wrap64 (c + 1))] (by rfl) rfl rfl (by (try simp only [List.map_toArray, List.map_cons, List.map_nil]); first | done | rfl) ?_
              rw [wc]
              refine (footer_Most.calls _ _ _ hMo.out).mono ?_
              rintro ee wz ⟨rfl, hbz⟩
              refine ⟨_, rfl, ?_⟩
              have hS := Aside0.mk (hS.out.below hbz)
              clear hbz
              refine hK.out _ _ ⟨(hS.out.pick1.cell 0).trans rfl, (hS.out.pick1.cell 1).trans rfl, hEl.out _ hS.out.1⟩ (fun hHeld => ?_)
              clear hK K
              refine norm_ (a' := ?_) ?_ ?_
              rotate_left
              · show Act.put _ (some 99) _ = _
                simp only [Act.put, List.setIfInBounds_toArray, List.set_cons_zero, List.set_cons_succ, i64_w, i32_w]
                rfl
              refine pure_ (i := 9) (N := some 100) (v := ?_) (a' := ?_) #[true, true, true, true, true, true, true, true, true, true, true, false, false, false, false, false, false] rfl rfl (by kernel_rfl) (fun _ _ _ h => h) (Or.inl ⟨by rfl, ?_⟩) ?_ ?_
              rotate_left
              · intro w'
                go_simp
                with_reducible rfl
              rotate_left
              · simp only [Act.put, List.setIfInBounds_toArray, List.set_cons_zero, List.set_cons_succ, i64_w, i32_w]
                rfl
              refine one_ (i := 11) (N := some 102) #[true, true, true, true, true, true, true, true, true, true, true, true, false, false, false, false, false] rfl rfl (by kernel_rfl) (by decide) (fun K hK => ?_)
              refine goes_ Try.func43 (by kernel_rfl) rfl #[.agg #[.int .u8 e, .int .u32 (s : Int)]] (by rfl) rfl rfl (by (try simp only [List.map_toArray, List.map_cons, List.map_nil]); first | done | rfl) ?_
              refine (config_Size.calls e (s : Int) S _ hSz.out).mono ?_
              rintro ee wz ⟨rfl, hbz⟩
              refine ⟨_, rfl, ?_⟩
              have hS := Aside0.mk (hS.out.below hbz)
              clear hbz
              refine hK.out _ _ ⟨(hS.out.pick1.cell 0).trans rfl, (hS.out.pick1.cell 1).trans rfl, hEl.out _ hS.out.1⟩ (fun hHeld => ?_)
              clear hK K
              refine norm_ (a' := ?_) ?_ ?_
              rotate_left
              · show Act.put _ (some 102) _ = _
                simp only [Act.put, List.setIfInBounds_toArray, List.set_cons_zero, List.set_cons_succ, i64_w, i32_w]
                rfl
              refine pure_ (i := 12) (N := some 103) (v := ?_) (a' := ?_) #[true, true, true, true, true, true, true, true, true, true, true, true, true, false, false, false, false] rfl rfl (by kernel_rfl) (fun _ _ _ h => h) (Or.inl ⟨by rfl, ?_⟩) ?_ ?_
              rotate_left
              · intro w'
                go_simp
                with_reducible rfl
              rotate_left
              · simp only [Act.put, List.setIfInBounds_toArray, List.set_cons_zero, List.set_cons_succ, i64_w, i32_w]
                rfl
              refine pure_ (i := 13) (N := some 104) (v := ?_) (a' := ?_) #[true, true, true, true, true, true, true, true, true, true, true, true, true, true, false, false, false] rfl rfl (by kernel_rfl) (fun _ _ _ h => h) (Or.inl ⟨by rfl, ?_⟩) ?_ ?_
              rotate_left
              · intro w'
                go_simp
                with_reducible rfl
              rotate_left
              · simp only [Act.put, List.setIfInBounds_toArray, List.set_cons_zero, List.set_cons_succ, i64_w, i32_w]
                rfl
              refine pure_ (i := 14) (N := some 105) (v := ?_) (a' := ?_) #[true, true, true, true, true, true, true, true, true, true, true, true, true, true, true, false, false] rfl rfl (by kernel_rfl) (fun _ _ _ h => h) (Or.inl ⟨by rfl, ?_⟩) ?_ ?_
              rotate_left
              · intro w'
                go_simp
                with_reducible rfl
              rotate_left
              · simp only [Act.put, List.setIfInBounds_toArray, List.set_cons_zero, List.set_cons_succ, i64_w, i32_w]
                rfl
              refine pure_ (i := 15) (N := some 106) (v := ?_) (a' := ?_) #[true, true, true, true, true, true, true, true, true, true, true, true, true, true, true, true, false] rfl rfl (by kernel_rfl) (fun _ _ _ h => h) (Or.inl ⟨by rfl, ?_⟩) ?_ ?_
              rotate_left
              · intro w'
                go_simp
                with_reducible rfl
              rotate_left
              · simp only [Act.put, List.setIfInBounds_toArray, List.set_cons_zero, List.set_cons_succ, i64_w, i32_w]
                rfl
              refine pure_ (i := 16) (N := some 107) (v := ?_) (a' := ?_) #[true, true, true, true, true, true, true, true, true, true, true, true, true, true, true, true, true] rfl rfl (by kernel_rfl) (fun _ _ _ h => h) (Or.inl ⟨by rfl, ?_⟩) ?_ ?_
              rotate_left
              · intro w'
                go_simp
                with_reducible rfl
              rotate_left
              · simp only [Act.put, List.setIfInBounds_toArray, List.set_cons_zero, List.set_cons_succ, i64_w, i32_w]
                rfl
              refine done_ (by kernel_rfl) ?_
              have hc_0 : wz.cell? ⟨w.heap.size, 0, none⟩ = some (.int .u8 e) := (hS.out.pick1.cell 0).trans rfl
              have hc_1 : wz.cell? ⟨w.heap.size, 1, none⟩ = some (.int .u32 (s : Int)) := (hS.out.pick1.cell 1).trans rfl
              have hel : wz.cell? (ad0.add i) = some (.int .i64 x) := hEl.out _ hS.out.1
              go_wp2_with (fail)
              refine (fascicleref09_Head.calls kh2 e (s : Int) (m : Int) _ _ hkh2.out).mono ?_
              rintro e8 w8 ⟨rfl, hb8⟩
              have h8 := hS.out.below hb8
              clear hb8 hc_0 hc_1 hel
              have hc_0 : w8.cell? ⟨w.heap.size, 0, none⟩ = some (.int .u8 e) := (h8.pick1.cell 0).trans rfl
              have hc_1 : w8.cell? ⟨w.heap.size, 1, none⟩ = some (.int .u32 (s : Int)) := (h8.pick1.cell 1).trans rfl
              have hel : w8.cell? (ad0.add i) = some (.int .i64 x) := hEl.out _ h8.1
              have hS := Aside0.mk h8
              clear h8
              go_upto_region 20 with (fail)
              have hS := Aside0.mk hS.out.drew
              clear hc_0 hc_1 hel
              have hc_0 : w8.drew.cell? ⟨w.heap.size, 0, none⟩ = some (.int .u8 e) := (hS.out.pick1.cell 0).trans rfl
              have hc_1 : w8.drew.cell? ⟨w.heap.size, 1, none⟩ = some (.int .u32 (s : Int)) := (hS.out.pick1.cell 1).trans rfl
              have hel : w8.drew.cell? (ad0.add i) = some (.int .i64 x) := hEl.out _ hS.out.1
              go_wp2_with (fail)
              refine start_ (n := 7) (S := fun w' => w'.cell? ⟨w.heap.size, 0, none⟩ = some (.int .u8 e) ∧ w'.cell? ⟨w.heap.size, 1, none⟩ = some (.int .u32 (s : Int)) ∧ w'.cell? (ad0.add i) = some (.int .i64 x)) (ds := []) #[false, false, false, false, false, false, false] (by kernel_rfl) rfl rfl ⟨hc_0, hc_1, hel⟩ (fun hHeld => ?_)
              obtain ⟨wz, hwz⟩ : ∃ wz, w8.drew = wz := ⟨_, rfl⟩
              rw [hwz] at hS hHeld ⊢
              clear hc_0 hc_1 hel
              clear hwz
              refine pure_ (i := 0) (N := some 121) (v := ?_) (a' := ?_) #[true, false, false, false, false, false, false] rfl rfl (by kernel_rfl) (fun _ _ _ h => h) (Or.inl ⟨by rfl, ?_⟩) ?_ ?_
              rotate_left
              · intro w'
                go_simp
                with_reducible rfl
              rotate_left
              · simp only [Act.put, List.setIfInBounds_toArray, List.set_cons_zero, List.set_cons_succ, i64_w, i32_w]
                rfl
              refine pure_ (i := 1) (N := some 122) (v := ?_) (a' := ?_) #[true, true, false, false, false, false, false] rfl rfl (by kernel_rfl) (fun _ _ _ h => h) (Or.inl ⟨by rfl, ?_⟩) ?_ ?_
              rotate_left
              · intro w'
                go_simp
                with_reducible rfl
              rotate_left
              · simp only [Act.put, List.setIfInBounds_toArray, List.set_cons_zero, List.set_cons_succ, i64_w, i32_w]
                rfl
              refine take_ (i := 4) (N := some 125) (v := ?_) (a' := ?_) #[true, true, false, false, true, false, false] rfl rfl (by kernel_rfl) (fun _ _ _ h => h) (Or.inl ⟨by rfl, ?_⟩) hHeld ?_ ?_
              rotate_left
              · rintro w' ⟨s0, s1, s2⟩
                go_simp
                with_reducible rfl
              rotate_left
              · simp only [Act.put, List.setIfInBounds_toArray, List.set_cons_zero, List.set_cons_succ, i64_w, i32_w]
                rfl
              refine one_ (i := 2) (N := some 123) #[true, true, true, false, true, false, false] rfl rfl (by kernel_rfl) (by decide) (fun K hK => ?_)
              refine goes_ Try.func42 (by kernel_rfl) rfl #[.int .i64 (1)] (by rfl) rfl rfl (by (try simp only [List.map_toArray, List.map_cons, List.map_nil]); first | done | rfl) ?_
              refine (footer_Most.calls _ _ _ hMo1.out).mono ?_
              rintro ee wz ⟨rfl, hbz⟩
              refine ⟨_, rfl, ?_⟩
              have hS := Aside0.mk (hS.out.below hbz)
              clear hbz
              refine hK.out _ _ ⟨(hS.out.pick1.cell 0).trans rfl, (hS.out.pick1.cell 1).trans rfl, hEl.out _ hS.out.1⟩ (fun hHeld => ?_)
              clear hK K
              refine norm_ (a' := ?_) ?_ ?_
              rotate_left
              · show Act.put _ (some 123) _ = _
                simp only [Act.put, List.setIfInBounds_toArray, List.set_cons_zero, List.set_cons_succ, i64_w, i32_w]
                rfl
              refine pure_ (i := 3) (N := some 124) (v := ?_) (a' := ?_) #[true, true, true, true, true, false, false] rfl rfl (by kernel_rfl) (fun _ _ _ h => h) (Or.inl ⟨by rfl, ?_⟩) ?_ ?_
              rotate_left
              · intro w'
                go_simp
                with_reducible rfl
              rotate_left
              · simp only [Act.put, List.setIfInBounds_toArray, List.set_cons_zero, List.set_cons_succ, i64_w, i32_w]
                rfl
              refine one_ (i := 5) (N := some 126) #[true, true, true, true, true, true, false] rfl rfl (by kernel_rfl) (by decide) (fun K hK => ?_)
              refine goes_ Try.func43 (by kernel_rfl) rfl #[.agg #[.int .u8 e, .int .u32 (s : Int)]] (by rfl) rfl rfl (by (try simp only [List.map_toArray, List.map_cons, List.map_nil]); first | done | rfl) ?_
              refine (config_Size.calls e (s : Int) S _ hSz.out).mono ?_
              rintro ee wz ⟨rfl, hbz⟩
              refine ⟨_, rfl, ?_⟩
              have hS := Aside0.mk (hS.out.below hbz)
              clear hbz
              refine hK.out _ _ ⟨(hS.out.pick1.cell 0).trans rfl, (hS.out.pick1.cell 1).trans rfl, hEl.out _ hS.out.1⟩ (fun hHeld => ?_)
              clear hK K
              refine norm_ (a' := ?_) ?_ ?_
              rotate_left
              · show Act.put _ (some 126) _ = _
                simp only [Act.put, List.setIfInBounds_toArray, List.set_cons_zero, List.set_cons_succ, i64_w, i32_w]
                rfl
              refine pure_ (i := 6) (N := some 127) (v := ?_) (a' := ?_) #[true, true, true, true, true, true, true] rfl rfl (by kernel_rfl) (fun _ _ _ h => h) (Or.inl ⟨by rfl, ?_⟩) ?_ ?_
              rotate_left
              · intro w'
                go_simp
                with_reducible rfl
              rotate_left
              · simp only [Act.put, List.setIfInBounds_toArray, List.set_cons_zero, List.set_cons_succ, i64_w, i32_w]
                rfl
              refine done_ (by kernel_rfl) ?_
              have hc_0 : wz.cell? ⟨w.heap.size, 0, none⟩ = some (.int .u8 e) := (hS.out.pick1.cell 0).trans rfl
              have hc_1 : wz.cell? ⟨w.heap.size, 1, none⟩ = some (.int .u32 (s : Int)) := (hS.out.pick1.cell 1).trans rfl
              have hel : wz.cell? (ad0.add i) = some (.int .i64 x) := hEl.out _ hS.out.1
              clear hc_0 hc_1 hel
              go_wp2_with (fail)
              go_roundg kk
              case measure => omega
              case rel => exact ⟨i + 1, m, (HM.size : Int) + x, 1, by first | rfl | rw [wu] | rw [wh], by first | rfl | rw [wc], by first | rfl | simp [wi1] | simp, hnew, hS⟩
          · have hie : i = l.length := by have := hA.out.1; omega
            have hd2 : decide ((i : Int) < (outs.length : Int)) = false := decide_eq_false (by have := holA.out; omega)
            have hd3 : decide (i < outs.length) = false := decide_eq_false (by have := holA.out; omega)
            clear hie
            go_wp2_with (fail)
            go_ret
            exact ⟨rfl, hS.out.1⟩
      · have her2 : (er != 0) = true := bne_iff_ne.2 her
        have hpe := planm_err S s l 0 (HL s 0) 0 []
        rw [hRA.out] at hpe
        obtain ⟨rfl, he1⟩ := hpe her
        have her3 : (er != 1) = true := bne_iff_ne.2 he1
        clear hpe her he1
        go_wp2_with (fail)
        go_ret
        exact ⟨rfl, hS2.out.1⟩
    · obtain ⟨kp, hkp⟩ := (plan_bad (s := (s : Int)) hmay ⟨b0, b1, by omega, by omega⟩ l).rounds
      have hck : config_Check.f e (s : Int) = some 1 := by
        unfold config_Check.f
        by_cases a : e < 12
        · rw [if_pos a]
        · by_cases b : e > 24
          · rw [if_neg a, if_pos b]
          · by_cases d : (s : Int) < 1
            · rw [if_neg a, if_neg b, if_pos d]
            · rw [if_neg a, if_neg b, if_neg d, if_pos (by omega)]
      have hkp := Aside0.mk hkp
      have hck := Aside0.mk hck
      clear b0 b1 b2 hmay
      go_wp2_with (fail)
      refine (pack_Plan.calls kp e (s : Int) A cp l [] 1 _ (Kd.C_below hCA.out hS1.out.1) hcA.out hkp.out).mono ?_
      rintro e2 w2 ⟨v2, rfl, ho2, hb2⟩
      obtain ⟨A1, c1, rfl⟩ := Kd.R_slice ho2
      have hS2 := Aside0.mk (hS1.out.below hb2)
      clear ho2 hb2 hcc_0 hcc_1
      have h2 := hS2.out
      have hcc_0 : w2.cell? ⟨w.heap.size, 0, none⟩ = some (.int .u8 e) := ((h2).cell 0).trans rfl; have hcc_1 : w2.cell? ⟨w.heap.size, 1, none⟩ = some (.int .u32 (s : Int)) := ((h2).cell 1).trans rfl
      clear h2
      go_wp2_with (fail)
      refine (config_Check.calls e (s : Int) 1 _ hck.out).mono ?_
      rintro e3 w3 ⟨rfl, hb3⟩
      have hS3 := Aside0.mk (hS2.out.below hb3)
      clear hb3 hcc_0 hcc_1
      go_wp2_with (fail)
      go_ret
      exact ⟨rfl, hS3.out.1⟩

theorem fasciclelaw14_PackGreedy.calls (a0_0 a0_1 : Int) (A1 : Option Addr) (c1 : Nat) (l1 : List Int) (r : Bool) (w : World) (hr1 : Kd.C (Kd.int .i64) w A1 l1.length l1) (hc1 : l1.length ≤ c1) (h : fasciclelaw14_PackGreedy.f a0_0 a0_1 l1 = some r) :
    Calls Try.prog 7 #[.agg #[.int .u8 a0_0, .int .u32 a0_1], .slice A1 l1.length c1] w fun e w' => e = .returned (.bool r) ∧ Below w.heap.size w w' := by
  unfold fasciclelaw14_PackGreedy.f at h
  split at h
  · rename_i hh
    cases h
    obtain ⟨s, rfl⟩ : ∃ s : Nat, a0_1 = s := ⟨a0_1.toNat, by omega⟩
    exact pack_greedy w A1 c1 a0_0 s l1 hr1 hc1 hh.1 hh.2.1 (by omega) ((i64sOK_iff l1).1 hh.2.2.2.2)
  · cases h

end Go.Proofs.Ytnmdckgaljldhaa.G
