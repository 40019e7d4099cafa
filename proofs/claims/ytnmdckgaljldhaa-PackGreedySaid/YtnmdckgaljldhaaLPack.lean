/- pack: rooms and plans, plain. -/
import Derived.Test.YtnmdckgaljldhaaHPutHead
import Derived.Test.YtnmdckgaljldhaaLConfigP
import Derived.Test.YtnmdckgaljldhaaGx4
set_option linter.unusedVariables false
set_option linter.unusedSimpArgs false
namespace Go.Proofs.Ytnmdckgaljldhaa.LPack
open Go Go.RowKit Go.Proofs.Ytnmdckgaljldhaa.G Go.Proofs.YtnmdckgaljldhaaW.PrintWords Go.Proofs.YtnmdckgaljldhaaW.PrintLast Go.Proofs.YtnmdckgaljldhaaW.PrintMore Go.Proofs.Ytnmdckgaljldhaa.PureKit Go.Proofs.Ytnmdckgaljldhaa.Sep Go.Proofs.Ytnmdckgaljldhaa.Rol Go.Proofs.Ytnmdckgaljldhaa.LCobs
open Go.Proofs.Ytnmdckgaljldhaa.LConfig (Pair pair_of size_ok size_no may_ok may_no pair_S)

/-- So many bytes at most. -/
def most (n : Int) : Int := 9 + 12 * n + 8 * ((n + 15) / 16) + 8 + 1 + (9 + 12 * n + 8 * ((n + 15) / 16) + 8 - 1) / 254 + 1

theorem most_f {n : Int} (h0 : 0 ≤ n) (h1 : n ≤ 100000) : footer_Most.f n = some (most n) := by
  have hm : mx 0 n = n := by
    unfold mx
    by_cases h : 0 < n
    · rw [if_pos h]
    · rw [if_neg h]; omega
  unfold footer_Most.f fence_Count.f
  rw [hm, hm]
  simp only [Option.bind_some]
  rw [w64 (x := n + 16) (by omega) (by omega), w64 (x := n + 16 - 1) (by omega) (by omega), Int.tdiv_eq_ediv_of_nonneg (by omega)]
  have hd : n + 16 - 1 = n + 15 := by omega
  rw [hd, w64 (x := (n + 15) / 16) (by omega) (by omega), w64 (x := 12 * n) (by omega) (by omega), w64 (x := 9 + 12 * n) (by omega) (by omega), w64 (x := 8 * ((n + 15) / 16)) (by omega) (by omega), w64 (x := 9 + 12 * n + 8 * ((n + 15) / 16)) (by omega) (by omega)]
  generalize hB : 9 + 12 * n + 8 * ((n + 15) / 16) = B
  have hB0 : 9 ≤ B ∧ B ≤ 10000000 := by omega
  have hmB : mx 0 B = B := by unfold mx; rw [if_pos (by omega)]
  unfold frame_Size.f cobs_Most.f
  rw [hmB, w64 (x := B + 8) (by omega) (by omega), if_neg (by omega)]
  simp only [Option.bind_some]
  rw [w64 (x := B + 8 + 1) (by omega) (by omega), w64 (x := B + 8 - 1) (by omega) (by omega), Int.tdiv_eq_ediv_of_nonneg (by omega), w64 (x := (B + 8 - 1) / 254) (by omega) (by omega), w64 (x := B + 8 + 1 + (B + 8 - 1) / 254) (by omega) (by omega), w64 (x := B + 8 + 1 + (B + 8 - 1) / 254 + 1) (by omega) (by omega)]
  unfold most
  rw [hB]
theorem most_pos {n : Int} (h0 : 0 ≤ n) : 0 < most n ∧ most n ≤ 20 * n + 100 := by unfold most; omega
theorem stf_short : ∀ (l now : List Int), now.length + l.length < 254 → (stf l now).length = now.length + l.length + 1
  | [], now, h => by simp [stf]
  | x :: xs, now, h => by
    rw [List.length_cons] at h
    unfold stf
    split
    · rw [List.length_cons, List.length_append, stf_short xs [] (by simp; omega), List.length_cons, List.length_nil]
      omega
    · rw [if_neg (by omega), stf_short xs (now ++ [x]) (by rw [List.length_append, List.length_cons, List.length_nil]; omega), List.length_append, List.length_cons, List.length_cons, List.length_nil]
      omega
def vl (n : Nat) : Nat := (venc n).length
theorem vl_pos (n : Nat) : 1 ≤ vl n := by
  unfold vl
  by_cases h : n < 128
  · rw [venc_small h]; simp
  · rw [venc_big h]; simp
theorem vl_mono : ∀ (d a b : Nat), b ≤ d → a ≤ b → vl a ≤ vl b := by
  intro d
  induction d with
  | zero => intro a b h1 h2; rw [show a = b by omega]; exact Nat.le_refl _
  | succ d ih =>
    intro a b h1 h2
    by_cases hb : b < 128
    · unfold vl
      rw [venc_small hb, venc_small (by omega)]
      exact Nat.le_refl _
    · by_cases ha : a < 128
      · have := vl_pos b
        unfold vl at this ⊢
        rw [venc_small ha]
        exact this
      · have := ih (a / 128) (b / 128) (by omega) (Nat.div_le_div_right h2)
        unfold vl at this ⊢
        rw [venc_big ha, venc_big hb, List.length_cons, List.length_cons]
        omega
theorem vl_small {n : Nat} (h : n < 4294967296) : vl n ≤ 5 := venc_len 5 n (Nat.lt_of_lt_of_le h (by decide)) (by decide)
/-- A head's bytes. -/
def HL (s n : Nat) : Nat := 13 + vl s + vl n
theorem head_len (e : Int) (s n : Nat) (hs : s < 4294967296) (hn : n < 4294967296) : (sealed (hbody e s n) ++ [0]).length = HL s n := by
  have h1 := vl_small hs
  have h2 := vl_small hn
  have hb : (hbody e s n).length = 3 + vl s + vl n := by
    unfold hbody vl
    simp only [List.length_append, List.length_cons, List.length_nil]
  unfold sealed
  rw [List.length_append, stf_short _ _ (by rw [summed_len, hb, List.length_nil]; omega), summed_len, hb]
  unfold HL
  simp only [List.length_cons, List.length_nil]
  omega
theorem HL_le {s n m : Nat} (h : n ≤ m) : HL s n ≤ HL s m := by
  have := vl_mono m n m (Nat.le_refl _) h
  unfold HL
  omega
theorem HL_small {s n : Nat} (hs : s < 4294967296) (hn : n < 4294967296) : HL s n ≤ 23 := by
  have h1 := vl_small hs
  have h2 := vl_small hn
  unfold HL
  omega
/-- A config that may be. -/
structure Cfg (e : Int) (s : Nat) (S : Int) : Prop where
  p : Pair e S
  s1 : 1 ≤ s
  s2 : s ≤ 65536
theorem empty_ok {e S : Int} {s : Nat} (h : Cfg e s S) (n : Nat) (hn : n < s) : pack_Empty.f e (s : Int) (n : Int) = some (e, (s : Int), (n : Int), (HL s n : Int), 0, 0) := by
  have hS := pair_S h.p
  have h1 := h.s1
  have h2 := h.s2
  unfold pack_Empty.f frame_PutHead.f
  rw [if_pos (by omega), if_pos (by omega), Option.bind_some, if_pos rfl, Int.toNat_natCast, Int.toNat_natCast, head_len e s n (by omega) (by omega)]
theorem empty_no {e S : Int} {s : Nat} (h : Cfg e s S) (n : Nat) (hn : ¬ n < s) (hn2 : n < 4294967296) : pack_Empty.f e (s : Int) (n : Int) = some (0, 0, 0, 0, 0, 1) := by
  have hS := pair_S h.p
  have h1 := h.s1
  have h2 := h.s2
  unfold pack_Empty.f frame_PutHead.f
  rw [if_pos (by omega), if_neg (by omega), Option.bind_some, if_neg (by decide)]
theorem empty_bad {e s n : Int} (h : ¬ (12 ≤ e ∧ e ≤ 24 ∧ 1 ≤ s ∧ s ≤ 65536)) (h0 : 0 ≤ e ∧ e ≤ 255 ∧ 0 ≤ s ∧ s < 4294967296 ∧ 0 ≤ n ∧ n < 4294967296) : pack_Empty.f e s n = some (0, 0, 0, 0, 0, 1) := by
  unfold pack_Empty.f frame_PutHead.f
  rw [if_pos h0, if_neg (by omega), Option.bind_some, if_neg (by decide)]
/-- Does it fit? -/
def fitsb (S u c x : Int) : Bool := decide (1 ≤ x ∧ u + x + most (c + 1) ≤ S)
theorem left_ok {e S : Int} {s : Nat} (h : Cfg e s S) (n u c : Int) (hu : 0 ≤ u) (hu2 : u ≤ 100000000) (hc : 0 ≤ c) (hc2 : c ≤ 1000) : pack_Room_Left.f e (s : Int) n u c = some (mx 0 (S - u - most (c + 1))) := by
  have hS := pair_S h.p
  have h1 := h.s1
  have h2 := h.s2
  have hm := most_pos (n := c + 1) (by omega)
  unfold pack_Room_Left.f
  rw [size_ok h.p (by omega) (by omega), Option.bind_some, w64 (x := c + 1) (by omega) (by omega), most_f (by omega) (by omega), Option.bind_some, w64 (x := S - u) (by omega) (by omega), w64 (by omega) (by omega)]
theorem fits_ok {e S : Int} {s : Nat} (h : Cfg e s S) (n u c x : Int) (hu : 0 ≤ u) (hu2 : u ≤ 100000000) (hc : 0 ≤ c) (hc2 : c ≤ 1000) : pack_Room_Fits.f e (s : Int) n u c x = some (fitsb S u c x) := by
  unfold pack_Room_Fits.f fitsb
  by_cases hx : x ≥ 1
  · rw [if_pos hx, left_ok h n u c hu hu2 hc hc2, Option.bind_some]
    congr 1
    refine decide_eq_decide.2 ?_
    unfold mx
    split <;> omega
  · rw [if_neg hx, decide_eq_false (by omega)]
theorem take_ok {e S : Int} {s : Nat} (h : Cfg e s S) (n u c x : Int) (hu : 0 ≤ u) (hu2 : u ≤ 100000000) (hc : 0 ≤ c) (hc2 : c ≤ 1000) (hf : fitsb S u c x = true) : pack_Room_Take.f e (s : Int) n u c x = some (e, (s : Int), n, u + x, c + 1, 0) := by
  have hS := pair_S h.p
  have hm := most_pos (n := c + 1) (by omega)
  have hf2 := of_decide_eq_true hf
  unfold pack_Room_Take.f
  rw [fits_ok h n u c x hu hu2 hc hc2, hf, Option.bind_some, if_pos rfl, w64 (by omega) (by omega), w64 (by omega) (by omega)]
theorem take_no {e S : Int} {s : Nat} (h : Cfg e s S) (n u c x : Int) (hu : 0 ≤ u) (hu2 : u ≤ 100000000) (hc : 0 ≤ c) (hc2 : c ≤ 1000) (hf : fitsb S u c x = false) : pack_Room_Take.f e (s : Int) n u c x = some (0, 0, 0, 0, 0, 7) := by
  unfold pack_Room_Take.f
  rw [fits_ok h n u c x hu hu2 hc hc2, hf, Option.bind_some, if_neg (by decide)]
theorem fits_le {S u v c x : Int} (h : fitsb S u 0 x = true) (hv : v ≤ u) : fitsb S v 0 x = true := by
  have := of_decide_eq_true h
  exact decide_eq_true ⟨this.1, by omega⟩

/-- Into which segments. -/
def planm (S : Int) (s : Nat) : List Int → Nat → Int → Int → List Int → List Int × Int
  | [], _, _, _, out => (out, 0)
  | x :: xs, n, u, c, out => if fitsb S (HL s (s - 1)) 0 x = true then (if fitsb S u c x = true then planm S s xs n (u + x) (c + 1) (out ++ [(n : Int)]) else if n + 1 < s then planm S s xs (n + 1) (HL s (n + 1) + x) 1 (out ++ [((n + 1 : Nat) : Int)]) else ([], 7)) else ([], 6)
theorem rd_xs (xs : List Int) (i : Nat) (h : i < xs.length) : rd xs (i : Int) = xs[i] := rd_at xs i h
theorem fits_used {S u c x : Int} (h : fitsb S u c x = true) (hc : 0 ≤ c) : u + x ≤ S ∧ 1 ≤ x := by
  have := of_decide_eq_true h
  have hm := most_pos (n := c + 1) (by omega)
  omega
theorem plan_l0 {e S : Int} {s : Nat} (h : Cfg e s S) (xs : List Int) (hxl : xs.length ≤ 200) : ∀ (d i n : Nat) (u c : Int) (out : List Int), i + d = xs.length → n < s → 0 ≤ u → u ≤ S → 0 ≤ c → c ≤ i → out.length = i →
    Ev (fun k => pack_Plan.l0 k out xs (xs.length : Int) (i : Int) e (s : Int) e (s : Int) (n : Int) u c e (s : Int) ((s - 1 : Nat) : Int) (HL s (s - 1) : Int) 0) (planm S s (xs.drop i) n u c out) := by
  have hS := pair_S h.p
  have hs1 := h.s1
  have hs2 := h.s2
  have hHL := HL_small (s := s) (n := s - 1) (by omega) (by omega)
  intro d
  induction d with
  | zero =>
    intro i n u c out h1 h2 h3 h4 h5 h6 h7
    rw [List.drop_eq_nil_of_le (by omega)]
    refine Ev.step (f := fun _ => some (out, 0)) (fun k => ?_) (Ev.now _)
    simp only [pack_Plan.l0]
    rw [if_neg (by omega)]
  | succ d ih =>
    intro i n u c out h1 h2 h3 h4 h5 h6 h7
    have hin : i < xs.length := by omega
    rw [List.drop_eq_getElem_cons hin]
    generalize hx : xs[i] = x
    have hrd : rd xs (i : Int) = x := by rw [rd_xs xs i hin, hx]
    unfold planm
    have f1 := fits_ok h ((s - 1 : Nat) : Int) (HL s (s - 1) : Int) 0 x (by omega) (by omega) (by omega) (by omega)
    have f2 := fits_ok h (n : Int) u c x h3 (by omega) h5 (by omega)
    cases hf1 : fitsb S (HL s (s - 1)) 0 x with
    | false =>
      rw [hf1] at f1
      rw [if_neg (by decide)]
      refine Ev.step (f := fun _ => some ([], 6)) (fun k => ?_) (Ev.now _)
      simp only [pack_Plan.l0]
      rw [if_pos (by omega), if_pos (by omega), if_pos (by omega), hrd, f1, Option.bind_some, if_neg (by decide)]
    | true =>
      rw [hf1] at f1
      rw [if_pos rfl]
      cases hf2 : fitsb S u c x with
      | true =>
        have hus := fits_used hf2 h5
        rw [hf2] at f2
        rw [if_pos rfl]
        have ht := take_ok h (n : Int) u c x h3 (by omega) h5 (by omega) hf2
        refine Ev.step (f := fun k => pack_Plan.l0 k (out ++ [(n : Int)]) xs (xs.length : Int) ((i + 1 : Nat) : Int) e (s : Int) e (s : Int) (n : Int) (u + x) (c + 1) e (s : Int) ((s - 1 : Nat) : Int) (HL s (s - 1) : Int) 0) (fun k => ?_) (ih (i + 1) n (u + x) (c + 1) (out ++ [(n : Int)]) (by omega) h2 (by omega) (by omega) (by omega) (by omega) (by rw [List.length_append, h7]; rfl))
        simp only [pack_Plan.l0]
        rw [if_pos (by omega), if_pos (by omega), if_pos (by omega), hrd, f1, Option.bind_some, if_pos rfl, f2, Option.bind_some, if_pos rfl, ht, Option.bind_some, if_pos (by omega), w64 (by omega) (by omega)]
        rfl
      | false =>
        rw [hf2] at f2
        rw [if_neg (by decide)]
        by_cases hn1 : n + 1 < s
        · rw [if_pos hn1]
          have hle := HL_le (s := s) (show n + 1 ≤ s - 1 by omega)
          have hf3 : fitsb S (HL s (n + 1)) 0 x = true := fits_le (c := 0) hf1 (by omega)
          have hus := fits_used hf3 (by omega)
          have hem := empty_ok h (n + 1) hn1
          have ht := take_ok h ((n + 1 : Nat) : Int) (HL s (n + 1) : Int) 0 x (by omega) (by omega) (by omega) (by omega) hf3
          rw [Int.zero_add] at ht
          refine Ev.step (f := fun k => pack_Plan.l0 k (out ++ [((n + 1 : Nat) : Int)]) xs (xs.length : Int) ((i + 1 : Nat) : Int) e (s : Int) e (s : Int) ((n + 1 : Nat) : Int) (HL s (n + 1) + x) 1 e (s : Int) ((s - 1 : Nat) : Int) (HL s (s - 1) : Int) 0) (fun k => ?_) (ih (i + 1) (n + 1) (HL s (n + 1) + x) 1 (out ++ [((n + 1 : Nat) : Int)]) (by omega) hn1 (by omega) (by omega) (by omega) (by omega) (by rw [List.length_append, h7]; rfl))
          simp only [pack_Plan.l0]
          rw [if_pos (by omega), if_pos (by omega), if_pos (by omega), hrd, f1, Option.bind_some, if_pos rfl, f2, Option.bind_some, if_neg (by decide), show ((n : Int) + 1) % 4294967296 = ((n + 1 : Nat) : Int) by omega, hem, Option.bind_some, if_pos rfl, ht, Option.bind_some, if_pos (by omega), w64 (by omega) (by omega)]
          rfl
        · rw [if_neg hn1]
          have hem := empty_no h (n + 1) hn1 (by omega)
          refine Ev.step (f := fun _ => some ([], 7)) (fun k => ?_) (Ev.now _)
          simp only [pack_Plan.l0]
          rw [if_pos (by omega), if_pos (by omega), if_pos (by omega), hrd, f1, Option.bind_some, if_pos rfl, f2, Option.bind_some, if_neg (by decide), show ((n : Int) + 1) % 4294967296 = ((n + 1 : Nat) : Int) by omega, hem, Option.bind_some, if_neg (by decide)]
theorem plan_ok {e S : Int} {s : Nat} (h : Cfg e s S) (xs : List Int) (hxl : xs.length ≤ 200) : Ev (fun k => pack_Plan.f k e (s : Int) xs) (planm S s xs 0 (HL s 0) 0 []) := by
  have hS := pair_S h.p
  have hs1 := h.s1
  have hs2 := h.s2
  have hHL := HL_small (s := s) (n := 0) (by omega) (by omega)
  have h1 : pack_Empty.f e (s : Int) 0 = some (e, (s : Int), 0, (HL s 0 : Int), 0, 0) := empty_ok h 0 (by omega)
  have h2 := empty_ok h (s - 1) (by omega)
  have hl := plan_l0 h xs hxl xs.length 0 0 (HL s 0 : Int) 0 [] (by omega) (by omega) (by omega) (by omega) (by omega) (by omega) rfl
  refine Ev.congr (fun k => ?_) hl
  unfold pack_Plan.f
  rw [h1, Option.bind_some, if_pos rfl, show ((s : Int) - 1) % 4294967296 = ((s - 1 : Nat) : Int) by omega, h2, Option.bind_some]
  rfl
theorem plan_bad {e s : Int} (h : ¬ (12 ≤ e ∧ e ≤ 24 ∧ 1 ≤ s ∧ s ≤ 65536)) (h0 : 0 ≤ e ∧ e ≤ 255 ∧ 0 ≤ s ∧ s < 4294967296) (xs : List Int) : Ev (fun k => pack_Plan.f k e s xs) ([], 1) := by
  refine Ev.congr (f := fun _ => some ([], 1)) (fun k => ?_) (Ev.now _)
  unfold pack_Plan.f
  rw [empty_bad h (by omega), Option.bind_some, if_neg (by decide)]
theorem cfg_of {e : Int} {s : Nat} (h : 12 ≤ e ∧ e ≤ 24 ∧ 1 ≤ (s : Int) ∧ (s : Int) ≤ 65536) : ∃ S, Cfg e s S := by
  obtain ⟨S, hS⟩ := pair_of h.1 h.2.1
  exact ⟨S, hS, by omega, by omega⟩
theorem vl_lt {n : Nat} (h : n < 128) : vl n = 1 := by unfold vl; rw [venc_small h]; rfl

end Go.Proofs.Ytnmdckgaljldhaa.LPack
