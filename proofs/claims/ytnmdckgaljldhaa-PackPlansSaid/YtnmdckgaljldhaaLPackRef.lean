/- pack: the document's rooms and plans. -/
import Derived.Test.YtnmdckgaljldhaaLPack
import Derived.Test.YtnmdckgaljldhaaLFrameSeal
import Derived.Test.YtnmdckgaljldhaaMLNum
import Derived.Test.YtnmdckgaljldhaaLConfigR
import Derived.Test.YtnmdckgaljldhaaGx9
set_option linter.unusedVariables false
set_option linter.unusedSimpArgs false
namespace Go.Proofs.Ytnmdckgaljldhaa.LPack
open Go Go.RowKit Go.Proofs.Ytnmdckgaljldhaa.G Go.Proofs.YtnmdckgaljldhaaW.PrintWords Go.Proofs.YtnmdckgaljldhaaW.PrintLast Go.Proofs.YtnmdckgaljldhaaW.PrintMore Go.Proofs.Ytnmdckgaljldhaa.PureKit Go.Proofs.Ytnmdckgaljldhaa.Sep Go.Proofs.Ytnmdckgaljldhaa.Rol Go.Proofs.Ytnmdckgaljldhaa.LCobs
open Go.Proofs.Ytnmdckgaljldhaa.LConfig (Pair pair_of size_ok size_no may_ok may_no rsize_ok pair_S)

theorem rmost_f {n : Int} (h0 : 0 ≤ n) (h1 : n ≤ 100000) : fascicleref13_Most.f n = some (most n) := by
  unfold fascicleref13_Most.f
  rw [w64 (x := n + 15) (by omega) (by omega), Int.tdiv_eq_ediv_of_nonneg (by omega), w64 (x := (n + 15) / 16) (by omega) (by omega), w64 (x := 12 * n) (by omega) (by omega), w64 (x := 9 + 12 * n) (by omega) (by omega), w64 (x := 8 * ((n + 15) / 16)) (by omega) (by omega), w64 (x := 9 + 12 * n + 8 * ((n + 15) / 16)) (by omega) (by omega)]
  generalize hB : 9 + 12 * n + 8 * ((n + 15) / 16) = B
  have hB0 : 9 ≤ B ∧ B ≤ 10000000 := by omega
  rw [w64 (x := B + 8) (by omega) (by omega), w64 (x := B + 8 + 1) (by omega) (by omega), w64 (x := B + 8 - 1) (by omega) (by omega), Int.tdiv_eq_ediv_of_nonneg (by omega), w64 (x := (B + 8 - 1) / 254) (by omega) (by omega), w64 (x := B + 8 + 1 + (B + 8 - 1) / 254) (by omega) (by omega), w64 (x := B + 8 + 1 + (B + 8 - 1) / 254 + 1) (by omega) (by omega)]
  unfold most
  rw [hB]


theorem head_ev (e : Int) (s n : Nat) (h0 : 0 ≤ e) (h1 : e ≤ 255) (hs : s < 4294967296) (hn : n < 4294967296) : Ev (fun k => fascicleref09_Head.f k e (s : Int) (n : Int)) (strOfNums (sealed (hbody e s n) ++ [0])) := by
  have r1 := refnum s (by omega)
  have r2 := refnum n (by omega)
  have hl1 := vl_small hs
  have hl2 := vl_small hn
  have r3 := ref_seal (hbody e s n) (hbody_bytes e s n h0 h1) (by have := hbody_len e s n hs hn; omega)
  have hw : IntKind.u64.wrap (s : Int) = (s : Int) := wu64 (by omega) (by omega)
  have hj : (⟨#[1, 2]⟩ : ByteArray) ++ strOfNums [e] = strOfNums [1, 2, e] := by
    rw [show (⟨#[1, 2]⟩ : ByteArray) = strOfNums [1, 2] by decide, PureKit.nums_append]; rfl
  unfold fascicleref09_Head.f
  rw [hw]
  simp only [Option.bind_some, hj]
  refine Ev.congr (f := fun k => (fascicleref02_Num.f k (s : Int)).bind fun t270 => (if (strOfNums [1, 2, e]).size + t270.size ≤ 9223372036854775807 then ((fascicleref02_Num.f k (n : Int)).bind fun t271 => (if (strOfNums [1, 2, e] ++ t270).size + t271.size ≤ 9223372036854775807 then ((fascicleref09_Seal.f k ((strOfNums [1, 2, e] ++ t270) ++ t271)).bind fun t272 => (some t272)) else (none))) else (none))) (fun k => ?_) ?_
  · rw [if_pos (by rw [nums_size]; simp)]
  refine Ev.bind r1 ?_
  have c1 : (strOfNums [1, 2, e]).size + (strOfNums (venc s)).size ≤ 9223372036854775807 := by
    rw [nums_size, nums_size]; unfold vl at hl1; simp only [List.length_cons, List.length_nil]; omega
  refine Ev.congr (f := fun k => (fascicleref02_Num.f k (n : Int)).bind fun t271 => (if (strOfNums [1, 2, e] ++ strOfNums (venc s)).size + t271.size ≤ 9223372036854775807 then ((fascicleref09_Seal.f k ((strOfNums [1, 2, e] ++ strOfNums (venc s)) ++ t271)).bind fun t272 => (some t272)) else (none))) (fun k => ?_) ?_
  · rw [if_pos c1]
  refine Ev.bind r2 ?_
  have c2 : (strOfNums [1, 2, e] ++ strOfNums (venc s)).size + (strOfNums (venc n)).size ≤ 9223372036854775807 := by
    rw [PureKit.nums_append, nums_size, nums_size]; unfold vl at hl1 hl2; simp only [List.length_append, List.length_cons, List.length_nil]; omega
  refine Ev.congr (f := fun k => (fascicleref09_Seal.f k (strOfNums (hbody e s n))).bind fun t272 => some t272) (fun k => ?_) ?_
  · rw [if_pos c2, PureKit.nums_append, PureKit.nums_append]
    rfl
  exact Ev.bind r3 (Ev.now _)

theorem rempty_ok {e S : Int} {s : Nat} (h : Cfg e s S) (n : Nat) (hn : n < 4294967296) : Ev (fun k => fascicleref14_Empty.f k e (s : Int) (n : Int)) (e, (s : Int), (n : Int), (HL s n : Int), 0) := by
  have hS := pair_S h.p
  have h2 := h.s2
  unfold fascicleref14_Empty.f
  refine Ev.bind (head_ev e s n (by omega) (by omega) (by omega) hn) ?_
  rw [nums_size, head_len e s n (by omega) hn]
  exact Ev.now _

theorem rfits_ok {e S : Int} {s : Nat} (h : Cfg e s S) (n u c x : Int) (hu : 0 ≤ u) (hu2 : u ≤ 100000000) (hc : 0 ≤ c) (hc2 : c ≤ 1000) (hx2 : x ≤ 9223372036854775807) : Ev (fun k => fascicleref14_Fits.f k e (s : Int) n u c x) (fitsb S u c x) := by
  have hS := pair_S h.p
  have hm := most_pos (n := c + 1) (by omega)
  unfold fascicleref14_Fits.f fitsb
  by_cases hx : x < 1
  · rw [decide_eq_false (by omega)]
    refine Ev.congr (f := fun k => fascicleref14_Fits.j0 k x true e (s : Int) n u c) (fun k => by rw [if_pos hx]) ?_
    exact Ev.step (f := fun _ => some false) (fun k => by simp only [fascicleref14_Fits.j0, if_true]) (Ev.now _)
  refine Ev.congr (f := fun k => (fascicleref08_Size.f k e (s : Int)).bind fun t278 => (fascicleref14_Fits.j0 k x (decide ((IntKind.u64.wrap x) > t278)) e (s : Int) n u c)) (fun k => by rw [if_neg hx]) ?_
  refine Ev.bind (rsize_ok h.p (s : Int)) ?_
  rw [wu64 (x := x) (by omega) (by omega)]
  by_cases hg : x > S
  · rw [decide_eq_true hg, decide_eq_false (by omega)]
    exact Ev.step (f := fun _ => some false) (fun k => by simp only [fascicleref14_Fits.j0, if_true]) (Ev.now _)
  · rw [decide_eq_false hg]
    refine Ev.step (f := fun k => (fascicleref08_Size.f k e (s : Int)).bind fun t280 => some (decide (u + x + most (c + 1) ≤ t280))) (fun k => ?_) ?_
    · simp only [fascicleref14_Fits.j0]
      rw [if_neg (by decide), w64 (x := c + 1) (by omega) (by omega), rmost_f (by omega) (by omega), Option.bind_some, w64 (x := u + x) (by omega) (by omega), w64 (by omega) (by omega), wu64 (by omega) (by omega)]
    · refine Ev.bind (rsize_ok h.p (s : Int)) ?_
      rw [show decide (1 ≤ x ∧ u + x + most (c + 1) ≤ S) = decide (u + x + most (c + 1) ≤ S) from decide_eq_decide.2 ⟨fun h => h.2, fun h => ⟨by omega, h⟩⟩]
      exact Ev.now _
theorem rplan_l0 {e S : Int} {s : Nat} (h : Cfg e s S) (xs : List Int) (hxl : xs.length ≤ 200) (hxx : ∀ x ∈ xs, x ≤ 9223372036854775807) : ∀ (d i n : Nat) (u c : Int) (out : List Int), i + d = xs.length → n < s → 0 ≤ u → u ≤ S → 0 ≤ c → c ≤ i → out.length = i →
    Ev (fun k => fascicleref14_Plan.l0 k out xs (xs.length : Int) (i : Int) e (s : Int) e (s : Int) (n : Int) u c e (s : Int) ((s - 1 : Nat) : Int) (HL s (s - 1) : Int) 0) (planm S s (xs.drop i) n u c out) := by
  have hS := pair_S h.p
  have hs1 := h.s1
  have hs2 := h.s2
  have hHL := HL_small (s := s) (n := s - 1) (by omega) (by omega)
  intro d
  induction d with
  | zero =>
    intro i n u c out h1 h2 h3 h4 h5 h6 h7
    rw [List.drop_eq_nil_of_le (by omega)]
    refine Ev.step (f := fun _ => some (out, 0)) (fun k => ?_) (Ev.now _)
    simp only [fascicleref14_Plan.l0]
    rw [if_neg (by omega)]
  | succ d ih =>
    intro i n u c out h1 h2 h3 h4 h5 h6 h7
    have hin : i < xs.length := by omega
    have hxi := hxx xs[i] (List.getElem_mem hin)
    rw [List.drop_eq_getElem_cons hin]
    generalize hx : xs[i] = x at hxi ⊢
    have hrd : rd xs (i : Int) = x := by rw [rd_xs xs i hin, hx]
    unfold planm
    have f1 := rfits_ok h ((s - 1 : Nat) : Int) (HL s (s - 1) : Int) 0 x (by omega) (by omega) (by omega) (by omega) hxi
    have f2 := rfits_ok h (n : Int) u c x h3 (by omega) h5 (by omega) hxi
    refine Ev.step (f := fun k => (fascicleref14_Fits.f k e (s : Int) ((s - 1 : Nat) : Int) (HL s (s - 1) : Int) 0 x).bind fun t335 => (if t335 = true then ((fascicleref14_Fits.f k e (s : Int) (n : Int) u c x).bind fun t336 => (if t336 = true then (fascicleref14_Plan.l0 k (out ++ [(n : Int)]) xs (xs.length : Int) ((i + 1 : Nat) : Int) e (s : Int) e (s : Int) (n : Int) (wrap64 (u + x)) (wrap64 (c + 1)) e (s : Int) ((s - 1 : Nat) : Int) (HL s (s - 1) : Int) 0) else (if n + 1 < s then ((fascicleref14_Empty.f k e (s : Int) ((n + 1 : Nat) : Int)).bind fun bt345 => (fascicleref14_Plan.l0 k (out ++ [bt345.2.2.1]) xs (xs.length : Int) ((i + 1 : Nat) : Int) e (s : Int) bt345.1 bt345.2.1 bt345.2.2.1 (wrap64 (bt345.2.2.2.1 + x)) (wrap64 (bt345.2.2.2.2 + 1)) e (s : Int) ((s - 1 : Nat) : Int) (HL s (s - 1) : Int) 0)) else some ([], 7)))) else some ([], 6))) (fun k => ?_) ?_
    · simp only [fascicleref14_Plan.l0]
      rw [if_pos (by omega), if_pos (by omega), if_pos (by omega), hrd]
      congr 1
      funext t335
      cases t335 with
      | false => rw [if_neg (show ¬ (false = true) by decide), if_neg (show ¬ (false = true) by decide)]
      | true =>
        rw [if_pos rfl, if_pos rfl]
        congr 1
        funext t336
        cases t336 with
        | true =>
          rw [if_pos rfl, if_pos rfl]
          unfold fascicleref14_Take.f
          rw [Option.bind_some, if_pos (by omega), w64 (x := (i : Int) + 1) (by omega) (by omega)]
          rfl
        | false =>
          rw [if_neg (show ¬ (false = true) by decide), if_neg (show ¬ (false = true) by decide), wu64 (x := (n : Int) + 1) (by omega) (by omega), wu64 (x := (s : Int)) (by omega) (by omega)]
          by_cases hn1 : n + 1 < s
          · rw [if_pos hn1, if_neg (show ¬ ((n : Int) + 1 ≥ (s : Int)) by omega), show (n : Int) + 1 = ((n + 1 : Nat) : Int) by omega]
            congr 1
            funext bt345
            unfold fascicleref14_Take.f
            rw [Option.bind_some, if_pos (by omega), w64 (x := (i : Int) + 1) (by omega) (by omega)]
            rfl
          · rw [if_neg hn1, if_pos (show ((n : Int) + 1 ≥ (s : Int)) by omega)]
    refine Ev.bind f1 ?_
    cases hf1 : fitsb S (HL s (s - 1)) 0 x with
    | false =>
      rw [if_neg (by decide)]
      exact Ev.congr (f := fun _ => some ([], 6)) (fun k => by rw [if_neg (by decide)]) (Ev.now _)
    | true =>
      rw [if_pos rfl]
      refine Ev.congr (f := fun k => (fascicleref14_Fits.f k e (s : Int) (n : Int) u c x).bind fun t336 => (if t336 = true then (fascicleref14_Plan.l0 k (out ++ [(n : Int)]) xs (xs.length : Int) ((i + 1 : Nat) : Int) e (s : Int) e (s : Int) (n : Int) (wrap64 (u + x)) (wrap64 (c + 1)) e (s : Int) ((s - 1 : Nat) : Int) (HL s (s - 1) : Int) 0) else (if n + 1 < s then ((fascicleref14_Empty.f k e (s : Int) ((n + 1 : Nat) : Int)).bind fun bt345 => (fascicleref14_Plan.l0 k (out ++ [bt345.2.2.1]) xs (xs.length : Int) ((i + 1 : Nat) : Int) e (s : Int) bt345.1 bt345.2.1 bt345.2.2.1 (wrap64 (bt345.2.2.2.1 + x)) (wrap64 (bt345.2.2.2.2 + 1)) e (s : Int) ((s - 1 : Nat) : Int) (HL s (s - 1) : Int) 0)) else some ([], 7)))) (fun k => by rw [if_pos rfl]) ?_
      refine Ev.bind f2 ?_
      cases hf2 : fitsb S u c x with
      | true =>
        have hus := fits_used hf2 h5
        rw [if_pos rfl]
        refine Ev.congr (f := fun k => fascicleref14_Plan.l0 k (out ++ [(n : Int)]) xs (xs.length : Int) ((i + 1 : Nat) : Int) e (s : Int) e (s : Int) (n : Int) (u + x) (c + 1) e (s : Int) ((s - 1 : Nat) : Int) (HL s (s - 1) : Int) 0) (fun k => ?_) (ih (i + 1) n (u + x) (c + 1) (out ++ [(n : Int)]) (by omega) h2 (by omega) (by omega) (by omega) (by omega) (by rw [List.length_append, h7]; rfl))
        rw [if_pos rfl, w64 (x := u + x) (by omega) (by omega), w64 (x := c + 1) (by omega) (by omega)]
      | false =>
        rw [if_neg (by decide)]
        by_cases hn1 : n + 1 < s
        · rw [if_pos hn1]
          have hle := HL_le (s := s) (show n + 1 ≤ s - 1 by omega)
          have hf3 : fitsb S (HL s (n + 1)) 0 x = true := fits_le (c := 0) hf1 (by omega)
          have hus := fits_used hf3 (by omega)
          have hem := rempty_ok h (n + 1) (by omega)
          refine Ev.congr (f := fun k => (fascicleref14_Empty.f k e (s : Int) ((n + 1 : Nat) : Int)).bind fun bt345 => (fascicleref14_Plan.l0 k (out ++ [bt345.2.2.1]) xs (xs.length : Int) ((i + 1 : Nat) : Int) e (s : Int) bt345.1 bt345.2.1 bt345.2.2.1 (wrap64 (bt345.2.2.2.1 + x)) (wrap64 (bt345.2.2.2.2 + 1)) e (s : Int) ((s - 1 : Nat) : Int) (HL s (s - 1) : Int) 0)) (fun k => by rw [if_neg (by decide), if_pos hn1]) ?_
          refine Ev.bind hem ?_
          refine Ev.congr (f := fun k => fascicleref14_Plan.l0 k (out ++ [((n + 1 : Nat) : Int)]) xs (xs.length : Int) ((i + 1 : Nat) : Int) e (s : Int) e (s : Int) ((n + 1 : Nat) : Int) (HL s (n + 1) + x) 1 e (s : Int) ((s - 1 : Nat) : Int) (HL s (s - 1) : Int) 0) (fun k => ?_) (ih (i + 1) (n + 1) (HL s (n + 1) + x) 1 (out ++ [((n + 1 : Nat) : Int)]) (by omega) hn1 (by omega) (by omega) (by omega) (by omega) (by rw [List.length_append, h7]; rfl))
          dsimp only
          rw [w64 (x := (HL s (n + 1) : Int) + x) (by omega) (by omega), w64 (x := (0 : Int) + 1) (by omega) (by omega), Int.zero_add]
        · rw [if_neg hn1]
          exact Ev.congr (f := fun _ => some ([], 7)) (fun k => by rw [if_neg (by decide), if_neg hn1]) (Ev.now _)
theorem rplan_ok {e S : Int} {s : Nat} (h : Cfg e s S) (xs : List Int) (hxl : xs.length ≤ 200) (hxx : ∀ x ∈ xs, x ≤ 9223372036854775807) : Ev (fun k => fascicleref14_Plan.f k e (s : Int) xs) (planm S s xs 0 (HL s 0) 0 []) := by
  have hS := pair_S h.p
  have hs1 := h.s1
  have hs2 := h.s2
  have hHL := HL_small (s := s) (n := 0) (by omega) (by omega)
  have h1 := rempty_ok h 0 (by omega)
  have h2 := rempty_ok h (s - 1) (by omega)
  have hl := rplan_l0 h xs hxl hxx xs.length 0 0 (HL s 0 : Int) 0 [] (by omega) (by omega) (by omega) (by omega) (by omega) (by omega) rfl
  unfold fascicleref14_Plan.f
  rw [may_ok (by omega) (by omega) (by omega) (by omega), wu64 (x := (s : Int)) (by omega) (by omega), wu64 (x := (s : Int) - 1) (by omega) (by omega), show (s : Int) - 1 = ((s - 1 : Nat) : Int) by omega]
  refine Ev.congr (f := fun k => (fascicleref14_Empty.f k e (s : Int) ((0 : Nat) : Int)).bind fun bt278 => ((fascicleref14_Empty.f k e (s : Int) ((s - 1 : Nat) : Int)).bind fun bt284 => (fascicleref14_Plan.l0 k ([] : List Int) xs (xs.length : Int) 0 e (s : Int) bt278.1 bt278.2.1 bt278.2.2.1 bt278.2.2.2.1 bt278.2.2.2.2 bt284.1 bt284.2.1 bt284.2.2.1 bt284.2.2.2.1 bt284.2.2.2.2))) (fun k => ?_) ?_
  · rw [Option.bind_some, if_pos rfl]
    rfl
  refine Ev.bind h1 ?_
  refine Ev.bind h2 ?_
  exact hl
theorem rplan_bad {e s : Int} (h : ¬ (12 ≤ e ∧ e ≤ 24 ∧ 1 ≤ s ∧ s ≤ 65536)) (xs : List Int) : Ev (fun k => fascicleref14_Plan.f k e s xs) ([], 1) := by
  refine Ev.congr (f := fun _ => some ([], 1)) (fun k => ?_) (Ev.now _)
  unfold fascicleref14_Plan.f
  rw [may_no h, Option.bind_some, if_neg (by decide)]

end Go.Proofs.Ytnmdckgaljldhaa.LPack
