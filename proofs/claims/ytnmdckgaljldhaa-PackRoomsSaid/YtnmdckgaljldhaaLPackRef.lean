/- pack: the document's rooms and plans. -/
import Derived.Test.YtnmdckgaljldhaaLPack
import Derived.Test.YtnmdckgaljldhaaLFrameSeal
import Derived.Test.YtnmdckgaljldhaaMLNum
import Derived.Test.YtnmdckgaljldhaaLConfigR
import Derived.Test.YtnmdckgaljldhaaGx9
import Derived.Test.YtnmdckgaljldhaaGx8
set_option linter.unusedVariables false
set_option linter.unusedSimpArgs false
namespace Go.Proofs.Ytnmdckgaljldhaa.LPack
open Go Go.RowKit Go.Proofs.Ytnmdckgaljldhaa.G Go.Proofs.YtnmdckgaljldhaaW.PrintWords Go.Proofs.YtnmdckgaljldhaaW.PrintLast Go.Proofs.YtnmdckgaljldhaaW.PrintMore Go.Proofs.Ytnmdckgaljldhaa.PureKit Go.Proofs.Ytnmdckgaljldhaa.Sep Go.Proofs.Ytnmdckgaljldhaa.Rol Go.Proofs.Ytnmdckgaljldhaa.LCobs
open Go.Proofs.Ytnmdckgaljldhaa.LConfig (Pair pair_of size_ok size_no may_ok may_no rsize_ok pair_S)

theorem rmost_f {n : Int} (h0 : 0 ≤ n) (h1 : n ≤ 100000) : fascicleref13_Most.f n = some (most n) := by
  unfold fascicleref13_Most.f
  rw [w64 (x := n + 15) (by omega) (by omega), Int.tdiv_eq_ediv_of_nonneg (by omega), w64 (x := (n + 15) / 16) (by omega) (by omega), w64 (x := 12 * n) (by omega) (by omega), w64 (x := 9 + 12 * n) (by omega) (by omega), w64 (x := 8 * ((n + 15) / 16)) (by omega) (by omega), w64 (x := 9 + 12 * n + 8 * ((n + 15) / 16)) (by omega) (by omega)]
  generalize hB : 9 + 12 * n + 8 * ((n + 15) / 16) = B
  have hB0 : 9 ≤ B ∧ B ≤ 10000000 := by omega
  rw [w64 (x := B + 8) (by omega) (by omega), w64 (x := B + 8 + 1) (by omega) (by omega), w64 (x := B + 8 - 1) (by omega) (by omega), Int.tdiv_eq_ediv_of_nonneg (by omega), w64 (x := (B + 8 - 1) / 254) (by omega) (by omega), w64 (x := B + 8 + 1 + (B + 8 - 1) / 254) (by omega) (by omega), w64 (x := B + 8 + 1 + (B + 8 - 1) / 254 + 1) (by omega) (by omega)]
  unfold most
  rw [hB]


theorem head_ev (e : Int) (s n : Nat) (h0 : 0 ≤ e) (h1 : e ≤ 255) (hs : s < 4294967296) (hn : n < 4294967296) : Ev (fun k => fascicleref09_Head.f k e (s : Int) (n : Int)) (strOfNums (sealed (hbody e s n) ++ [0])) := by
  have r1 := refnum s (by omega)
  have r2 := refnum n (by omega)
  have hl1 := vl_small hs
  have hl2 := vl_small hn
  have r3 := ref_seal (hbody e s n) (hbody_bytes e s n h0 h1) (by have := hbody_len e s n hs hn; omega)
  have hw : IntKind.u64.wrap (s : Int) = (s : Int) := wu64 (by omega) (by omega)
  have hj : (⟨#[1, 2]⟩ : ByteArray) ++ strOfNums [e] = strOfNums [1, 2, e] := by
    rw [show (⟨#[1, 2]⟩ : ByteArray) = strOfNums [1, 2] by decide, PureKit.nums_append]; rfl
  unfold fascicleref09_Head.f
  rw [hw]
  simp only [Option.bind_some, hj]
  refine Ev.congr (f := fun k => (fascicleref02_Num.f k (s : Int)).bind fun t270 => (if (strOfNums [1, 2, e]).size + t270.size ≤ 9223372036854775807 then ((fascicleref02_Num.f k (n : Int)).bind fun t271 => (if (strOfNums [1, 2, e] ++ t270).size + t271.size ≤ 9223372036854775807 then ((fascicleref09_Seal.f k ((strOfNums [1, 2, e] ++ t270) ++ t271)).bind fun t272 => (some t272)) else (none))) else (none))) (fun k => ?_) ?_
  · rw [if_pos (by rw [nums_size]; simp)]
  refine Ev.bind r1 ?_
  have c1 : (strOfNums [1, 2, e]).size + (strOfNums (venc s)).size ≤ 9223372036854775807 := by
    rw [nums_size, nums_size]; unfold vl at hl1; simp only [List.length_cons, List.length_nil]; omega
  refine Ev.congr (f := fun k => (fascicleref02_Num.f k (n : Int)).bind fun t271 => (if (strOfNums [1, 2, e] ++ strOfNums (venc s)).size + t271.size ≤ 9223372036854775807 then ((fascicleref09_Seal.f k ((strOfNums [1, 2, e] ++ strOfNums (venc s)) ++ t271)).bind fun t272 => (some t272)) else (none))) (fun k => ?_) ?_
  · rw [if_pos c1]
  refine Ev.bind r2 ?_
  have c2 : (strOfNums [1, 2, e] ++ strOfNums (venc s)).size + (strOfNums (venc n)).size ≤ 9223372036854775807 := by
    rw [PureKit.nums_append, nums_size, nums_size]; unfold vl at hl1 hl2; simp only [List.length_append, List.length_cons, List.length_nil]; omega
  refine Ev.congr (f := fun k => (fascicleref09_Seal.f k (strOfNums (hbody e s n))).bind fun t272 => some t272) (fun k => ?_) ?_
  · rw [if_pos c2, PureKit.nums_append, PureKit.nums_append]
    rfl
  exact Ev.bind r3 (Ev.now _)

theorem rempty_ok {e S : Int} {s : Nat} (h : Cfg e s S) (n : Nat) (hn : n < 4294967296) : Ev (fun k => fascicleref14_Empty.f k e (s : Int) (n : Int)) (e, (s : Int), (n : Int), (HL s n : Int), 0) := by
  have hS := pair_S h.p
  have h2 := h.s2
  unfold fascicleref14_Empty.f
  refine Ev.bind (head_ev e s n (by omega) (by omega) (by omega) hn) ?_
  rw [nums_size, head_len e s n (by omega) hn]
  exact Ev.now _

theorem rfits_ok {e S : Int} {s : Nat} (h : Cfg e s S) (n u c x : Int) (hu : 0 ≤ u) (hu2 : u ≤ 100000000) (hc : 0 ≤ c) (hc2 : c ≤ 1000) (hx2 : x ≤ 9223372036854775807) : Ev (fun k => fascicleref14_Fits.f k e (s : Int) n u c x) (fitsb S u c x) := by
  have hS := pair_S h.p
  have hm := most_pos (n := c + 1) (by omega)
  unfold fascicleref14_Fits.f fitsb
  by_cases hx : x < 1
  · rw [decide_eq_false (by omega)]
    refine Ev.congr (f := fun k => fascicleref14_Fits.j0 k x true e (s : Int) n u c) (fun k => by rw [if_pos hx]) ?_
    exact Ev.step (f := fun _ => some false) (fun k => by simp only [fascicleref14_Fits.j0, if_true]) (Ev.now _)
  refine Ev.congr (f := fun k => (fascicleref08_Size.f k e (s : Int)).bind fun t278 => (fascicleref14_Fits.j0 k x (decide ((IntKind.u64.wrap x) > t278)) e (s : Int) n u c)) (fun k => by rw [if_neg hx]) ?_
  refine Ev.bind (rsize_ok h.p (s : Int)) ?_
  rw [wu64 (x := x) (by omega) (by omega)]
  by_cases hg : x > S
  · rw [decide_eq_true hg, decide_eq_false (by omega)]
    exact Ev.step (f := fun _ => some false) (fun k => by simp only [fascicleref14_Fits.j0, if_true]) (Ev.now _)
  · rw [decide_eq_false hg]
    refine Ev.step (f := fun k => (fascicleref08_Size.f k e (s : Int)).bind fun t280 => some (decide (u + x + most (c + 1) ≤ t280))) (fun k => ?_) ?_
    · simp only [fascicleref14_Fits.j0]
      rw [if_neg (by decide), w64 (x := c + 1) (by omega) (by omega), rmost_f (by omega) (by omega), Option.bind_some, w64 (x := u + x) (by omega) (by omega), w64 (by omega) (by omega), wu64 (by omega) (by omega)]
    · refine Ev.bind (rsize_ok h.p (s : Int)) ?_
      rw [show decide (1 ≤ x ∧ u + x + most (c + 1) ≤ S) = decide (u + x + most (c + 1) ≤ S) from decide_eq_decide.2 ⟨fun h => h.2, fun h => ⟨by omega, h⟩⟩]
      exact Ev.now _

end Go.Proofs.Ytnmdckgaljldhaa.LPack
