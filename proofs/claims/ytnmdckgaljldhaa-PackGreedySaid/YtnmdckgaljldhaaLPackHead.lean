/- pack: a head's length, the document's. -/
import Derived.Test.YtnmdckgaljldhaaLPack
import Derived.Test.YtnmdckgaljldhaaLFrameSeal
import Derived.Test.YtnmdckgaljldhaaMLNum
import Derived.Test.YtnmdckgaljldhaaGx8
set_option linter.unusedVariables false
set_option linter.unusedSimpArgs false
namespace Go.Proofs.Ytnmdckgaljldhaa.LPack
open Go Go.RowKit Go.Proofs.Ytnmdckgaljldhaa.G Go.Proofs.YtnmdckgaljldhaaW.PrintWords Go.Proofs.YtnmdckgaljldhaaW.PrintLast Go.Proofs.YtnmdckgaljldhaaW.PrintMore Go.Proofs.Ytnmdckgaljldhaa.PureKit Go.Proofs.Ytnmdckgaljldhaa.Sep Go.Proofs.Ytnmdckgaljldhaa.Rol Go.Proofs.Ytnmdckgaljldhaa.LCobs
open Go.Proofs.Ytnmdckgaljldhaa.LConfig (Pair pair_of size_ok size_no may_ok may_no pair_S)

theorem head_ev (e : Int) (s n : Nat) (h0 : 0 ≤ e) (h1 : e ≤ 255) (hs : s < 4294967296) (hn : n < 4294967296) : Ev (fun k => fascicleref09_Head.f k e (s : Int) (n : Int)) (strOfNums (sealed (hbody e s n) ++ [0])) := by
  have r1 := refnum s (by omega)
  have r2 := refnum n (by omega)
  have hl1 := vl_small hs
  have hl2 := vl_small hn
  have r3 := ref_seal (hbody e s n) (hbody_bytes e s n h0 h1) (by have := hbody_len e s n hs hn; omega)
  have hw : IntKind.u64.wrap (s : Int) = (s : Int) := wu64 (by omega) (by omega)
  have hj : (⟨#[1, 2]⟩ : ByteArray) ++ strOfNums [e] = strOfNums [1, 2, e] := by
    rw [show (⟨#[1, 2]⟩ : ByteArray) = strOfNums [1, 2] by decide, PureKit.nums_append]; rfl
  unfold fascicleref09_Head.f
  rw [hw]
  simp only [Option.bind_some, hj]
  refine Ev.congr (f := fun k => (fascicleref02_Num.f k (s : Int)).bind fun t270 => (if (strOfNums [1, 2, e]).size + t270.size ≤ 9223372036854775807 then ((fascicleref02_Num.f k (n : Int)).bind fun t271 => (if (strOfNums [1, 2, e] ++ t270).size + t271.size ≤ 9223372036854775807 then ((fascicleref09_Seal.f k ((strOfNums [1, 2, e] ++ t270) ++ t271)).bind fun t272 => (some t272)) else (none))) else (none))) (fun k => ?_) ?_
  · rw [if_pos (by rw [nums_size]; simp)]
  refine Ev.bind r1 ?_
  have c1 : (strOfNums [1, 2, e]).size + (strOfNums (venc s)).size ≤ 9223372036854775807 := by
    rw [nums_size, nums_size]; unfold vl at hl1; simp only [List.length_cons, List.length_nil]; omega
  refine Ev.congr (f := fun k => (fascicleref02_Num.f k (n : Int)).bind fun t271 => (if (strOfNums [1, 2, e] ++ strOfNums (venc s)).size + t271.size ≤ 9223372036854775807 then ((fascicleref09_Seal.f k ((strOfNums [1, 2, e] ++ strOfNums (venc s)) ++ t271)).bind fun t272 => (some t272)) else (none))) (fun k => ?_) ?_
  · rw [if_pos c1]
  refine Ev.bind r2 ?_
  have c2 : (strOfNums [1, 2, e] ++ strOfNums (venc s)).size + (strOfNums (venc n)).size ≤ 9223372036854775807 := by
    rw [PureKit.nums_append, nums_size, nums_size]; unfold vl at hl1 hl2; simp only [List.length_append, List.length_cons, List.length_nil]; omega
  refine Ev.congr (f := fun k => (fascicleref09_Seal.f k (strOfNums (hbody e s n))).bind fun t272 => some t272) (fun k => ?_) ?_
  · rw [if_pos c2, PureKit.nums_append, PureKit.nums_append]
    rfl
  exact Ev.bind r3 (Ev.now _)

end Go.Proofs.Ytnmdckgaljldhaa.LPack
