/- fasciclelaw05.CobsMost holds: as many bytes as there may be; for every input, no condition. -/
import Derived.Test.YtdpghobknhkikaaGx10
import Derived.Test.YtdpghobknhkikaaLCobs
set_option linter.unusedVariables false
namespace Go.Proofs.Ytdpghobknhkikaa.LCobs
open Go.RowKit Go.Proofs.Ytdpghobknhkikaa.G Go.Proofs.YtdpghobknhkikaaW.PrintWords Go.Proofs.YtdpghobknhkikaaW.PrintLast Go.Proofs.Ytdpghobknhkikaa.PureKit

theorem most_law (n at_ : Int) (h0 : 0 ≤ n) (h1 : n ≤ 65535) (g0 : 0 ≤ at_) (g1 : at_ ≤ 65535) : Ev (fun k => fasciclelaw05_CobsMost.f k n at_) true := by
  unfold fasciclelaw05_CobsMost.f
  refine Ev.bind (f := fun k t => if t = true then ((cobs_Most.f 0).bind fun t273 => (if t273 = 1 then ((cobs_Most.f (-5)).bind fun t274 => (if t274 = 1 then ((cobs_Most.f 254).bind fun t275 => (if t275 = 255 then ((cobs_Most.f 255).bind fun t276 => (fasciclelaw05_CobsMost.j0 k n at_ (t276 != 257))) else (fasciclelaw05_CobsMost.j0 k n at_ true))) else (fasciclelaw05_CobsMost.j0 k n at_ true))) else (fasciclelaw05_CobsMost.j0 k n at_ true))) else (fasciclelaw05_CobsMost.j0 k n at_ true)) lives_f ?_
  have c0 : cobs_Most.f 0 = some 1 := by decide +kernel
  have c1 : cobs_Most.f (-5) = some 1 := by decide +kernel
  have c2 : cobs_Most.f 254 = some 255 := by decide +kernel
  have c3 : cobs_Most.f 255 = some 257 := by decide +kernel
  simp only [c0, c1, c2, c3, Option.bind_some, if_true]
  generalize hx : more (n % 1100).toNat = x
  have hxl : x.length = (n % 1100).toNat := by rw [← hx, more_len]
  have hxb : Bytes x := by rw [← hx]; exact more_bytes _
  have hxz : NoZ x := by rw [← hx]; exact more_noz _
  have hlong := long_f [] n h0 h1 (by simp)
  rw [List.nil_append, hx] at hlong
  have hst := stuff_f x hxb (by omega)
  have hmo := most_f (x.length : Int) (by omega) (by omega)
  have hsl := stf_len_noz x [] (by simp) hxz
  simp only [List.length_nil, Nat.zero_add] at hsl
  refine Ev.step (f := ?ff0) (fun k => ?hs0) ?ht0
  case hs0 =>
    simp only [fasciclelaw05_CobsMost.j0]
    rw [if_neg (by decide)]
    try exact rfl
  refine Ev.bind hlong ?_
  refine Ev.bind hst ?_
  simp only [hmo, Option.bind_some]
  refine Ev.congr (f := ?ff1) (fun k => ?hs1) ?ht1
  case hs1 =>
    rw [if_pos (by omega)]
    try exact rfl
  by_cases hz : x.length = 0
  · refine Ev.congr (f := fun _ => some true) (fun k => ?_) (Ev.now _)
    rw [if_pos (by omega)]
  · have hw : wrap64 at_ = at_ := w64 (by omega) (by omega)
    have htm : Int.tmod at_ (x.length : Int) = at_ % (x.length : Int) := Int.tmod_eq_emod_of_nonneg g0
    have hm0 := Int.emod_nonneg at_ (show (x.length : Int) ≠ 0 by omega)
    have hm1 := Int.emod_lt_of_pos at_ (show (0 : Int) < x.length by omega)
    generalize hy : x.set (at_ % (x.length : Int)).toNat 0 = y
    have hyl : y.length = x.length := by rw [← hy, List.length_set]
    have hyb : Bytes y := by
      intro z hzm
      rw [← hy] at hzm
      rcases List.mem_or_eq_of_mem_set hzm with h | h
      · exact hxb z h
      · omega
    have hst2 := stuff_f y hyb (by omega)
    have hsl2 := stf_len y [] (by simp)
    simp only [List.length_nil, Nat.zero_add] at hsl2
    refine Ev.congr (f := ?ff2) (fun k => ?hs2) ?ht2
    case hs2 =>
      rw [if_neg (by omega), hw, htm, if_pos hm0, if_pos hm1, hy]
      try exact rfl
    refine Ev.bind hst2 ?_
    refine Ev.eq (Ev.now _) ?_
    rw [decide_eq_true_iff]
    rw [hyl] at hsl2
    omega

end Go.Proofs.Ytdpghobknhkikaa.LCobs
namespace Go.Proofs.Ytdpghobknhkikaa.Pure
open Go.RowKit Go.Proofs.Ytdpghobknhkikaa.G Go.Proofs.YtdpghobknhkikaaW.PrintWords Go.Proofs.YtdpghobknhkikaaW.PrintLast

theorem CobsMost : fasciclelaw05_CobsMost.Pure := by
  intro a0 a1 h0 h1
  exact (LCobs.most_law a0 a1 (bounds_u16 h0).1 (bounds_u16 h0).2 (bounds_u16 h1).1 (bounds_u16 h1).2).rounds

end Go.Proofs.Ytdpghobknhkikaa.Pure
