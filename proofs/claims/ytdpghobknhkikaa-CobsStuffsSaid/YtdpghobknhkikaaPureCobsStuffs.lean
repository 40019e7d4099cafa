/- fasciclelaw05.CobsStuffs holds: stuffed as the document says, and back; for every input, no condition. -/
import Derived.Test.YtdpghobknhkikaaGx14
import Derived.Test.YtdpghobknhkikaaLCobs3
set_option linter.unusedVariables false
namespace Go.Proofs.Ytdpghobknhkikaa.LCobs
open Go.RowKit Go.Proofs.Ytdpghobknhkikaa.G Go.Proofs.YtdpghobknhkikaaW.PrintWords Go.Proofs.YtdpghobknhkikaaW.PrintLast Go.Proofs.Ytdpghobknhkikaa.PureKit

theorem stuffs_l0 (x o s : List Int) (hs : NoZ s) (hsl : s.length ≤ 1000000) (r : Bool)
    (h : Ev (fun k => fasciclelaw05_CobsStuffs.l0 k x o s s (s.length : Int) (s.length : Int)) r) :
    ∀ (d i : Nat), i + d = s.length → Ev (fun k => fasciclelaw05_CobsStuffs.l0 k x o s s (s.length : Int) (i : Int)) r := by
  intro d
  induction d with
  | zero =>
    intro i hi
    rw [show (i : Int) = (s.length : Int) by omega]
    exact h
  | succ d ih =>
    intro i hi
    have hlt : i < s.length := by omega
    refine Ev.step (fun k => ?_) (ih (i + 1) (by omega))
    simp only [fasciclelaw05_CobsStuffs.l0]
    rw [if_pos (by omega), if_pos (by omega), if_pos (by omega), rd_at s i hlt, if_neg (hs _ (List.getElem_mem hlt)), w64 (by omega) (by omega)]
    rfl

theorem stuffs_law (a : List Int) (n : Int) (tail : List Int) (ha : Bytes a) (h0 : 0 ≤ n) (h1 : n ≤ 65535) (ht : Bytes tail) : Ev (fun k => fasciclelaw05_CobsStuffs.f k a n tail) true := by
  unfold fasciclelaw05_CobsStuffs.f
  refine Ev.bind (f := fun k t => if t = true then (if (a.length : Int) > 400 then fasciclelaw05_CobsStuffs.j0 k a n tail true else fasciclelaw05_CobsStuffs.j0 k a n tail (decide ((tail.length : Int) > 400))) else fasciclelaw05_CobsStuffs.j0 k a n tail true) lives_f ?_
  simp only [if_true]
  have hliv : Ev (fun k => fasciclelaw05_CobsStuffs.j0 k a n tail true) true := by
    refine Ev.step (f := fun k => (fasciclelaw05_lives.f k).bind fun t => some t) (fun k => ?_) (Ev.bind (f := fun _ t => some t) lives_f (Ev.now _))
    simp only [fasciclelaw05_CobsStuffs.j0]; rfl
  by_cases hbig : (a.length : Int) > 400
  · refine Ev.congr (fun k => ?_) hliv
    rw [if_pos hbig]
  · by_cases hbig2 : (tail.length : Int) > 400
    · refine Ev.congr (fun k => ?_) hliv
      rw [if_neg hbig, decide_eq_true hbig2]
    · refine Ev.congr (f := fun k => fasciclelaw05_CobsStuffs.j0 k a n tail false) (fun k => ?_) ?_
      · rw [if_neg hbig, decide_eq_false hbig2]
      have hlong := long_f a n h0 h1 (by omega)
      have hml := more_len (n % 1100).toNat
      have hyb : Bytes (a ++ more (n % 1100).toNat) := ha.append (more_bytes _)
      have hyl : (a ++ more (n % 1100).toNat).length ≤ 2000 := by rw [List.length_append, hml]; omega
      generalize a ++ more (n % 1100).toNat = y at *
      have hxb : Bytes (y ++ tail) := hyb.append ht
      have hxl : (y ++ tail).length ≤ 3000 := by rw [List.length_append]; omega
      refine Ev.step (f := ?ff1) (fun k => ?hs1) ?ht1
      case hs1 =>
        simp only [fasciclelaw05_CobsStuffs.j0]
        rw [if_neg (by decide)]
        try exact rfl
      refine Ev.bind hlong ?_
      refine Ev.congr (f := ?ff2) (fun k => ?hs2) ?ht2
      case hs2 =>
        simp only [Option.bind_some, List.nil_append, List.length_nil]
        rw [if_pos (by omega), if_pos (by omega)]
        try exact rfl
      generalize y ++ tail = x at *
      have fx := stuff_f x hxb (by omega)
      have hsl := stuff_len x
      have hbs := stuffed_bytes x hxb
      have hsnz := stf_nz x
      have bk := back_f x hxb (by omega)
      have rf := ref_stuff_f x hxb (by omega)
      refine Ev.bind fx ?_
      generalize hS : stf x [] = s at *
      refine stuffs_l0 x x s hsnz (by omega) true ?_ s.length 0 (by omega)
      refine Ev.step (f := ?ff3) (fun k => ?hs3) ?ht3
      case hs3 =>
        simp only [fasciclelaw05_CobsStuffs.l0]
        rw [if_neg (by omega)]
        try exact rfl
      refine Ev.bind bk ?_
      refine Ev.bind rf ?_
      refine Ev.congr (f := ?ff4) (fun k => ?hs4) ?ht4
      case hs4 =>
        simp only [cobs_Size.f, if_true]
        try exact rfl
      have hsize : Ev (fun k => (cobs_Stuff.f k x).bind fun t366 => some (t366.length : Int)) (s.length : Int) := Ev.bind (f := fun _ t366 => some (t366.length : Int)) fx (Ev.now _)
      refine Ev.bind hsize ?_
      have hmo := most_f (x.length : Int) (by omega) (by omega)
      refine Ev.congr (f := fun _ => some true) (fun k => ?_) (Ev.now _)
      rw [if_pos rfl, hmo, Option.bind_some, if_pos (by omega)]
      simp

end Go.Proofs.Ytdpghobknhkikaa.LCobs
namespace Go.Proofs.Ytdpghobknhkikaa.Pure
open Go.RowKit Go.Proofs.Ytdpghobknhkikaa.G Go.Proofs.YtdpghobknhkikaaW.PrintWords Go.Proofs.YtdpghobknhkikaaW.PrintLast

theorem CobsStuffs : fasciclelaw05_CobsStuffs.Pure := by
  intro l0 a1 l2 _ _ h0 h1 _ _ h2
  exact (LCobs.stuffs_law l0 a1 l2 (PureKit.Bytes.of_wf h0) (bounds_u16 h1).1 (bounds_u16 h1).2 (PureKit.Bytes.of_wf h2)).rounds

end Go.Proofs.Ytdpghobknhkikaa.Pure
