/- table.Sorted and the chapter's example, in the printed form. -/
import Derived.Test.YtnmdckgaljldhaaHTable11
set_option linter.unusedVariables false
set_option linter.unusedSimpArgs false
namespace Go.Proofs.Ytnmdckgaljldhaa.G
open Go Go.RowKit Go.Proofs.YtnmdckgaljldhaaW.PrintWords Go.Proofs.YtnmdckgaljldhaaW.PrintLast Go.Proofs.YtnmdckgaljldhaaW.PrintMore Go.Proofs.Ytnmdckgaljldhaa.Sep Go.Proofs.Ytnmdckgaljldhaa.Tb

def table_Sorted.f (l0 : List (S81)) : Option (List (S81)) := if l0.length ≤ 1000000 then some (sortE l0) else none
theorem table_Sorted.calls (A0 : Option Addr) (c0 : Nat) (l0 : List (S81)) (r : List (S81)) (w : World) (hr0 : Kd.C k81 w A0 l0.length l0) (hc0 : l0.length ≤ c0) (h : table_Sorted.f l0 = some r) :
    Calls Try.prog 46 #[.slice A0 l0.length c0] w fun e w' => ∃ v0_ : Value, e = .returned (v0_) ∧ Kd.R k81 81 w' w.heap.size (fun _ => True) v0_ r ∧ Below w.heap.size w w' := by
  unfold table_Sorted.f at h
  split at h
  · rename_i hl
    cases Option.some.inj h
    refine (sorted_call w w A0 c0 l0 [] (Sep.start w) hr0 hl).mono ?_
    rintro e w' ⟨A', cap, rfl, hS⟩
    obtain ⟨hb, bs, ⟨b1, b2, e1, hp, hs⟩, hn, hr⟩ := hS
    exact ⟨_, rfl, Kd.R_raise (b := 0) (fun _ _ _ _ hm => hm) (Kd.R_mono hp (fun _ _ => trivial)) (fun j hj => (hr j (by rw [e1]; exact List.mem_append_left _ (hp.1 j hj))).1), hb⟩
  · cases h

def fasciclelaw11_lives.f : Option Bool := some true
theorem fasciclelaw11_lives.calls (r : Bool) (w : World) (h : fasciclelaw11_lives.f = some r) :
    Calls Try.prog 45 #[] w fun e w' => e = .returned (.bool r) ∧ Below w.heap.size w w' := by
  obtain rfl := Option.some.inj h
  exact lives11 w

end Go.Proofs.Ytnmdckgaljldhaa.G
