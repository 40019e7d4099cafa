/- fasciclelaw10.lives: the chapter's example holds. -/
import Derived.Test.YtmlodmpkcbncjaaMElder
set_option linter.unusedVariables false
set_option linter.unusedSimpArgs false
namespace Go.Proofs.Ytmlodmpkcbncjaa.G
open Go Go.RowKit Go.Proofs.YtmlodmpkcbncjaaW.PrintWords Go.Proofs.YtmlodmpkcbncjaaW.PrintLast Go.Proofs.YtmlodmpkcbncjaaW.PrintMore Go.Proofs.Ytmlodmpkcbncjaa.PureKit Go.Proofs.Ytmlodmpkcbncjaa.Sep

def fasciclelaw10_lives.f : Option Bool := some true
theorem put_a : ∃ t : List Int, t.length = 4 ∧ elder_Put.f ⟨#[97]⟩ ⟨#[]⟩ = some ([1, 0, 0, 0, 0, 0, 0, 0, 97] ++ t, 0) := by
  refine ⟨_, nbytes_len 4 ((Rol.tsum 0 (ehead ⟨#[97]⟩ ⟨#[]⟩) : Nat) : Int), ?_⟩
  unfold elder_Put.f
  rw [if_pos ⟨by decide, by decide⟩, if_pos (by decide)]
  unfold ebytes
  rw [show ehead ⟨#[97]⟩ ⟨#[]⟩ = [1, 0, 0, 0, 0, 0, 0, 0, 97] from rfl]
set_option maxHeartbeats 1000000 in
set_option maxRecDepth 100000 in
theorem fasciclelaw10_lives.calls (r : Bool) (w : World) (h : fasciclelaw10_lives.f = some r) :
    Calls Try.prog 38 #[] w fun e w' => e = .returned (.bool r) ∧ Below w.heap.size w w' := by
  obtain rfl := Option.some.inj h
  obtain ⟨t, ht, hput⟩ := put_a
  have hq : ((strOfNums [1, 0, 0, 0, 0, 0, 0, 0, 97]).toList == ([1, 0, 0, 0, 0, 0, 0, 0, 97] : List UInt8)) = true := by rw [Lib.toList_data, nums_bytes]; rfl
  have hn : ([1, 0, 0, 0, 0, 0, 0, 0, 97] ++ t : List Int).length = 13 := by rw [List.length_append, ht]; rfl
  have hput := Aside0.mk hput
  obtain ⟨L, hL⟩ : ∃ L, ([1, 0, 0, 0, 0, 0, 0, 0, 97] ++ t : List Int) = L := ⟨_, rfl⟩
  have htk : L.take 9 = [1, 0, 0, 0, 0, 0, 0, 0, 97] := by rw [← hL]; rfl
  rw [hL] at hput hn
  have htk := Aside0.mk htk
  clear hL ht h
  have hnA := Aside0.mk hn
  clear hn
  go_enter Try.func38, Try.ntmps38
  go_wp2_with (fail)
  refine (elder_Put.calls _ _ _ _ _ hput.out).mono ?_
  rintro e w1 ⟨v1, rfl, h1, hb⟩
  obtain ⟨A1, c1, rfl⟩ := Kd.R_slice h1
  have hR := Kd.R_reads' h1
  have hC9 := Kd.C_take (m := 9) hR.2.2 (by rw [hnA.out]; decide)
  rw [hnA.out] at hR ⊢
  have hB1 := Aside0.mk hb
  obtain ⟨i0, hi0, _, hsz, _⟩ := info_parts tinfo8
  have hc13 : 13 ≤ c1 := by have := hR.2.1; omega
  have hcut := cut_to (P := Try.prog) 22 5 .i64 Try.underlying22 hi0 A1 13 c1 9 (by decide) (by decide) hc13
  rw [htk.out] at hC9
  have hcv : (Go.convert 22 9 (.slice A1 9 c1)).run Try.prog w1 = .ok (.string (strOfNums [1, 0, 0, 0, 0, 0, 0, 0, 97])) w1 := Kd.C_string (P := Try.prog) (A := A1) (c := c1) Try.underlying22 Try.underlying5 Try.underlying9 hC9
  clear h1 hb hR hi0 hsz

  go_wp2
  go_ret
  exact ⟨rfl, hB1.out⟩

end Go.Proofs.Ytmlodmpkcbncjaa.G
