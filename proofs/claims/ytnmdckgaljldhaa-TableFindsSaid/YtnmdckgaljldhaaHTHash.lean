/- table.Hash: a text's bytes summed. -/
import Derived.Test.YtnmdckgaljldhaaMWide
import Derived.Test.YtnmdckgaljldhaaLSby
set_option linter.unusedVariables false
set_option linter.unusedSimpArgs false
namespace Go.Proofs.Ytnmdckgaljldhaa.SepH
open Go Go.RowKit Go.Proofs.YtnmdckgaljldhaaW.PrintWords Go.Proofs.YtnmdckgaljldhaaW.PrintLast Go.Proofs.YtnmdckgaljldhaaW.PrintMore Go.Proofs.Ytnmdckgaljldhaa.PureKit Go.Proofs.Ytnmdckgaljldhaa.Sep

theorem str_C0 {w : World} {g cap e : Nat} {n : Nat × Nat} {s : ByteArray} (h3 : w.heap[g]? = some (.cells (bytesRow s cap) e n)) (hs : s.size ≤ 9223372036854775807) :
    Kd.C (Kd.int .u8) w (some ⟨g, 0, none⟩) (sby s).length (sby s) := by
  refine ⟨rfl, by rw [sby_len]; exact hs, fun _ => ⟨_, rfl, fun j p hj => ⟨[.int .u8 p], rfl, rfl, fun i u hu => ?_⟩⟩⟩
  have hi : i = 0 := by
    rcases i with _ | i
    · rfl
    · simp at hu
  subst hi
  simp only [List.getElem?_cons_zero, Option.some.injEq] at hu
  subst hu
  have hl : j < (sby s).length := (List.getElem?_eq_some_iff.1 hj).1
  rw [sby_len] at hl
  have ha : (⟨g, 0, none⟩ : Addr).add (j * 1 + 0) = ⟨g, j, none⟩ := by unfold Addr.add; split <;> simp_all
  show World.cell? _ ((⟨g, 0, none⟩ : Addr).add (j * 1 + 0)) = _
  rw [ha]
  simp only [World.cell?, h3]
  have h2 : (sby s)[j]? = some p := hj
  simp only [sby, List.getElem?_map, Option.map_eq_some_iff] at h2
  obtain ⟨b, hb2, rfl⟩ := h2
  have hb3 : s.data[j]? = some b := by rw [← Array.getElem?_toList]; exact hb2
  obtain ⟨hl3, hb4⟩ := Array.getElem?_eq_some_iff.1 hb3
  have hl2 : j < s.data.size := hl3
  simp [bytesRow, Array.getElem?_append, hl, hb4, hl2]

end Go.Proofs.Ytnmdckgaljldhaa.SepH
namespace Go.Proofs.Ytnmdckgaljldhaa.G
open Go Go.RowKit Go.Proofs.YtnmdckgaljldhaaW.PrintWords Go.Proofs.YtnmdckgaljldhaaW.PrintLast Go.Proofs.YtnmdckgaljldhaaW.PrintMore Go.Proofs.Ytnmdckgaljldhaa.PureKit Go.Proofs.Ytnmdckgaljldhaa.Sep Go.Proofs.Ytnmdckgaljldhaa.SepH Go.Proofs.Ytnmdckgaljldhaa.Rol
set_option maxHeartbeats 4000000
set_option maxRecDepth 100000

def table_Hash.f (a0 : ByteArray) : Option Int := if a0.size ≤ 1000000 then some ((wsum 0 (sby a0) : Nat) : Int) else none
theorem hash_call (w : World) (s : ByteArray) (hs : s.size ≤ 1000000) :
    Calls Try.prog 60 #[.string s] w fun e w' => e = .returned (.int .u64 ((wsum 0 (sby s) : Nat) : Int)) ∧ Below w.heap.size w w' := by
  have hcv := Lib.run_convert_string_bytes (P := Try.prog) w 9 27 5 s Try.underlying9 Try.underlying27 Try.underlying5
  have hC := str_C0 (cap := grownCap w s.size 0 5) (Lib.bytesWorld_at_new w 5 s) (by omega)
  have hB := Aside0.mk (bytes_below (Below.refl w.heap.size w) (Nat.le_refl _) 5 s)
  have hcap := grownCap_ge w s.size 0 5
  have hlen := sby_len s
  generalize grownCap w s.size 0 5 = cp at *
  generalize Lib.bytesWorld w 5 s = w1 at *
  have hcall := Aside0.mk (wide_Sum_calls w1 (some ⟨w.heap.size, 0, none⟩) cp (sby s) 0 0 rfl hC (by omega) (sby_bytes s) (by decide) (by omega))
  rw [hlen] at hcall
  clear hC hs hcap hlen
  go_enter Try.func60, Try.ntmps60
  go_wp2_with (fail)
  refine hcall.out.mono ?_
  rintro e w2 ⟨rfl, hb2⟩
  have hB2 := Aside0.mk hb2
  clear hb2
  go_wp2_with (fail)
  go_ret
  exact ⟨rfl, hB.out.trans (hB2.out.mono hB.out.size)⟩
theorem table_Hash.calls (a0 : ByteArray) (r : Int) (w : World) (h : table_Hash.f a0 = some r) :
    Calls Try.prog 60 #[.string a0] w fun e w' => e = .returned (.int .u64 r) ∧ Below w.heap.size w w' := by
  unfold table_Hash.f at h
  split at h
  · rename_i hl
    cases Option.some.inj h
    exact hash_call w a0 hl
  · cases h
end Go.Proofs.Ytnmdckgaljldhaa.G
