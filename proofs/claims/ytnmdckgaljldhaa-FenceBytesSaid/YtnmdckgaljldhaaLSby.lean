/- A text's bytes, as numbers. -/
import Derived.Test.YtnmdckgaljldhaaPureKit
set_option linter.unusedVariables false
set_option linter.unusedSimpArgs false
namespace Go.Proofs.Ytnmdckgaljldhaa.Sep
open Go Go.RowKit Go.Proofs.YtnmdckgaljldhaaW.PrintWords Go.Proofs.YtnmdckgaljldhaaW.PrintLast Go.Proofs.YtnmdckgaljldhaaW.PrintMore Go.Proofs.Ytnmdckgaljldhaa.PureKit

/-- A text's bytes. -/
def sby (s : ByteArray) : List Int := s.data.toList.map fun b => (b.toNat : Int)
theorem sby_len (s : ByteArray) : (sby s).length = s.size := by
  unfold sby
  rw [List.length_map, Array.length_toList]
  rfl
theorem sby_bytes (s : ByteArray) : Bytes (sby s) := by
  intro x hx
  obtain ⟨b, _, rfl⟩ := List.mem_map.1 hx
  have := b.toNat_lt
  omega
theorem nums_sby (s : ByteArray) : strOfNums (sby s) = s := by
  apply ext_bytes
  rw [nums_bytes, sby, List.map_map]
  conv => rhs; rw [← List.map_id s.data.toList]
  apply List.map_congr_left
  intro b _
  simp
theorem sby_nums (l : List Int) (h : Bytes l) : sby (strOfNums l) = l := by
  unfold sby
  rw [nums_bytes, List.map_map]
  conv => rhs; rw [← List.map_id l]
  apply List.map_congr_left
  intro x hx
  have := h x hx
  simp only [Function.comp, id, UInt8.toNat_ofNat']
  omega
theorem sby_inj {s t : ByteArray} (h : sby s = sby t) : s = t := by rw [← nums_sby s, ← nums_sby t, h]


end Go.Proofs.Ytnmdckgaljldhaa.Sep
