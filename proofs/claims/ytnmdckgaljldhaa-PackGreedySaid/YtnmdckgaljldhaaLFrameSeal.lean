/- Frames: the document's seal is the program's; plain laws. -/
import Derived.Test.YtnmdckgaljldhaaHFrameSeal
import Derived.Test.YtnmdckgaljldhaaLRef04
import Derived.Test.YtnmdckgaljldhaaLCobsS
import Derived.Test.YtnmdckgaljldhaaMLNum
import Derived.Test.YtnmdckgaljldhaaGx7
set_option linter.unusedVariables false
set_option linter.unusedSimpArgs false
namespace Go.Proofs.Ytnmdckgaljldhaa.G
open Go Go.RowKit Go.Proofs.YtnmdckgaljldhaaW.PrintWords Go.Proofs.YtnmdckgaljldhaaW.PrintLast Go.Proofs.YtnmdckgaljldhaaW.PrintMore Go.Proofs.Ytnmdckgaljldhaa.PureKit Go.Proofs.Ytnmdckgaljldhaa.Sep Go.Proofs.Ytnmdckgaljldhaa.Rol Go.Proofs.Ytnmdckgaljldhaa.LCobs

theorem sealed_bytes (l : List Int) (hb : Bytes l) : Bytes (sealed l) := stuffed_bytes _ (summed_bytes l hb)
theorem sealed_len (l : List Int) : (sealed l).length ≤ l.length + 8 + 1 + (l.length + 7) / 254 := by
  have := stuff_len (summed l)
  rw [summed_len] at this
  unfold sealed
  omega
theorem ref_seal (l : List Int) (hb : Bytes l) (hl : l.length ≤ 90000) : Ev (fun k => fascicleref09_Seal.f k (strOfNums l)) (strOfNums (sealed l ++ [0])) := by
  unfold fascicleref09_Seal.f
  have h1 := ref4_ev 0 l (by decide) (by decide) hb (by omega)
  have h2 := refn 8 ((wsum 0 l : Nat) : Int) (by decide) (by omega) (by have := wsum_lt 0 l; omega)
  have h3 := ref_stuff_f (summed l) (summed_bytes l hb) (by rw [summed_len]; omega)
  have hsl := sealed_len l
  refine Ev.bind h1 ?_
  refine Ev.bind h2 ?_
  have c1 : l.length + 8 ≤ 9223372036854775807 := by omega
  rw [nums_size, nums_size, nbytes_len]
  simp only [if_pos c1]
  rw [PureKit.nums_append]
  refine Ev.bind h3 ?_
  rw [nums_size, show stf (summed l) [] = sealed l from rfl, if_pos (by omega), nums_one0, PureKit.nums_append]
  exact Ev.now _

end Go.Proofs.Ytnmdckgaljldhaa.G
