/- The document's size of a segment. -/
import Derived.Test.YtnmdckgaljldhaaLConfigP
import Derived.Test.YtnmdckgaljldhaaGx8
namespace Go.Proofs.Ytnmdckgaljldhaa.LConfig
open Go.RowKit Go.Proofs.Ytnmdckgaljldhaa.G Go.Proofs.YtnmdckgaljldhaaW.PrintWords Go.Proofs.YtnmdckgaljldhaaW.PrintLast Go.Proofs.YtnmdckgaljldhaaW.PrintMore Go.Proofs.Ytnmdckgaljldhaa.PureKit
set_option linter.unusedVariables false

theorem rsize_l0 {e S : Int} (h : Pair e S) : fascicleref08_Size.l0 40 1 e 0 = some S := by
  rcases h with ⟨rfl, rfl⟩ | ⟨rfl, rfl⟩ | ⟨rfl, rfl⟩ | ⟨rfl, rfl⟩ | ⟨rfl, rfl⟩ | ⟨rfl, rfl⟩ | ⟨rfl, rfl⟩ | ⟨rfl, rfl⟩ | ⟨rfl, rfl⟩ | ⟨rfl, rfl⟩ | ⟨rfl, rfl⟩ | ⟨rfl, rfl⟩ | ⟨rfl, rfl⟩ <;> decide +kernel
theorem rsize_ok {e S : Int} (h : Pair e S) (s : Int) : Ev (fun k => fascicleref08_Size.f k e s) S := Ev.of (fascicleref08_Size.mono e s) (k := 40) (rsize_l0 h)

end Go.Proofs.Ytnmdckgaljldhaa.LConfig
