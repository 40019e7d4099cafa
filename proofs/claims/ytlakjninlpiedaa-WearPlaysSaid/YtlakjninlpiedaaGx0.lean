-- Written by gprint.py (the kit's print.py with contracts of my own taken as given)
import Derived.Test.YtlakjninlpiedaaProg
import Derived.Below
import Derived.Deep.Draws
import Derived.Deep.AppendLies
import Derived.Maps.AppendAt
import Derived.OwnWalk
import Derived.Laws.BytesArg
import Derived.Laws.MakeOwn
import Derived.Laws.OwnMore
import Derived.Deep.OwnRows
import Derived.Tactics
import Derived.Lib.ConvBytes
import Derived.Laws.Slices
import Derived.WalkKit
import Derived.KernelRfl
import Derived.RowKit3
import Derived.Deep.LoopGhost
import Derived.Deep.QuietTactic
import Derived.BigQuiet
import Derived.WideLaws
import Derived.Deep.DeepCutAuto
import Derived.Deep.CutBlock
import Derived.Deep.RegionHeld3
import Derived.Laws.Rows
import Derived.Lib.AppendStr
import Derived.ArgAppend
import Derived.Laws.IdiomCopy
import Derived.OrdersHeld
import Derived.Laws.BitsLemmas
import Derived.RowKit
import Derived.Test.YtlakjninlpiedaaWWords
import Derived.Test.YtlakjninlpiedaaWLast
import Derived.Test.YtlakjninlpiedaaWTab
import Derived.Test.YtlakjninlpiedaaWFour
import Derived.Test.YtlakjninlpiedaaWQPut
import Derived.Test.YtlakjninlpiedaaWApart
import Derived.Test.YtlakjninlpiedaaWArr
import Derived.Test.YtlakjninlpiedaaWZeros
import Derived.Test.YtlakjninlpiedaaWFoot
import Derived.Test.YtlakjninlpiedaaWKept
import Derived.Test.YtlakjninlpiedaaWShare
import Derived.Test.YtlakjninlpiedaaWN
import Derived.Test.YtlakjninlpiedaaWFootNe
import Derived.Test.YtlakjninlpiedaaWAt
import Derived.Test.YtlakjninlpiedaaWEqStruct
import Derived.Test.YtlakjninlpiedaaWRepsOne
import Derived.Test.YtlakjninlpiedaaWInv
import Derived.Test.YtlakjninlpiedaaWInvWords
import Derived.Test.YtlakjninlpiedaaWGuard
import Derived.Test.YtlakjninlpiedaaWNEv
import Derived.Test.YtlakjninlpiedaaWMore
namespace Go.Proofs.Ytlakjninlpiedaa.G
open Go.RowKit Go.Proofs.YtlakjninlpiedaaW.PrintWords Go.Proofs.YtlakjninlpiedaaW.PrintLast Go.Proofs.YtlakjninlpiedaaW.PrintMore
attribute [local go_sem] max2_int min2_int max_two min_two max_three min_three max_four min_four   -- for this text's walks alone
set_option linter.unusedVariables false
set_option linter.unusedSimpArgs false



def errW : Option Int → Value
  | none => .nilIface
  | some c => .iface 0 (.int .i64 c)
theorem errW_none : errW none = .nilIface := rfl
theorem errW_some (c : Int) : errW (some c) = .iface 0 (.int .i64 c) := rfl

theorem info5 : (Try.prog.info? 5).map (fun i => (i.zero, i.size, i.bytes)) = some (some (.int .u8 0), 1, 1) := by kernel_rfl
-- the values' own types

end Go.Proofs.Ytlakjninlpiedaa.G
