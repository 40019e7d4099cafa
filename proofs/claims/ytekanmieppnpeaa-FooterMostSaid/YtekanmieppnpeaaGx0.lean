-- Written by gprint.py (the kit's print.py with contracts of my own taken as given)
import Derived.Test.YtekanmieppnpeaaProg
import Derived.Below
import Derived.Deep.Draws
import Derived.Deep.AppendLies
import Derived.Maps.AppendAt
import Derived.OwnWalk
import Derived.Laws.BytesArg
import Derived.Laws.MakeOwn
import Derived.Laws.OwnMore
import Derived.Deep.OwnRows
import Derived.Tactics
import Derived.Lib.ConvBytes
import Derived.Laws.Slices
import Derived.WalkKit
import Derived.KernelRfl
import Derived.RowKit3
import Derived.Deep.LoopGhost
import Derived.Deep.QuietTactic
import Derived.BigQuiet
import Derived.WideLaws
import Derived.Deep.DeepCutAuto
import Derived.Deep.CutBlock
import Derived.Deep.RegionHeld3
import Derived.Laws.Rows
import Derived.Lib.AppendStr
import Derived.ArgAppend
import Derived.Laws.IdiomCopy
import Derived.OrdersHeld
import Derived.Laws.BitsLemmas
import Derived.RowKit
import Derived.Test.YtekanmieppnpeaaWWords
import Derived.Test.YtekanmieppnpeaaWLast
import Derived.Test.YtekanmieppnpeaaWTab
import Derived.Test.YtekanmieppnpeaaWFour
import Derived.Test.YtekanmieppnpeaaWQPut
import Derived.Test.YtekanmieppnpeaaWApart
import Derived.Test.YtekanmieppnpeaaWArr
import Derived.Test.YtekanmieppnpeaaWZeros
import Derived.Test.YtekanmieppnpeaaWFoot
import Derived.Test.YtekanmieppnpeaaWKept
import Derived.Test.YtekanmieppnpeaaWShare
import Derived.Test.YtekanmieppnpeaaWN
import Derived.Test.YtekanmieppnpeaaWFootNe
import Derived.Test.YtekanmieppnpeaaWAt
import Derived.Test.YtekanmieppnpeaaWEqStruct
import Derived.Test.YtekanmieppnpeaaWRepsOne
import Derived.Test.YtekanmieppnpeaaWInv
import Derived.Test.YtekanmieppnpeaaWInvWords
import Derived.Test.YtekanmieppnpeaaWGuard
import Derived.Test.YtekanmieppnpeaaWNEv
import Derived.Test.YtekanmieppnpeaaWMore
namespace Go.Proofs.Ytekanmieppnpeaa.G
open Go.RowKit Go.Proofs.YtekanmieppnpeaaW.PrintWords Go.Proofs.YtekanmieppnpeaaW.PrintLast Go.Proofs.YtekanmieppnpeaaW.PrintMore
attribute [local go_sem] max2_int min2_int max_two min_two max_three min_three max_four min_four   -- for this text's walks alone
set_option linter.unusedVariables false
set_option linter.unusedSimpArgs false



def errW : Option Int → Value
  | none => .nilIface
  | some c => .iface 0 (.int .i64 c)
theorem errW_none : errW none = .nilIface := rfl
theorem errW_some (c : Int) : errW (some c) = .iface 0 (.int .i64 c) := rfl

-- the values' own types

end Go.Proofs.Ytekanmieppnpeaa.G
