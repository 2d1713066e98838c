-- Written by a program of this session (wip/xprint.py), out of the translation.
import Derived.Test.YtihgfoekjelkbaaDoorProg
import Derived.Below
import Derived.Deep.Draws
import Derived.Deep.AppendLies
import Derived.Maps.AppendAt
import Derived.OwnWalk
import Derived.Laws.BytesArg
import Derived.Laws.MakeOwn
import Derived.Laws.OwnMore
import Derived.Deep.OwnRows
import Derived.Tactics
import Derived.Lib.ConvBytes
import Derived.Laws.Slices
import Derived.WalkKit
import Derived.KernelRfl
import Derived.RowKit3
import Derived.Deep.LoopGhost
import Derived.Deep.QuietTactic
import Derived.BigQuiet
import Derived.WideLaws
import Derived.Deep.DeepCutAuto
import Derived.Deep.CutBlock
import Derived.Deep.RegionHeld3
import Derived.Laws.Rows
import Derived.Lib.AppendStr
import Derived.ArgAppend
import Derived.Laws.IdiomCopy
import Derived.OrdersHeld
import Derived.Laws.BitsLemmas
import Derived.RowKit
import Derived.Laws.RangeString
import Derived.Laws.RangeAny
import Derived.Test.YtihgfoekjelkbaaDoorHW
import Derived.Test.YtihgfoekjelkbaaDoorHG
import Derived.Test.YtihgfoekjelkbaaDoorWWords
import Derived.Test.YtihgfoekjelkbaaDoorWLast
import Derived.Test.YtihgfoekjelkbaaDoorWTab
import Derived.Test.YtihgfoekjelkbaaDoorWFour
import Derived.Test.YtihgfoekjelkbaaDoorWQPut
import Derived.Test.YtihgfoekjelkbaaDoorWApart
import Derived.Test.YtihgfoekjelkbaaDoorWArr
import Derived.Test.YtihgfoekjelkbaaDoorWZeros
import Derived.Test.YtihgfoekjelkbaaDoorWFoot
import Derived.Test.YtihgfoekjelkbaaDoorWKept
import Derived.Test.YtihgfoekjelkbaaDoorWShare
import Derived.Test.YtihgfoekjelkbaaDoorWN
import Derived.Test.YtihgfoekjelkbaaDoorWFootNe
import Derived.Test.YtihgfoekjelkbaaDoorWAt
import Derived.Test.YtihgfoekjelkbaaDoorWEqStruct
import Derived.Test.YtihgfoekjelkbaaDoorWRepsOne
import Derived.Test.YtihgfoekjelkbaaDoorWInv
import Derived.Test.YtihgfoekjelkbaaDoorWInvWords
import Derived.Test.YtihgfoekjelkbaaDoorWGuard
import Derived.Test.YtihgfoekjelkbaaDoorWNEv
import Derived.Test.YtihgfoekjelkbaaDoorWMore
namespace Go.Proofs.YtihgfoekjelkbaaDoor.P
open Go.RowKit Go.Proofs.YtihgfoekjelkbaaDoorW.PrintWords Go.Proofs.YtihgfoekjelkbaaDoorW.PrintLast Go.Proofs.YtihgfoekjelkbaaDoorW.PrintMore
attribute [local go_sem] max2_int min2_int max_two min_two max_three min_three max_four min_four   -- for this text's walks alone
set_option linter.unusedVariables false
set_option linter.unusedSimpArgs false



def errW : Option Int → Value
  | none => .nilIface
  | some c => .iface 0 (.int .i64 c)
theorem errW_none : errW none = .nilIface := rfl
theorem errW_some (c : Int) : errW (some c) = .iface 0 (.int .i64 c) := rfl

theorem info5 : (Tryd.prog.info? 5).map (fun i => (i.zero, i.size, i.bytes)) = some (some (.int .u8 0), 1, 1) := by kernel_rfl
-- the values' own types

end Go.Proofs.YtihgfoekjelkbaaDoor.P
