-- Written by a program of this session (wip/xprint.py), out of the translation.
import Derived.Test.YtapgcagnmlfdiaaDoorProg
import Derived.Below
import Derived.Deep.Draws
import Derived.Deep.AppendLies
import Derived.Maps.AppendAt
import Derived.OwnWalk
import Derived.Laws.BytesArg
import Derived.Laws.MakeOwn
import Derived.Laws.OwnMore
import Derived.Deep.OwnRows
import Derived.Tactics
import Derived.Lib.ConvBytes
import Derived.Laws.Slices
import Derived.WalkKit
import Derived.KernelRfl
import Derived.RowKit3
import Derived.Deep.LoopGhost
import Derived.Deep.QuietTactic
import Derived.BigQuiet
import Derived.WideLaws
import Derived.Deep.DeepCutAuto
import Derived.Deep.CutBlock
import Derived.Deep.RegionHeld3
import Derived.Laws.Rows
import Derived.Lib.AppendStr
import Derived.ArgAppend
import Derived.Laws.IdiomCopy
import Derived.OrdersHeld
import Derived.Laws.BitsLemmas
import Derived.RowKit
import Derived.Laws.RangeString
import Derived.Laws.RangeAny
import Derived.Test.YtapgcagnmlfdiaaDoorHW
import Derived.Test.YtapgcagnmlfdiaaDoorHG
import Derived.Test.YtapgcagnmlfdiaaDoorWWords
import Derived.Test.YtapgcagnmlfdiaaDoorWLast
import Derived.Test.YtapgcagnmlfdiaaDoorWTab
import Derived.Test.YtapgcagnmlfdiaaDoorWFour
import Derived.Test.YtapgcagnmlfdiaaDoorWQPut
import Derived.Test.YtapgcagnmlfdiaaDoorWApart
import Derived.Test.YtapgcagnmlfdiaaDoorWArr
import Derived.Test.YtapgcagnmlfdiaaDoorWZeros
import Derived.Test.YtapgcagnmlfdiaaDoorWFoot
import Derived.Test.YtapgcagnmlfdiaaDoorWKept
import Derived.Test.YtapgcagnmlfdiaaDoorWShare
import Derived.Test.YtapgcagnmlfdiaaDoorWN
import Derived.Test.YtapgcagnmlfdiaaDoorWFootNe
import Derived.Test.YtapgcagnmlfdiaaDoorWAt
import Derived.Test.YtapgcagnmlfdiaaDoorWEqStruct
import Derived.Test.YtapgcagnmlfdiaaDoorWRepsOne
import Derived.Test.YtapgcagnmlfdiaaDoorWInv
import Derived.Test.YtapgcagnmlfdiaaDoorWInvWords
import Derived.Test.YtapgcagnmlfdiaaDoorWGuard
import Derived.Test.YtapgcagnmlfdiaaDoorWNEv
import Derived.Test.YtapgcagnmlfdiaaDoorWMore
namespace Go.Proofs.YtapgcagnmlfdiaaDoor.P
open Go.RowKit Go.Proofs.YtapgcagnmlfdiaaDoorW.PrintWords Go.Proofs.YtapgcagnmlfdiaaDoorW.PrintLast Go.Proofs.YtapgcagnmlfdiaaDoorW.PrintMore
attribute [local go_sem] max2_int min2_int max_two min_two max_three min_three max_four min_four   -- for this text's walks alone
set_option linter.unusedVariables false
set_option linter.unusedSimpArgs false



def errW : Option Int → Value
  | none => .nilIface
  | some c => .iface 0 (.int .i64 c)
theorem errW_none : errW none = .nilIface := rfl
theorem errW_some (c : Int) : errW (some c) = .iface 0 (.int .i64 c) := rfl

theorem info5 : (Tryd.prog.info? 5).map (fun i => (i.zero, i.size, i.bytes)) = some (some (.int .u8 0), 1, 1) := by kernel_rfl
-- the values' own types

end Go.Proofs.YtapgcagnmlfdiaaDoor.P
