-- printed for this claim by a copy of the printer that this session turned (wip/pp)
import Derived.Test.YtneihjdkaogkiaaProg
import Derived.Below
import Derived.Deep.Draws
import Derived.Deep.AppendLies
import Derived.Maps.AppendAt
import Derived.OwnWalk
import Derived.Laws.BytesArg
import Derived.Laws.MakeOwn
import Derived.Laws.OwnMore
import Derived.Deep.OwnRows
import Derived.Tactics
import Derived.Lib.ConvBytes
import Derived.Laws.Slices
import Derived.WalkKit
import Derived.KernelRfl
import Derived.RowKit3
import Derived.Deep.LoopGhost
import Derived.Deep.QuietTactic
import Derived.BigQuiet
import Derived.WideLaws
import Derived.Deep.DeepCutAuto
import Derived.Deep.CutBlock
import Derived.Deep.RegionHeld3
import Derived.Laws.Rows
import Derived.Lib.AppendStr
import Derived.ArgAppend
import Derived.Laws.IdiomCopy
import Derived.OrdersHeld
import Derived.Laws.BitsLemmas
import Derived.RowKit
import Derived.Test.YtneihjdkaogkiaaWWords
import Derived.Test.YtneihjdkaogkiaaWLast
import Derived.Test.YtneihjdkaogkiaaWTab
import Derived.Test.YtneihjdkaogkiaaWFour
import Derived.Test.YtneihjdkaogkiaaWQPut
import Derived.Test.YtneihjdkaogkiaaWApart
import Derived.Test.YtneihjdkaogkiaaWArr
import Derived.Test.YtneihjdkaogkiaaWZeros
import Derived.Test.YtneihjdkaogkiaaWFoot
import Derived.Test.YtneihjdkaogkiaaWKept
import Derived.Test.YtneihjdkaogkiaaWShare
import Derived.Test.YtneihjdkaogkiaaWN
import Derived.Test.YtneihjdkaogkiaaWFootNe
import Derived.Test.YtneihjdkaogkiaaWAt
import Derived.Test.YtneihjdkaogkiaaWEqStruct
import Derived.Test.YtneihjdkaogkiaaWRepsOne
import Derived.Test.YtneihjdkaogkiaaWInv
import Derived.Test.YtneihjdkaogkiaaWInvWords
import Derived.Test.YtneihjdkaogkiaaWGuard
import Derived.Test.YtneihjdkaogkiaaWNEv
import Derived.Test.YtneihjdkaogkiaaWMore
import Derived.Test.YtneihjdkaogkiaaShort
namespace Go.Proofs.Ytneihjdkaogkiaa.PCalcTimes
open Go.RowKit Go.Proofs.YtneihjdkaogkiaaW.PrintWords Go.Proofs.YtneihjdkaogkiaaW.PrintLast Go.Proofs.YtneihjdkaogkiaaW.PrintMore
attribute [local go_sem] max2_int min2_int max_two min_two max_three min_three max_four min_four   -- for this text's walks alone
set_option linter.unusedVariables false
set_option linter.unusedSimpArgs false



def errW : Option Int → Value
  | none => .nilIface
  | some c => .iface 0 (.int .i64 c)
theorem errW_none : errW none = .nilIface := rfl
theorem errW_some (c : Int) : errW (some c) = .iface 0 (.int .i64 c) := rfl

theorem info2 : (Try.prog.info? 2).map (fun i => (i.zero, i.size, i.bytes)) = some (some (.int .i64 0), 1, 8) := by kernel_rfl
theorem info27 : (Try.prog.info? 27).map (fun i => (i.zero, i.size, i.bytes)) = some (some (.int .u64 0), 1, 8) := by kernel_rfl
-- the values' own types

end Go.Proofs.Ytneihjdkaogkiaa.PCalcTimes
