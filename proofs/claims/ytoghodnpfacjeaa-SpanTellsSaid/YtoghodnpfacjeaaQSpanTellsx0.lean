/- Contracts of what a law reaches, each function as a plain Lean function: written by a program of this claim's repo (myprint.py); conditions: those of each theorem. -/
import Derived.Test.YtoghodnpfacjeaaProg
import Derived.Below
import Derived.Deep.Draws
import Derived.Deep.AppendLies
import Derived.Maps.AppendAt
import Derived.OwnWalk
import Derived.Laws.BytesArg
import Derived.Laws.MakeOwn
import Derived.Laws.OwnMore
import Derived.Deep.OwnRows
import Derived.Tactics
import Derived.Lib.ConvBytes
import Derived.Laws.Slices
import Derived.WalkKit
import Derived.KernelRfl
import Derived.RowKit3
import Derived.Deep.LoopGhost
import Derived.Deep.QuietTactic
import Derived.BigQuiet
import Derived.WideLaws
import Derived.Deep.DeepCutAuto
import Derived.Deep.CutBlock
import Derived.Deep.RegionHeld3
import Derived.Laws.Rows
import Derived.Lib.AppendStr
import Derived.ArgAppend
import Derived.Laws.IdiomCopy
import Derived.OrdersHeld
import Derived.Laws.BitsLemmas
import Derived.RowKit
import Derived.Test.YtoghodnpfacjeaaManLen
import Derived.Test.YtoghodnpfacjeaaManSpan
import Derived.Test.YtoghodnpfacjeaaWWords
import Derived.Test.YtoghodnpfacjeaaWLast
import Derived.Test.YtoghodnpfacjeaaWTab
import Derived.Test.YtoghodnpfacjeaaWFour
import Derived.Test.YtoghodnpfacjeaaWQPut
import Derived.Test.YtoghodnpfacjeaaWApart
import Derived.Test.YtoghodnpfacjeaaWArr
import Derived.Test.YtoghodnpfacjeaaWZeros
import Derived.Test.YtoghodnpfacjeaaWFoot
import Derived.Test.YtoghodnpfacjeaaWKept
import Derived.Test.YtoghodnpfacjeaaWShare
import Derived.Test.YtoghodnpfacjeaaWN
import Derived.Test.YtoghodnpfacjeaaWFootNe
import Derived.Test.YtoghodnpfacjeaaWAt
import Derived.Test.YtoghodnpfacjeaaWEqStruct
import Derived.Test.YtoghodnpfacjeaaWRepsOne
import Derived.Test.YtoghodnpfacjeaaWInv
import Derived.Test.YtoghodnpfacjeaaWInvWords
import Derived.Test.YtoghodnpfacjeaaWGuard
import Derived.Test.YtoghodnpfacjeaaWNEv
import Derived.Test.YtoghodnpfacjeaaWMore
namespace Go.Proofs.Ytoghodnpfacjeaa.QSpanTells
open Go.Proofs.Ytoghodnpfacjeaa.Man
open Go.RowKit Go.Proofs.YtoghodnpfacjeaaW.PrintWords Go.Proofs.YtoghodnpfacjeaaW.PrintLast Go.Proofs.YtoghodnpfacjeaaW.PrintMore
attribute [local go_sem] max2_int min2_int max_two min_two max_three min_three max_four min_four   -- for this text's walks alone
set_option linter.unusedVariables false
set_option linter.unusedSimpArgs false



def errW : Option Int → Value
  | none => .nilIface
  | some c => .iface 0 (.int .i64 c)
theorem errW_none : errW none = .nilIface := rfl
theorem errW_some (c : Int) : errW (some c) = .iface 0 (.int .i64 c) := rfl

theorem info22 : (Try.prog.info? 22).map (fun i => (i.zero, i.size, i.bytes)) = some (some (.int .u64 0), 1, 8) := by kernel_rfl
-- the values' own types

end Go.Proofs.Ytoghodnpfacjeaa.QSpanTells
