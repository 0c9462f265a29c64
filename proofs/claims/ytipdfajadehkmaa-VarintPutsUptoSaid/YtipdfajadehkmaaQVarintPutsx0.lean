/- The machine side of a law, written by a program of this session (the kit printer, changed; wip/tools/mkprint.py): functions, their calls, the row. Lean checks it. -/
import Derived.Test.YtipdfajadehkmaaProg
import Derived.Below
import Derived.Deep.Draws
import Derived.Deep.AppendLies
import Derived.Maps.AppendAt
import Derived.OwnWalk
import Derived.Laws.BytesArg
import Derived.Laws.MakeOwn
import Derived.Laws.OwnMore
import Derived.Deep.OwnRows
import Derived.Tactics
import Derived.Lib.ConvBytes
import Derived.Laws.Slices
import Derived.WalkKit
import Derived.KernelRfl
import Derived.RowKit3
import Derived.Deep.LoopGhost
import Derived.Deep.QuietTactic
import Derived.BigQuiet
import Derived.WideLaws
import Derived.Deep.DeepCutAuto
import Derived.Deep.CutBlock
import Derived.Deep.RegionHeld3
import Derived.Laws.Rows
import Derived.Lib.AppendStr
import Derived.ArgAppend
import Derived.Laws.IdiomCopy
import Derived.OrdersHeld
import Derived.Laws.BitsLemmas
import Derived.RowKit
import Derived.Test.YtipdfajadehkmaaWWords
import Derived.Test.YtipdfajadehkmaaWLast
import Derived.Test.YtipdfajadehkmaaWTab
import Derived.Test.YtipdfajadehkmaaWFour
import Derived.Test.YtipdfajadehkmaaWQPut
import Derived.Test.YtipdfajadehkmaaWApart
import Derived.Test.YtipdfajadehkmaaWArr
import Derived.Test.YtipdfajadehkmaaWZeros
import Derived.Test.YtipdfajadehkmaaWFoot
import Derived.Test.YtipdfajadehkmaaWKept
import Derived.Test.YtipdfajadehkmaaWShare
import Derived.Test.YtipdfajadehkmaaWN
import Derived.Test.YtipdfajadehkmaaWFootNe
import Derived.Test.YtipdfajadehkmaaWAt
import Derived.Test.YtipdfajadehkmaaWEqStruct
import Derived.Test.YtipdfajadehkmaaWRepsOne
import Derived.Test.YtipdfajadehkmaaWInv
import Derived.Test.YtipdfajadehkmaaWInvWords
import Derived.Test.YtipdfajadehkmaaWGuard
import Derived.Test.YtipdfajadehkmaaWNEv
import Derived.Test.YtipdfajadehkmaaWMore
import Derived.Test.YtipdfajadehkmaaAps
namespace Go.Proofs.Ytipdfajadehkmaa.QVarintPuts
open Go.RowKit Go.Proofs.YtipdfajadehkmaaW.PrintWords Go.Proofs.YtipdfajadehkmaaW.PrintLast Go.Proofs.YtipdfajadehkmaaW.PrintMore
attribute [local go_sem] max2_int min2_int max_two min_two max_three min_three max_four min_four   -- for this text's walks alone
set_option linter.unusedVariables false
set_option linter.unusedSimpArgs false



def errW : Option Int → Value
  | none => .nilIface
  | some c => .iface 0 (.int .i64 c)
theorem errW_none : errW none = .nilIface := rfl
theorem errW_some (c : Int) : errW (some c) = .iface 0 (.int .i64 c) := rfl

theorem info2 : (Try.prog.info? 2).map (fun i => (i.zero, i.size, i.bytes)) = some (some (.int .i64 0), 1, 8) := by kernel_rfl
theorem info5 : (Try.prog.info? 5).map (fun i => (i.zero, i.size, i.bytes)) = some (some (.int .u8 0), 1, 1) := by kernel_rfl
theorem info26 : (Try.prog.info? 26).map (fun i => (i.zero, i.size, i.bytes)) = some (some (.int .u64 0), 1, 8) := by kernel_rfl
-- the values' own types

end Go.Proofs.Ytipdfajadehkmaa.QVarintPuts
