/- The machine side of a law, written by a program of this session (the kit printer, changed; wip/tools/mkprint.py): functions, their calls, the row. Lean checks it. -/
import Derived.Test.YtgnoaokpahklaaaProg
import Derived.Below
import Derived.Deep.Draws
import Derived.Deep.AppendLies
import Derived.Maps.AppendAt
import Derived.OwnWalk
import Derived.Laws.BytesArg
import Derived.Laws.MakeOwn
import Derived.Laws.OwnMore
import Derived.Deep.OwnRows
import Derived.Tactics
import Derived.Lib.ConvBytes
import Derived.Laws.Slices
import Derived.WalkKit
import Derived.KernelRfl
import Derived.RowKit3
import Derived.Deep.LoopGhost
import Derived.Deep.QuietTactic
import Derived.BigQuiet
import Derived.WideLaws
import Derived.Deep.DeepCutAuto
import Derived.Deep.CutBlock
import Derived.Deep.RegionHeld3
import Derived.Laws.Rows
import Derived.Lib.AppendStr
import Derived.ArgAppend
import Derived.Laws.IdiomCopy
import Derived.OrdersHeld
import Derived.Laws.BitsLemmas
import Derived.RowKit
import Derived.Test.YtgnoaokpahklaaaWWords
import Derived.Test.YtgnoaokpahklaaaWLast
import Derived.Test.YtgnoaokpahklaaaWTab
import Derived.Test.YtgnoaokpahklaaaWFour
import Derived.Test.YtgnoaokpahklaaaWQPut
import Derived.Test.YtgnoaokpahklaaaWApart
import Derived.Test.YtgnoaokpahklaaaWArr
import Derived.Test.YtgnoaokpahklaaaWZeros
import Derived.Test.YtgnoaokpahklaaaWFoot
import Derived.Test.YtgnoaokpahklaaaWKept
import Derived.Test.YtgnoaokpahklaaaWShare
import Derived.Test.YtgnoaokpahklaaaWN
import Derived.Test.YtgnoaokpahklaaaWFootNe
import Derived.Test.YtgnoaokpahklaaaWAt
import Derived.Test.YtgnoaokpahklaaaWEqStruct
import Derived.Test.YtgnoaokpahklaaaWRepsOne
import Derived.Test.YtgnoaokpahklaaaWInv
import Derived.Test.YtgnoaokpahklaaaWInvWords
import Derived.Test.YtgnoaokpahklaaaWGuard
import Derived.Test.YtgnoaokpahklaaaWNEv
import Derived.Test.YtgnoaokpahklaaaWMore
import Derived.Test.YtgnoaokpahklaaaAps
namespace Go.Proofs.Ytgnoaokpahklaaa.QA
open Go.RowKit Go.Proofs.YtgnoaokpahklaaaW.PrintWords Go.Proofs.YtgnoaokpahklaaaW.PrintLast Go.Proofs.YtgnoaokpahklaaaW.PrintMore
attribute [local go_sem] max2_int min2_int max_two min_two max_three min_three max_four min_four   -- for this text's walks alone
set_option linter.unusedVariables false
set_option linter.unusedSimpArgs false



def errW : Option Int → Value
  | none => .nilIface
  | some c => .iface 0 (.int .i64 c)
theorem errW_none : errW none = .nilIface := rfl
theorem errW_some (c : Int) : errW (some c) = .iface 0 (.int .i64 c) := rfl

theorem info5 : (Try.prog.info? 5).map (fun i => (i.zero, i.size, i.bytes)) = some (some (.int .u8 0), 1, 1) := by kernel_rfl
-- the values' own types

end Go.Proofs.Ytgnoaokpahklaaa.QA
