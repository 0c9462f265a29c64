/- The machine side of a law, written by a program of this session (the kit printer, changed; wip/tools/mkprint.py): functions, their calls, the row. Lean checks it. -/
import Derived.Test.YtipdfajadehkmaaDoorProg
import Derived.Below
import Derived.Deep.Draws
import Derived.Deep.AppendLies
import Derived.Maps.AppendAt
import Derived.OwnWalk
import Derived.Laws.BytesArg
import Derived.Laws.MakeOwn
import Derived.Laws.OwnMore
import Derived.Deep.OwnRows
import Derived.Tactics
import Derived.Lib.ConvBytes
import Derived.Laws.Slices
import Derived.WalkKit
import Derived.KernelRfl
import Derived.RowKit3
import Derived.Deep.LoopGhost
import Derived.Deep.QuietTactic
import Derived.BigQuiet
import Derived.WideLaws
import Derived.Deep.DeepCutAuto
import Derived.Deep.CutBlock
import Derived.Deep.RegionHeld3
import Derived.Laws.Rows
import Derived.Lib.AppendStr
import Derived.ArgAppend
import Derived.Laws.IdiomCopy
import Derived.OrdersHeld
import Derived.Laws.BitsLemmas
import Derived.RowKit
import Derived.Test.YtipdfajadehkmaaDoorWWords
import Derived.Test.YtipdfajadehkmaaDoorWLast
import Derived.Test.YtipdfajadehkmaaDoorWTab
import Derived.Test.YtipdfajadehkmaaDoorWFour
import Derived.Test.YtipdfajadehkmaaDoorWQPut
import Derived.Test.YtipdfajadehkmaaDoorWApart
import Derived.Test.YtipdfajadehkmaaDoorWArr
import Derived.Test.YtipdfajadehkmaaDoorWZeros
import Derived.Test.YtipdfajadehkmaaDoorWFoot
import Derived.Test.YtipdfajadehkmaaDoorWKept
import Derived.Test.YtipdfajadehkmaaDoorWShare
import Derived.Test.YtipdfajadehkmaaDoorWN
import Derived.Test.YtipdfajadehkmaaDoorWFootNe
import Derived.Test.YtipdfajadehkmaaDoorWAt
import Derived.Test.YtipdfajadehkmaaDoorWEqStruct
import Derived.Test.YtipdfajadehkmaaDoorWRepsOne
import Derived.Test.YtipdfajadehkmaaDoorWInv
import Derived.Test.YtipdfajadehkmaaDoorWInvWords
import Derived.Test.YtipdfajadehkmaaDoorWGuard
import Derived.Test.YtipdfajadehkmaaDoorWNEv
import Derived.Test.YtipdfajadehkmaaDoorWMore
import Derived.Test.YtipdfajadehkmaaDoorAps
namespace Go.Proofs.YtipdfajadehkmaaDoor.QA
open Go.RowKit Go.Proofs.YtipdfajadehkmaaDoorW.PrintWords Go.Proofs.YtipdfajadehkmaaDoorW.PrintLast Go.Proofs.YtipdfajadehkmaaDoorW.PrintMore
attribute [local go_sem] max2_int min2_int max_two min_two max_three min_three max_four min_four   -- for this text's walks alone
set_option linter.unusedVariables false
set_option linter.unusedSimpArgs false



def errW : Option Int → Value
  | none => .nilIface
  | some c => .iface 0 (.int .i64 c)
theorem errW_none : errW none = .nilIface := rfl
theorem errW_some (c : Int) : errW (some c) = .iface 0 (.int .i64 c) := rfl

theorem info3 : (Tryd.prog.info? 3).map (fun i => (i.zero, i.size, i.bytes)) = some (some (.int .i64 0), 1, 8) := by kernel_rfl
theorem info22 : (Tryd.prog.info? 22).map (fun i => (i.zero, i.size, i.bytes)) = some (some (.int .i64 0), 1, 8) := by kernel_rfl
theorem info23 : (Tryd.prog.info? 23).map (fun i => (i.zero, i.size, i.bytes)) = some (some (.slice none 0 0), 1, 24) := by kernel_rfl
-- the values' own types
def rd_L2 (xs : List (List Int)) (i : Int) : (List Int) := xs.getD i.toNat ([] : List Int)
theorem at_L2 {w : World} {A : Option Addr} {n : Nat} {xs : List (List Int)} (h : Kd.C (Kd.slice 22 (Kd.int .i64)) w A n xs) (i : Int) (h0 : 0 ≤ i) (h1 : i < n) : ∃ ad A0 c0, A = some ad ∧ w.cell? (ad.add i.toNat) = some (.slice A0 (rd_L2 xs i).length c0) ∧ (rd_L2 xs i).length ≤ c0 ∧ (Kd.int .i64).C w A0 (rd_L2 xs i).length (rd_L2 xs i) := by
  obtain ⟨ad, c, e, _, hK, hc0⟩ := Kd.C_get h ([] : List Int) i h0 h1
  have hc : ∀ j u, c[j]? = some u → w.cell? (ad.add (i.toNat * 1 + j)) = some u := hc0
  obtain ⟨A0, c0, rfl, l0, g0⟩ := hK
  exact ⟨ad, A0, c0, e, by have hq := hc 0 _ rfl; rwa [Nat.mul_one, Nat.add_zero] at hq, l0, g0⟩

end Go.Proofs.YtipdfajadehkmaaDoor.QA
