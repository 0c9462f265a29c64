/- The machine side of a law, written by a program of this session (the kit printer, changed; wip/tools/mkprint.py): functions, their calls, the row. Lean checks it. -/
import Derived.Test.YtgnoaokpahklaaaQBx0
import Derived.Test.YtgnoaokpahklaaaLzM
namespace Go.Proofs.Ytgnoaokpahklaaa.QB
open Go.RowKit Go.Proofs.YtgnoaokpahklaaaW.PrintWords Go.Proofs.YtgnoaokpahklaaaW.PrintLast Go.Proofs.YtgnoaokpahklaaaW.PrintMore
attribute [local go_sem] max2_int min2_int max_two min_two max_three min_three max_four min_four   -- for this text's walks alone
set_option linter.unusedVariables false
set_option linter.unusedSimpArgs false
/-! ### lz_Pack: function 13 (given: walked by hand in Lzq) -/
def lz_Pack.f (k : Nat) (a0 : ByteArray) : Option (ByteArray) := if a0.size ≤ 1073741824 then some (strOfNums (Lzp.packB a0)) else none
theorem lz_Pack.mono : ∀ a0 k, LeO (lz_Pack.f k a0) (lz_Pack.f (k + 1) a0) := fun _ _ => LeO.refl _
theorem lz_Pack.calls (k : Nat) (a0 : ByteArray) (r : ByteArray) (w : World) (h : lz_Pack.f k a0 = some r) :
    Calls Try.prog 13 #[.string a0] w fun e w' => e = .returned (.string r) ∧ Below w.heap.size w w' := by
  unfold lz_Pack.f at h
  split at h
  · rename_i hs
    obtain rfl := Option.some.inj h
    exact Lzp.pack_calls a0 w hs
  · cases h
end Go.Proofs.Ytgnoaokpahklaaa.QB
