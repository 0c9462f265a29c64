/- The closed sentence GatherNames: the numbers of the errors and limits are as the document says. No condition. -/
import Derived.Test.YtipdfajadehkmaaPGatherNamesx1
namespace Go.Proofs.Ytipdfajadehkmaa.Pure
open Go.RowKit Go.Proofs.Ytipdfajadehkmaa.PGatherNames Go.Proofs.YtipdfajadehkmaaW.PrintWords Go.Proofs.YtipdfajadehkmaaW.PrintLast

/-- YOURS: gantrylaw19_GatherNames.f  = some true
What it reaches (each with k first where it has rounds; `.mono`: more rounds tell the same; `.l0`, ..: its loops, with `.mono_l`): gantrylaw19_GatherNames.f -/
theorem GatherNames : gantrylaw19_GatherNames.Pure := by
  rfl

end Go.Proofs.Ytipdfajadehkmaa.Pure
