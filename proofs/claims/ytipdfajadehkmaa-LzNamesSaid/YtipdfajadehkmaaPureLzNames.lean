/- The closed sentence LzNames: the numbers of the errors and limits are as the document says. No condition. -/
import Derived.Test.YtipdfajadehkmaaPLzNamesx1
namespace Go.Proofs.Ytipdfajadehkmaa.Pure
open Go.RowKit Go.Proofs.Ytipdfajadehkmaa.PLzNames Go.Proofs.YtipdfajadehkmaaW.PrintWords Go.Proofs.YtipdfajadehkmaaW.PrintLast

/-- YOURS: gantrylaw04_LzNames.f  = some true
What it reaches (each with k first where it has rounds; `.mono`: more rounds tell the same; `.l0`, ..: its loops, with `.mono_l`): gantrylaw04_LzNames.f -/
theorem LzNames : gantrylaw04_LzNames.Pure := by
  rfl

end Go.Proofs.Ytipdfajadehkmaa.Pure
