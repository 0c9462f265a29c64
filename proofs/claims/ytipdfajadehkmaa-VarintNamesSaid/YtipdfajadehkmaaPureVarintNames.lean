/- The closed sentence VarintNames: the numbers of the errors and limits are as the document says. No condition. -/
import Derived.Test.YtipdfajadehkmaaPVarintNamesx1
namespace Go.Proofs.Ytipdfajadehkmaa.Pure
open Go.RowKit Go.Proofs.Ytipdfajadehkmaa.PVarintNames Go.Proofs.YtipdfajadehkmaaW.PrintWords Go.Proofs.YtipdfajadehkmaaW.PrintLast

/-- YOURS: gantrylaw01_VarintNames.f  = some true
What it reaches (each with k first where it has rounds; `.mono`: more rounds tell the same; `.l0`, ..: its loops, with `.mono_l`): gantrylaw01_VarintNames.f -/
theorem VarintNames : gantrylaw01_VarintNames.Pure := by
  rfl

end Go.Proofs.Ytipdfajadehkmaa.Pure
