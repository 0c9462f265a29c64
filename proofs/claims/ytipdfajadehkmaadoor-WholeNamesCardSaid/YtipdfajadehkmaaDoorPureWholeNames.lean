import Derived.Test.YtipdfajadehkmaaDoorQAx1
import Derived.KernelRfl
namespace Go.Proofs.YtipdfajadehkmaaDoor.Pure
open Go.RowKit Go.Proofs.YtipdfajadehkmaaDoor.QA Go.Proofs.YtipdfajadehkmaaDoorW.PrintWords Go.Proofs.YtipdfajadehkmaaDoorW.PrintLast

/-- The law answers true: ∃ k, gantrytop_WholeNames.f k  = some true
What it reaches (each with k first where it has rounds; `.mono`: more rounds tell the same; `.l0`, ..: its loops, with `.mono_l`): strconv_small.f, strconv_log10Pow2.f, bits_Len64.f, strconv_bool2_int.f, strconv_numDigits.f, strconv_formatBase10.f, strconv_isPowerOfTwo.f, bits_TrailingZeros32.f, bits_TrailingZeros64.f, bits_TrailingZeros.f, strconv_formatBits.f, strconv_FormatInt.f, strconv_Itoa_6.f, strconv_Itoa_5.f, api_Errno_Error.f, gantrytop_WholeNames.f -/
theorem WholeNames : gantrytop_WholeNames.Pure := by
  exact ⟨64, by kernel_rfl⟩

end Go.Proofs.YtipdfajadehkmaaDoor.Pure
