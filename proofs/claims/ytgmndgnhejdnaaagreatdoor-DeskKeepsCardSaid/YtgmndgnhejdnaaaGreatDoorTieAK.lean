/- The row's variables are laid as the program's text lays them: fact by fact. -/
import Derived.Test.YtgmndgnhejdnaaaGreatDoorRows
import Derived.LaidByTextLater
import Derived.SevenTiedAt
namespace Go.Proofs.YtgmndgnhejdnaaaGreatDoor
open Go
def lpE : List (String × DataW Unit) := [("gristmill/api.ErrWord", Rows.laid_gristmill_api_ErrWord), ("unicode/utf8.acceptRanges", Rows.laid_unicode_utf8_acceptRanges), ("gristmill/api.ErrForm", Rows.laid_gristmill_api_ErrForm), ("gristmill/api.ErrDeep", Rows.laid_gristmill_api_ErrDeep), ("gristmill/api.ErrClose", Rows.laid_gristmill_api_ErrClose), ("gristmill/api.ErrOpen", Rows.laid_gristmill_api_ErrOpen), ("gristmill/api.ErrMany", Rows.laid_gristmill_api_ErrMany), ("gristmill/api.ErrName", Rows.laid_gristmill_api_ErrName), ("gristmill/api.ErrNumber", Rows.laid_gristmill_api_ErrNumber), ("strconv.ErrSyntax", Rows.laid_strconv_ErrSyntax), ("strconv.ErrRange", Rows.laid_strconv_ErrRange), ("internal/strconv.uint64pow10", Rows.laid_internal_strconv_uint64pow10), ("math/bits.deBruijn32tab", Rows.laid_math_bits_deBruijn32tab), ("math/bits.deBruijn64tab", Rows.laid_math_bits_deBruijn64tab), ("errors.errorType", Rows.laid_errors_errorType), ("gristmill/api.ErrType", Rows.laid_gristmill_api_ErrType), ("gristmill/api.ErrMain", Rows.laid_gristmill_api_ErrMain), ("gristmill/api.ErrTwice", Rows.laid_gristmill_api_ErrTwice), ("gristmill/api.ErrNone", Rows.laid_gristmill_api_ErrNone), ("gristmill/api.ErrArity", Rows.laid_gristmill_api_ErrArity), ("gristmill/api.ErrShape", Rows.laid_gristmill_api_ErrShape), ("gristmill/api.ErrTag", Rows.laid_gristmill_api_ErrTag), ("gristmill/api.ErrBound", Rows.laid_gristmill_api_ErrBound), ("gristmill/api.ErrRange", Rows.laid_gristmill_api_ErrRange)]
theorem noOwnUnsafeC : Tryz.pinned.checked.prog.headLifts.contains "ownunsafe" = false := by kernel_rfl
theorem tw1 : Tryz.prog.worded (varsWordLater true) = true := by kernel_rfl
theorem tw2 : Tryz.prog.worded (varsWordLater !true) = false := by kernel_rfl
theorem tw3 : Tryz.prog.worded rootWordLater = true := by kernel_rfl
theorem tw4 : (Tryz.prog.funcNamed "gosem.cut.vars").isSome = true := by kernel_rfl
end Go.Proofs.YtgmndgnhejdnaaaGreatDoor
