/- A part of the proof. -/
import Derived.Test.YtkdhoflcgphcjaaGreatDoorRows
import Derived.SevenTiedAt
set_option linter.all false

namespace Go.Proofs.YtkdhoflcgphcjaaGreatDoor
open Go
theorem pin_laid_unicode_utf8_first:Tryz.pinned.checked.prog.pinnedFits "unicode/utf8.first"=true:=by kernel_rfl
theorem noOwnUnsafe:Tryz.pinned.checked.prog.headLifts.contains "ownunsafe"=false:=by kernel_rfl
theorem fits1:Tryz.pinned.checked.prog.listedFits [("unicode/utf8.first",Rows.laid_unicode_utf8_first),("unicode/utf8.acceptRanges",Rows.laid_unicode_utf8_acceptRanges),("strconv.ErrSyntax",Rows.laid_strconv_ErrSyntax),("strconv.ErrRange",Rows.laid_strconv_ErrRange),("internal/strconv.uint64pow10",Rows.laid_internal_strconv_uint64pow10),("math/bits.deBruijn32tab",Rows.laid_math_bits_deBruijn32tab),("math/bits.deBruijn64tab",Rows.laid_math_bits_deBruijn64tab),("strings.asciiSpace",Rows.laid_strings_asciiSpace),("unicode.White_Space",Rows.laid_unicode_White_Space)]=true:=by unfold Program.listedFits;rw[noOwnUnsafe];kernel_rfl
abbrev lst6:List (String×DataW Unit):=[("unicode/utf8.acceptRanges",Rows.laid_unicode_utf8_acceptRanges),("strconv.ErrSyntax",Rows.laid_strconv_ErrSyntax),("strconv.ErrRange",Rows.laid_strconv_ErrRange),("internal/strconv.uint64pow10",Rows.laid_internal_strconv_uint64pow10),("math/bits.deBruijn32tab",Rows.laid_math_bits_deBruijn32tab),("math/bits.deBruijn64tab",Rows.laid_math_bits_deBruijn64tab),("strings.asciiSpace",Rows.laid_strings_asciiSpace),("unicode.White_Space",Rows.laid_unicode_White_Space)]
abbrev kin6:List LaidKind:=[.data,.sentinel,.sentinel,.data,.data,.data,.data,.listed]
theorem tw1:Tryz.prog.worded (varsWordLater true)=true:=by kernel_rfl
theorem tw2:Tryz.prog.worded (varsWordLater !true)=false:=by kernel_rfl
theorem tw3:Tryz.prog.worded rootWordLater=true:=by kernel_rfl
theorem tw4:lst6.map (λx=>Tryz.prog.kindOfLater x.1)=kin6.map some:=by kernel_rfl
theorem tw5:(Tryz.prog.funcNamed "gosem.cut.vars").isSome=true:=by kernel_rfl
theorem tw7:(lst6.all λx=>x.2.handleName?.isNone)=true:=by kernel_rfl
end Go.Proofs.YtkdhoflcgphcjaaGreatDoor
