/- A part of the proof that the text which Print makes of a parsed text is a normal form -/
import Derived.Test.YtbapfnpbamnmpaaGreatDoorP00
import Derived.Test.YtbapfnpbamnmpaaGreatDoorRows
import Derived.LaidByTextLater
import Derived.SevenTiedAt
set_option maxHeartbeats 8000000
set_option maxRecDepth 100000
namespace Go.Proofs.YtbapfnpbamnmpaaGreatDoor
open Go Go.RowKit Go.Dig Go.Deep Go.Eng Go.Proofs.Tryz
theorem alR:Tryz.pinned.checked.prog.pinnedFits "unicode/utf8.first" =true:=by kernel_rfl
theorem nou:Tryz.pinned.checked.prog.headLifts.contains "ownunsafe" =false:=by kernel_rfl
theorem fits1:Tryz.pinned.checked.prog.listedFits [("unicode/utf8.first",Rows.laid_unicode_utf8_first),("unicode/utf8.acceptRanges",Rows.laid_unicode_utf8_acceptRanges),("math/bits.deBruijn32tab",Rows.laid_math_bits_deBruijn32tab),("strconv.ErrSyntax",Rows.laid_strconv_ErrSyntax),("strconv.ErrRange",Rows.laid_strconv_ErrRange),("internal/strconv.uint64pow10",Rows.laid_internal_strconv_uint64pow10),("math/bits.deBruijn64tab",Rows.laid_math_bits_deBruijn64tab)]=true:=by
 unfold Program.listedFits;rw[nou]
 kernel_rfl
theorem tie:prog.laidByTextLater [("unicode/utf8.acceptRanges",Rows.laid_unicode_utf8_acceptRanges),("math/bits.deBruijn32tab",Rows.laid_math_bits_deBruijn32tab),("strconv.ErrSyntax",Rows.laid_strconv_ErrSyntax),("strconv.ErrRange",Rows.laid_strconv_ErrRange),("internal/strconv.uint64pow10",Rows.laid_internal_strconv_uint64pow10),("math/bits.deBruijn64tab",Rows.laid_math_bits_deBruijn64tab)] [.data,.data,.sentinel,.sentinel,.data,.data] true:=
 Program.laidByTextLater_by_run 400 8 (by kernel_rfl) (by kernel_rfl) (by kernel_rfl) (by kernel_rfl) (by kernel_rfl) (by kernel_rfl) (λ _ _=>by kernel_rfl) (λ _ _=>by kernel_rfl) (λ _ _=>by kernel_rfl)
theorem claimNormal_row_tie:Rows.claimNormalRow.laidByTextAt .later Tryz.pinned [.pinned,.data,.data,.sentinel,.sentinel,.data,.data] true:=
 OpenClaim.laidByTextAt_pinned rfl rfl tie rfl rfl rfl rfl (λ y a _e=>by
  simp only[Rows.claimNormalRow,List.zip_cons_cons,List.zip_nil_right,List.mem_cons,List.mem_nil_iff,or_false] at a;rcases a with rfl|rfl|rfl|rfl|rfl|rfl|rfl
  ·exact⟨alR,by kernel_rfl⟩
  ·cases _e
  ·cases _e
  ·cases _e
  ·cases _e
  ·cases _e
  ·cases _e) fits1
end Go.Proofs.YtbapfnpbamnmpaaGreatDoor
