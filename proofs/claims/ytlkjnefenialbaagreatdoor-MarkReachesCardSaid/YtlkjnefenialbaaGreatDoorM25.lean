/- What the listed variables hold; no condition beyond each theorem's own. -/
import Derived.Test.YtlkjnefenialbaaGreatDoorM24
import Derived.Test.YtlkjnefenialbaaGreatDoorRows
import Derived.Lib.LaidU8T
import Derived.PinnedBridge
import Derived.Shelf.Vars
import Derived.Lib.SmallJoins
import Derived.LaidMore
import Derived.MakeChecks
set_option linter.unusedVariables false
set_option linter.unusedSimpArgs false
set_option maxHeartbeats 8000000
set_option maxRecDepth 100000
namespace Go.Proofs.YtlkjnefenialbaaGreatDoor
open Go.RowKit Go.Shelf Go.Lib
abbrev j5:List (String×DataW Unit):=Rows.markReachesRow.laid
theorem u8x:U8Extra Tryz.prog fQ:=
 ⟨by kernel_rfl,by kernel_rfl,by kernel_rfl,by kernel_rfl,by kernel_rfl,by kernel_rfl,by kernel_rfl⟩
theorem P2:(Rows.laid_unicode_utf8_acceptRanges:DataW Unit)=acceptData:=by kernel_rfl
theorem pow_eq:(Rows.laid_internal_strconv_uint64pow10:DataW Unit)=tabData .u64 pow10Tab:=by kernel_rfl
theorem Th:Tryz.prog.globalNamed "internal/strconv.uint64pow10"=some 3:=by kernel_rfl
theorem Ti {W:World}(h:laidMetH Tryz.prog j5 W)(mh:W.ShapedOpen Tryz.prog):Gd W:=by
 rw[MakeChecks.laidMetH_plain _ _ _ (by kernel_rfl)]at h
 have h1:=laidMet.reads h (n:= "unicode/utf8.first") (d:=firstData) (by rw[←Pinned.utf8First_eq];simp[j5,Rows.markReachesRow,Rows.laid_unicode_utf8_first])
 have h2:=laidMet.reads h (n:= "unicode/utf8.acceptRanges") (d:=acceptData) (by rw[←P2];simp[j5,Rows.markReachesRow])
 have h3:=laidMet.reads h (n:= "internal/strconv.uint64pow10") (d:=tabData .u64 pow10Tab) (by rw[←pow_eq];simp[j5,Rows.markReachesRow])
 obtain⟨g,t,cs,fuel,p,hg,CG,Zm,hd⟩:=h3
 obtain rfl:=Option.some.inj (Th.symm.trans hg)
 obtain rfl:=Option.some.inj ((show(Tryz.prog.globals[3]?).map (·.type)=some 365 by kernel_rfl).symm.trans CG)
 have hp:TabIs Tryz.prog W "internal/strconv.uint64pow10" .u64 pow10Tab:=by
  unfold TabIs
  rw[Zm,←cells_of_tab Tryz.underlying365 Tryz.underlying184 (by kernel_rfl) (by kernel_rfl) hd]
 refine⟨utf8Tabs_of_readsT (U8Types.of196 wU) u8x h1 h2,?_,fun W' hb=>Go.Joins.tab_stays Th hp hb (Nat.le_refl _)⟩
 exact cell_of_shapedOpen_int (zero:= #[.int .i64 0]) mh (of_decide_eq_true (by kernel_rfl)) (by kernel_rfl) rfl (by kernel_rfl) (by kernel_rfl) Tryz.underlying3
end Go.Proofs.YtlkjnefenialbaaGreatDoor
