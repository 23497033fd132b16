/- A part of MarkAsks's proof; no condition. -/
import Derived.Test.YtccpcfcochffcaaGreatDoorM16
import Derived.Test.YtccpcfcochffcaaGreatDoorRows
import Derived.Lib.LaidU8T
import Derived.PinnedBridge
import Derived.LaidMore
set_option linter.all false
set_option maxHeartbeats 8000000
set_option maxRecDepth 100000
namespace Go.Proofs.YtccpcfcochffcaaGreatDoor
open Go.Proofs.Tryz
open Go.RowKit Go.Shelf Go.Lib
variable{W:aj}
abbrev me:List (String×DataW Unit):=Rows.markAsksRow.laid
def u8x:U8Extra prog ia:=
 ⟨by kernel_rfl,by kernel_rfl,by kernel_rfl,by kernel_rfl,by kernel_rfl,by kernel_rfl,by kernel_rfl⟩
def Wb:(Rows.laid_unicode_utf8_acceptRanges:DataW Unit)=acceptData:=by kernel_rfl
def pow_eq:(Rows.laid_internal_strconv_uint64pow10:DataW Unit)=tabData .u64 pow10Tab:=by kernel_rfl
def ZQ:Tryz.prog.globalNamed "internal/strconv.uint64pow10"=some 3:=by kernel_rfl
def ZR(h:laidMetH prog me W)(oO:W.ShapedOpen prog):Gd W:=by
 rw[MakeChecks.laidMetH_plain _ _ _ (by kernel_rfl)]at h;have h1:=laidMet.reads h (n:= "unicode/utf8.first") (d:=firstData) (by rw[<-Pinned.utf8First_eq];simp[me,Rows.markAsksRow,Rows.laid_unicode_utf8_first]);have h2:=laidMet.reads h (n:= "unicode/utf8.acceptRanges") (d:=acceptData) (by rw[<-Wb];simp[me,Rows.markAsksRow]);have h3:=laidMet.reads h (n:= "internal/strconv.uint64pow10") (d:=tabData .u64 pow10Tab) (by rw[<-pow_eq];simp[me,Rows.markAsksRow]);obtain⟨g,t,cs,fuel,p,hg,GZ,qei,hd⟩:=h3;obtain rfl:=Option.some.inj (ZQ.symm.trans hg);obtain rfl:=Option.some.inj ((show(Tryz.prog.globals[3]?).map (·.type)=some 414 by kernel_rfl).symm.trans GZ);have hp:TabIs prog W "internal/strconv.uint64pow10" .u64 pow10Tab:=by
  unfold TabIs;rw[qei,<-cells_of_tab underlying414 underlying210 (by kernel_rfl) (by kernel_rfl) hd]
 refine⟨utf8Tabs_of_readsT (U8Types.of196 Bn) u8x h1 h2,?_,λW' hb=>Go.Joins.tab_stays ZQ hp hb bq⟩;exact cell_of_shapedOpen_int (zero:= #[.int .i64 0]) oO (of_decide_eq_true (by kernel_rfl)) (by kernel_rfl) rfl (by kernel_rfl) (by kernel_rfl) underlying3
end Go.Proofs.YtccpcfcochffcaaGreatDoor
