/- A part of OpReads's proof; no condition. -/
import Derived.Test.YtepaofffbkfodaaGreatDoorM19
import Derived.Test.YtepaofffbkfodaaGreatDoorRows
import Derived.Lib.LaidU8T
import Derived.PinnedBridge
import Derived.LaidMore
set_option linter.all false
set_option maxHeartbeats 8000000
set_option maxRecDepth 100000
namespace Go.Proofs.YtepaofffbkfodaaGreatDoor
open Go.Proofs.Tryz
open Go.RowKit Go.Shelf Go.Lib
variable{W:aj}
abbrev lE:List (String×DataW Unit):=Rows.opReadsRow.laid
def u8x:U8Extra prog hU:=
 ⟨by kernel_rfl,by kernel_rfl,by kernel_rfl,by kernel_rfl,by kernel_rfl,by kernel_rfl,by kernel_rfl⟩
def Vw:(Rows.laid_unicode_utf8_acceptRanges:DataW Unit)=acceptData:=by kernel_rfl
def pow_eq:(Rows.laid_internal_strconv_uint64pow10:DataW Unit)=tabData .u64 pow10Tab:=by kernel_rfl
def Zq:Tryz.prog.globalNamed "internal/strconv.uint64pow10"=some 2:=by kernel_rfl
def Zr(h:laidMetH prog lE W)(nX:W.ShapedOpen prog):Gd W:=by
 rw[MakeChecks.laidMetH_plain _ _ _ (by kernel_rfl)]at h;have h1:=laidMet.reads h (n:= "unicode/utf8.first") (d:=firstData) (by rw[<-Pinned.utf8First_eq];simp[lE,Rows.opReadsRow,Rows.laid_unicode_utf8_first]);have h2:=laidMet.reads h (n:= "unicode/utf8.acceptRanges") (d:=acceptData) (by rw[<-Vw];simp[lE,Rows.opReadsRow]);have h3:=laidMet.reads h (n:= "internal/strconv.uint64pow10") (d:=tabData .u64 pow10Tab) (by rw[<-pow_eq];simp[lE,Rows.opReadsRow]);obtain⟨g,t,cs,fuel,p,hg,Ge,qdy,hd⟩:=h3;obtain rfl:=Option.some.inj (Zq.symm.trans hg);obtain rfl:=Option.some.inj ((show(Tryz.prog.globals[2]?).map (·.type)=some 420 by kernel_rfl).symm.trans Ge);have hp:TabIs prog W "internal/strconv.uint64pow10" .u64 pow10Tab:=by
  unfold TabIs;rw[qdy,<-cells_of_tab underlying420 underlying281 (by kernel_rfl) (by kernel_rfl) hd]
 refine⟨utf8Tabs_of_readsT (U8Types.of196 Ao) u8x h1 h2,?_,λW' hb=>Go.Joins.tab_stays Zq hp hb bN⟩;exact cell_of_shapedOpen_int (zero:= #[.int .i64 0]) nX (of_decide_eq_true (by kernel_rfl)) (by kernel_rfl) rfl (by kernel_rfl) (by kernel_rfl) underlying3
end Go.Proofs.YtepaofffbkfodaaGreatDoor
