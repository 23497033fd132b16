/- A part of MarkAsks's proof; no condition. -/
import Derived.Test.YtccpcfcochffcaaGreatDoorM01
import Derived.Shelf.Sort.Plain
import Derived.Shelf.Slices.In.SortNone
set_option linter.all false
set_option maxHeartbeats 8000000
set_option maxRecDepth 100000
namespace Go.Proofs.YtccpcfcochffcaaGreatDoor
open Tryz
open Go.RowKit Go.Shelf Go.Sort
namespace Mk
def tz:Go.Shelf.Ren:=⟨λ|189=>40|125=>75|257=>74|128=>130|129=>131|294=>121|295=>122|296=>123|297=>124|298=>125|299=>126|216=>127|300=>128|301=>129|328=>167|329=>168|330=>169|331=>170|332=>171|215=>172|343=>196|n=>n,λ|28=>27|3=>3|46=>157|0=>0|51=>208|53=>210|4=>4|183=>202|182=>201|131=>57|5=>5|9=>9|218=>245|222=>249|228=>282|229=>283|n=>n,λ|n=>n⟩
def FA:Go.Proofs.Lays.n189 prog tz:={
 mixed:=by kernel_rfl
 f125:=Tryz.func75.trans (congrArg some (by kernel_rfl))
 f128:=Tryz.func130.trans (congrArg some (by kernel_rfl))
 f129:=Tryz.func131.trans (congrArg some (by kernel_rfl))
 f189:=Tryz.func40.trans (congrArg some (by kernel_rfl))
 f215:=Tryz.func172.trans (congrArg some (by kernel_rfl))
 f216:=Tryz.func127.trans (congrArg some (by kernel_rfl))
 f257:=Tryz.func74.trans (congrArg some (by kernel_rfl))
 f294:=Tryz.func121.trans (congrArg some (by kernel_rfl))
 f295:=Tryz.func122.trans (congrArg some (by kernel_rfl))
 f296:=Tryz.func123.trans (congrArg some (by kernel_rfl))
 f297:=Tryz.func124.trans (congrArg some (by kernel_rfl))
 f298:=Tryz.func125.trans (congrArg some (by kernel_rfl))
 f299:=Tryz.func126.trans (congrArg some (by kernel_rfl))
 f300:=Tryz.func128.trans (congrArg some (by kernel_rfl))
 f301:=Tryz.func129.trans (congrArg some (by kernel_rfl))
 f328:=Tryz.func167.trans (congrArg some (by kernel_rfl))
 f329:=Tryz.func168.trans (congrArg some (by kernel_rfl))
 f330:=Tryz.func169.trans (congrArg some (by kernel_rfl))
 f331:=Tryz.func170.trans (congrArg some (by kernel_rfl))
 f332:=Tryz.func171.trans (congrArg some (by kernel_rfl))
 f343:=Tryz.func196.trans (congrArg some (by kernel_rfl))
 t0:=underlying0
 a0:=isAgg0
 z0:=sizeOf0
 v0:=zeroValue0
 t3:=underlying3
 a3:=isAgg3
 z3:=sizeOf3
 v3:=zeroValue3
 t4:=underlying4
 a4:=isAgg4
 z4:=sizeOf4
 v4:=zeroValue4
 t5:=underlying5
 a5:=isAgg5
 z5:=sizeOf5
 v5:=zeroValue5
 t9:=underlying9
 a9:=isAgg9
 z9:=sizeOf9
 v9:=zeroValue9
 t28:=underlying27
 a28:=isAgg27
 z28:=sizeOf27
 v28:=zeroValue27
 t46:=underlying157
 a46:=isAgg157
 z46:=sizeOf157
 v46:=zeroValue157
 t51:=underlying208
 a51:=isAgg208
 z51:=sizeOf208
 v51:=zeroValue208
 t53:=underlying210
 a53:=isAgg210
 z53:=sizeOf210
 v53:=zeroValue210
 t131:=underlying57
 a131:=isAgg57
 z131:=sizeOf57
 v131:=zeroValue57
 t182:=underlying201
 a182:=isAgg201
 z182:=sizeOf201
 v182:=zeroValue201
 t183:=underlying202
 a183:=isAgg202
 z183:=sizeOf202
 v183:=zeroValue202
 t218:=underlying245
 a218:=isAgg245
 z218:=sizeOf245
 v218:=zeroValue245
 t222:=underlying249
 a222:=isAgg249
 z222:=sizeOf249
 v222:=zeroValue249
 t228:=underlying282
 a228:=isAgg282
 z228:=sizeOf282
 v228:=zeroValue282
 t229:=underlying283
 a229:=isAgg283
 z229:=sizeOf283
 v229:=zeroValue283}
def UM:tz.f 189=40:=by kernel_rfl
def PY(blk off cap:Nat)(zs:List Int)(w:aj)(hH:Holds (Value.int .i64) w blk off zs.toArray)(lJ:blk<w.heap.size)(hsz:zs.length<4611686018427387904):
 xC 40 #[xL (some ⟨blk,off,none⟩) zs.length cap] w λe w'=>
  e=xR (.tuple #[])/\∃n os,w'=grow (putRow (Value.int .i64) (Sort.ahead w n) blk off (zs.mergeSort λx y=>decide (x<=y)).toArray) os:=by
 have h:=Any.slices_Sort_int FA blk off cap zs w hH lJ hsz;rw[UM]at h;exact h
def AI(p:dC)(cap:Nat)(w:aj):xC 40 #[xL p 0 cap] w λe w'=>e=xR (.tuple #[])/\w'=w:=by
 have h:=Any.slices_Sort_int_none FA p cap w;rw[UM]at h;exact h
end Mk
end Go.Proofs.YtccpcfcochffcaaGreatDoor
