/- What sort.Ints rests on; no condition beyond each theorem's own. -/
import Derived.Shelf.Sort.Plain
import Derived.Shelf.Slices.In.SortNone
import Derived.Test.YtlkjnefenialbaaGreatDoorProg
set_option linter.unusedVariables false
set_option linter.unusedSimpArgs false
set_option maxHeartbeats 8000000
set_option maxRecDepth 100000
namespace Go.Proofs.YtlkjnefenialbaaGreatDoor
open Go.RowKit Go.Shelf Go.Sort
namespace Mk
def qd:Go.Shelf.Ren:=⟨fun|189=>33|125=>56|257=>55|128=>87|129=>88|294=>78|295=>79|296=>80|297=>81|298=>82|299=>83|216=>84|300=>85|301=>86|328=>109|329=>110|330=>111|331=>112|332=>113|215=>114|343=>135|n=>n,fun|28=>27|3=>3|46=>138|0=>0|51=>182|53=>184|4=>4|183=>176|182=>175|131=>44|5=>5|9=>9|218=>200|222=>204|228=>225|229=>226|n=>n,fun|n=>n⟩
theorem Bk:Go.Proofs.Lays.n189 Tryz.prog qd:={
 mixed:=by kernel_rfl
 f125:=Tryz.func56.trans (congrArg some (by kernel_rfl))
 f128:=Tryz.func87.trans (congrArg some (by kernel_rfl))
 f129:=Tryz.func88.trans (congrArg some (by kernel_rfl))
 f189:=Tryz.func33.trans (congrArg some (by kernel_rfl))
 f215:=Tryz.func114.trans (congrArg some (by kernel_rfl))
 f216:=Tryz.func84.trans (congrArg some (by kernel_rfl))
 f257:=Tryz.func55.trans (congrArg some (by kernel_rfl))
 f294:=Tryz.func78.trans (congrArg some (by kernel_rfl))
 f295:=Tryz.func79.trans (congrArg some (by kernel_rfl))
 f296:=Tryz.func80.trans (congrArg some (by kernel_rfl))
 f297:=Tryz.func81.trans (congrArg some (by kernel_rfl))
 f298:=Tryz.func82.trans (congrArg some (by kernel_rfl))
 f299:=Tryz.func83.trans (congrArg some (by kernel_rfl))
 f300:=Tryz.func85.trans (congrArg some (by kernel_rfl))
 f301:=Tryz.func86.trans (congrArg some (by kernel_rfl))
 f328:=Tryz.func109.trans (congrArg some (by kernel_rfl))
 f329:=Tryz.func110.trans (congrArg some (by kernel_rfl))
 f330:=Tryz.func111.trans (congrArg some (by kernel_rfl))
 f331:=Tryz.func112.trans (congrArg some (by kernel_rfl))
 f332:=Tryz.func113.trans (congrArg some (by kernel_rfl))
 f343:=Tryz.func135.trans (congrArg some (by kernel_rfl))
 t0:=Tryz.underlying0
 a0:=Tryz.isAgg0
 z0:=Tryz.sizeOf0
 v0:=Tryz.zeroValue0
 t3:=Tryz.underlying3
 a3:=Tryz.isAgg3
 z3:=Tryz.sizeOf3
 v3:=Tryz.zeroValue3
 t4:=Tryz.underlying4
 a4:=Tryz.isAgg4
 z4:=Tryz.sizeOf4
 v4:=Tryz.zeroValue4
 t5:=Tryz.underlying5
 a5:=Tryz.isAgg5
 z5:=Tryz.sizeOf5
 v5:=Tryz.zeroValue5
 t9:=Tryz.underlying9
 a9:=Tryz.isAgg9
 z9:=Tryz.sizeOf9
 v9:=Tryz.zeroValue9
 t28:=Tryz.underlying27
 a28:=Tryz.isAgg27
 z28:=Tryz.sizeOf27
 v28:=Tryz.zeroValue27
 t46:=Tryz.underlying138
 a46:=Tryz.isAgg138
 z46:=Tryz.sizeOf138
 v46:=Tryz.zeroValue138
 t51:=Tryz.underlying182
 a51:=Tryz.isAgg182
 z51:=Tryz.sizeOf182
 v51:=Tryz.zeroValue182
 t53:=Tryz.underlying184
 a53:=Tryz.isAgg184
 z53:=Tryz.sizeOf184
 v53:=Tryz.zeroValue184
 t131:=Tryz.underlying44
 a131:=Tryz.isAgg44
 z131:=Tryz.sizeOf44
 v131:=Tryz.zeroValue44
 t182:=Tryz.underlying175
 a182:=Tryz.isAgg175
 z182:=Tryz.sizeOf175
 v182:=Tryz.zeroValue175
 t183:=Tryz.underlying176
 a183:=Tryz.isAgg176
 z183:=Tryz.sizeOf176
 v183:=Tryz.zeroValue176
 t218:=Tryz.underlying200
 a218:=Tryz.isAgg200
 z218:=Tryz.sizeOf200
 v218:=Tryz.zeroValue200
 t222:=Tryz.underlying204
 a222:=Tryz.isAgg204
 z222:=Tryz.sizeOf204
 v222:=Tryz.zeroValue204
 t228:=Tryz.underlying225
 a228:=Tryz.isAgg225
 z228:=Tryz.sizeOf225
 v228:=Tryz.zeroValue225
 t229:=Tryz.underlying226
 a229:=Tryz.isAgg226
 z229:=Tryz.sizeOf226
 v229:=Tryz.zeroValue226}
theorem OM:qd.f 189=33:=by kernel_rfl
theorem Kk(blk off cap:Nat)(zs:List Int)(w:World)(hH:Holds (Value.int .i64) w blk off zs.toArray)(iX:blk<w.heap.size)(cB:zs.length<4611686018427387904):
 Calls Tryz.prog 33 #[.slice (some ⟨blk,off,none⟩) zs.length cap] w fun e w'=>
  e= .returned (.tuple #[])∧∃n os,w'=grow (putRow (Value.int .i64) (Sort.ahead w n) blk off (zs.mergeSort fun x y=>decide (x≤y)).toArray) os:=by
 have h:=Any.slices_Sort_int Bk blk off cap zs w hH iX cB
 rw[OM]at h
 exact h
theorem vT(p:Option Addr)(cap:Nat)(w:World):Calls Tryz.prog 33 #[.slice p 0 cap] w fun e w'=>e= .returned (.tuple #[])∧w'=w:=by
 have h:=Any.slices_Sort_int_none Bk p cap w
 rw[OM]at h
 exact h
end Mk
end Go.Proofs.YtlkjnefenialbaaGreatDoor
