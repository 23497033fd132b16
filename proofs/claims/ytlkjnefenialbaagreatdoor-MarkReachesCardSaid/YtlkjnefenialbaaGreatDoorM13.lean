/- What utf8.ValidString answers; no condition beyond each theorem's own. -/
import Derived.Test.YtlkjnefenialbaaGreatDoorM06
import Derived.Shelf.Unicode.ValidAny
import Derived.Ground.NamesProg
import Derived.Lib.ValidLaws
set_option linter.unusedVariables false
set_option linter.unusedSimpArgs false
set_option maxHeartbeats 8000000
set_option maxRecDepth 100000
namespace Go.Proofs.YtlkjnefenialbaaGreatDoor
open Go.RowKit Go.Shelf
def fQ:Go.Shelf.Ren:=⟨fun|196=>128|259=>148|n=>n,fun|9=>9|4=>4|3=>3|5=>5|12=>12|119=>242|0=>0|46=>138|139=>245|138=>244|53=>184|n=>n,fun|3=>0|4=>1|n=>n⟩
theorem wU:Go.Proofs.Lays.n196 Tryz.prog fQ:={
 mixed:=by kernel_rfl
 f196:=Tryz.func128.trans (congrArg some (by kernel_rfl))
 f259:=Tryz.func148.trans (congrArg some (by kernel_rfl))
 t0:=Tryz.underlying0
 a0:=Tryz.isAgg0
 z0:=Tryz.sizeOf0
 v0:=Tryz.zeroValue0
 t3:=Tryz.underlying3
 a3:=Tryz.isAgg3
 z3:=Tryz.sizeOf3
 v3:=Tryz.zeroValue3
 t4:=Tryz.underlying4
 a4:=Tryz.isAgg4
 z4:=Tryz.sizeOf4
 v4:=Tryz.zeroValue4
 t5:=Tryz.underlying5
 a5:=Tryz.isAgg5
 z5:=Tryz.sizeOf5
 v5:=Tryz.zeroValue5
 t9:=Tryz.underlying9
 a9:=Tryz.isAgg9
 z9:=Tryz.sizeOf9
 v9:=Tryz.zeroValue9
 t12:=Tryz.underlying12
 a12:=Tryz.isAgg12
 z12:=Tryz.sizeOf12
 v12:=Tryz.zeroValue12
 t46:=Tryz.underlying138
 a46:=Tryz.isAgg138
 z46:=Tryz.sizeOf138
 v46:=Tryz.zeroValue138
 t53:=Tryz.underlying184
 a53:=Tryz.isAgg184
 z53:=Tryz.sizeOf184
 v53:=Tryz.zeroValue184
 t119:=Tryz.underlying242
 a119:=Tryz.isAgg242
 z119:=Tryz.sizeOf242
 t138:=Tryz.underlying244
 a138:=Tryz.isAgg244
 z138:=Tryz.sizeOf244
 v138:=Tryz.zeroValue244
 t139:=Tryz.underlying245
 a139:=Tryz.isAgg245
 z139:=Tryz.sizeOf245
 v139:=Tryz.zeroValue245
 g3:=by kernel_rfl
 g4:=by kernel_rfl}
theorem PO:fQ.f 196=128:=by kernel_rfl
def Tb(w:World):Prop:=Lib.Utf8Tabs (fQ.g 3) (fQ.g 4) w
theorem Tb.below {w w':World}(h:Tb w)(hb:Below w.heap.size w w'):Tb w':=Utf8Tabs_below h hb
theorem Gz(s:ByteArray)(w:World)(hs:s.size≤9223372036854775807)(hT:Tb w):
 Calls Tryz.prog 128 #[.string s] w fun e w'=>e= .returned (.bool (Lib.validD s.data.toList))∧Below w.heap.size w w':=by
 have h:=Any.utf8_ValidString wU s w hs hT
 rw[PO]at h
 exact h
theorem Az {l:List UInt8}(h:gp l):Lib.validD l=true:=by
 obtain⟨ss,rfl,hs⟩:=h
 induction ss with
 |nil=>rfl
 |cons x r ih=>
  have hr:=ih fun y hy=>hs y (List.mem_cons_of_mem _ hy)
  rw[List.flatten_cons]
  rcases hs x List.mem_cons_self with⟨c,rfl,h1,h2⟩|rfl
  ·have h3:c.toNat<128:=by have:=UInt8.lt_iff_toNat_lt.1 h2;simp at this;omega
   rw[List.cons_append,List.nil_append,Lib.validD_cons c _ h3]
   exact hr
  ·rw[Lib.validD_step _ (by simp)]
   have e:Lib.decodeL ([195,169]++r.flatten)=(233,2):=by
    have hd:(⟨([195,169]++r.flatten).toArray⟩:ByteArray).data.toList.drop 0=195::169::r.flatten:=by simp
    obtain⟨b1,b2⟩:=kF (k:=0) hd rfl
    obtain⟨b3,b4⟩:=kF (k:=1) hd rfl
    show Utf8.decode ⟨([195,169]++r.flatten).toArray⟩ 0=_
    simp only[Utf8.decode,b2,b4]
    simp
    simpa using b3
   rw[e]
   simpa using hr
end Go.Proofs.YtlkjnefenialbaaGreatDoor
