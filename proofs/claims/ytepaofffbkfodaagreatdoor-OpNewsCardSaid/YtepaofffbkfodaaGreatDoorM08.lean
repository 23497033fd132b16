/- A part of the proof; no condition. -/
import Derived.Test.YtepaofffbkfodaaGreatDoorM01
import Derived.Shelf.Unicode.ValidAny
set_option linter.all false
set_option maxHeartbeats 8000000
set_option maxRecDepth 100000
namespace Go.Proofs.YtepaofffbkfodaaGreatDoor
open Tryz
open Go.RowKit Go.Shelf
variable{w w':ax}
def ij:Go.Shelf.Ren:=⟨λ|196=>164|259=>236|n=>n,λ|9=>9|4=>4|3=>3|5=>5|12=>12|119=>313|0=>0|46=>216|139=>316|138=>315|53=>281|n=>n,λ|3=>0|4=>1|n=>n⟩
def Aa:Go.Proofs.Lays.n196 prog ij:={
 mixed:=by kernel_rfl
 f196:=Tryz.func164.trans (by kernel_rfl)
 f259:=Tryz.func236.trans (by kernel_rfl)
 t0:=underlying0
 a0:=isAgg0
 z0:=sizeOf0
 v0:=zeroValue0
 t3:=underlying3
 a3:=isAgg3
 z3:=sizeOf3
 v3:=zeroValue3
 t4:=underlying4
 a4:=isAgg4
 z4:=sizeOf4
 v4:=zeroValue4
 t5:=underlying5
 a5:=isAgg5
 z5:=sizeOf5
 v5:=zeroValue5
 t9:=underlying9
 a9:=isAgg9
 z9:=sizeOf9
 v9:=zeroValue9
 t12:=underlying12
 a12:=isAgg12
 z12:=sizeOf12
 v12:=zeroValue12
 t46:=underlying216
 a46:=isAgg216
 z46:=sizeOf216
 v46:=zeroValue216
 t53:=underlying281
 a53:=isAgg281
 z53:=sizeOf281
 v53:=zeroValue281
 t119:=underlying313
 a119:=isAgg313
 z119:=sizeOf313
 t138:=underlying315
 a138:=isAgg315
 z138:=sizeOf315
 v138:=zeroValue315
 t139:=underlying316
 a139:=isAgg316
 z139:=sizeOf316
 v139:=zeroValue316
 g3:=by kernel_rfl
 g4:=by kernel_rfl}
def UF:ij.f 196=164:=by kernel_rfl
def Tb(w:ax):Prop:=Lib.Utf8Tabs (ij.g 3) (ij.g 4) w
theorem Tb.ae(h:Tb w)(hb:aC w w'):Tb w':=Utf8Tabs_below h hb
def KM(s:aY)(w:ax)(hs:s.size<=9223372036854775807)(hT:Tb w):
 xC 164 #[s] w (cu (xB (Lib.validD s.data.toList)) w):=by
 have h:=Any.utf8_ValidString Aa s w hs hT;rw[UF]at h;exact h
def Dc {l:List UInt8}(h:iP l):Lib.validD l=true:=by
 obtain⟨ss,rfl,hs⟩:=h;induction ss with
 |nil=>rfl
 |cons x r ih=>
  have hr:=ih λy hy=>hs y (List.mem_cons_of_mem _ hy);rw[List.flatten_cons];rcases hs x List.mem_cons_self with⟨c,rfl,h1,h2⟩|rfl
  .have h3:c.toNat<128:=by have:=UInt8.lt_iff_toNat_lt.1 h2;simp at this;omega
   rw[List.cons_append,List.nil_append,Lib.validD_cons c _ h3];exact hr
  .rw[Lib.validD_step _ (by simp)];have e:Lib.decodeL ([195,169]++r.flatten)=(233,2):=by
    have hd:(⟨([195,169]++r.flatten).toArray⟩:aY).data.toList.drop 0=195::169::r.flatten:=by simp
    have⟨b1,b2⟩:=mK (k:=0) hd rfl;have⟨b3,b4⟩:=mK (k:=1) hd rfl;show Utf8.decode ⟨([195,169]++r.flatten).toArray⟩ 0=_;simp only[Utf8.decode,b2,b4];simp;simpa using b3
   rw[e];simpa using hr
end Go.Proofs.YtepaofffbkfodaaGreatDoor
