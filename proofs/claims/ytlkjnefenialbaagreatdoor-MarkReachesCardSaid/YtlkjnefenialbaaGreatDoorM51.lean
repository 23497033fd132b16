/- What world.Reach answers; no condition beyond each theorem's own. -/
import Derived.Test.YtlkjnefenialbaaGreatDoorM46
import Derived.Test.YtlkjnefenialbaaGreatDoorM50
import Derived.Shelf.SlIterI.Nil
import Derived.Shelf.SortM.Plain
import Derived.Shelf.SortM.SortNone
import Derived.Ground.GgzProg
import Derived.Ground.SlgmProg
set_option linter.unusedVariables false
set_option linter.unusedSimpArgs false
set_option maxHeartbeats 8000000
set_option maxRecDepth 100000
namespace Go.Proofs.YtlkjnefenialbaaGreatDoor
open Go.RowKit Go.Maps Go.Sort Go.Shelf
def xS:Go.Shelf.Ren:=⟨fun|7=>24|10=>45|n=>n,fun|23=>74|26=>3|3=>4|28=>72|0=>0|27=>71|33=>116|4=>4|n=>n,fun|n=>n⟩
theorem OR:Go.Proofs.SlLaysZI.n7 Tryz.prog xS:={
 mixed:=by kernel_rfl
 f7:=⟨Tryz.f24.name,by decide,Tryz.func24.trans (congrArg some (by kernel_rfl))⟩
 f10:=⟨Tryz.f45.name,by decide,Tryz.func45.trans (congrArg some (by kernel_rfl))⟩
 t0:=Tryz.underlying0
 a0:=Tryz.isAgg0
 z0:=Tryz.sizeOf0
 v0:=Tryz.zeroValue0
 t4:=Tryz.underlying4
 a4:=Tryz.isAgg4
 z4:=Tryz.sizeOf4
 v4:=Tryz.zeroValue4
 t23:=Tryz.underlying74
 a23:=Tryz.isAgg74
 z23:=Tryz.sizeOf74
 v23:=Tryz.zeroValue74
 t26:=Tryz.underlying3
 a26:=Tryz.isAgg3
 z26:=Tryz.sizeOf3
 v26:=Tryz.zeroValue3
 t27:=Tryz.underlying71
 a27:=Tryz.isAgg71
 z27:=Tryz.sizeOf71
 v27:=Tryz.zeroValue71
 t28:=Tryz.underlying72
 a28:=Tryz.isAgg72
 z28:=Tryz.sizeOf72
 v28:=Tryz.zeroValue72
 t33:=Tryz.underlying116
 a33:=Tryz.isAgg116
 z33:=Tryz.sizeOf116
 v33:=Tryz.zeroValue116}
def sq:Go.Shelf.Ren:=⟨fun|6=>23|8=>44|9=>33|11=>71|13=>56|12=>55|23=>87|24=>88|14=>78|15=>79|16=>80|17=>81|18=>82|19=>83|20=>84|21=>85|22=>86|25=>109|26=>110|27=>111|28=>112|29=>113|30=>114|31=>135|n=>n,fun|26=>3|28=>72|24=>27|0=>0|3=>3|37=>138|48=>182|50=>184|4=>4|40=>176|39=>175|45=>44|5=>5|9=>9|51=>200|55=>204|57=>225|58=>226|33=>116|n=>n,fun|n=>n⟩
theorem NJ:Go.Proofs.SlLaysZI.n6 Tryz.prog sq:={
 mixed:=by kernel_rfl
 f6:=⟨Tryz.f23.name,by decide,Tryz.func23.trans (congrArg some (by kernel_rfl))⟩
 f8:=⟨Tryz.f44.name,by decide,Tryz.func44.trans (congrArg some (by kernel_rfl))⟩
 f11:=⟨Tryz.f71.name,by decide,Tryz.func71.trans (congrArg some (by kernel_rfl))⟩
 t0:=Tryz.underlying0
 a0:=Tryz.isAgg0
 z0:=Tryz.sizeOf0
 v0:=Tryz.zeroValue0
 t24:=Tryz.underlying27
 a24:=Tryz.isAgg27
 z24:=Tryz.sizeOf27
 v24:=Tryz.zeroValue27
 t26:=Tryz.underlying3
 a26:=Tryz.isAgg3
 z26:=Tryz.sizeOf3
 v26:=Tryz.zeroValue3
 t28:=Tryz.underlying72
 a28:=Tryz.isAgg72
 z28:=Tryz.sizeOf72
 v28:=Tryz.zeroValue72
 i26:=by kernel_rfl}
def Ii:Go.Shelf.Ren:=⟨fun|5=>33|8=>56|7=>55|19=>87|20=>88|10=>78|11=>79|12=>80|13=>81|14=>82|15=>83|16=>84|17=>85|18=>86|30=>109|31=>110|32=>111|33=>112|34=>113|35=>114|40=>135|n=>n,fun|23=>27|25=>3|3=>3|32=>138|22=>27|0=>0|44=>182|46=>184|4=>4|36=>176|35=>175|41=>44|5=>5|9=>9|53=>200|57=>204|63=>225|64=>226|n=>n,fun|n=>n⟩
theorem OS:Go.Proofs.SlLaysM.n5 Tryz.prog Ii:={
 mixed:=by kernel_rfl
 f5:=⟨Tryz.f33.name,by decide,Tryz.func33.trans (congrArg some (by kernel_rfl))⟩
 f7:=⟨Tryz.f55.name,by decide,Tryz.func55.trans (congrArg some (by kernel_rfl))⟩
 f8:=Tryz.func56.trans (congrArg some (by kernel_rfl))
 f10:=⟨Tryz.f78.name,by decide,Tryz.func78.trans (congrArg some (by kernel_rfl))⟩
 f11:=⟨Tryz.f79.name,by decide,Tryz.func79.trans (congrArg some (by kernel_rfl))⟩
 f12:=⟨Tryz.f80.name,by decide,Tryz.func80.trans (congrArg some (by kernel_rfl))⟩
 f13:=⟨Tryz.f81.name,by decide,Tryz.func81.trans (congrArg some (by kernel_rfl))⟩
 f14:=⟨Tryz.f82.name,by decide,Tryz.func82.trans (congrArg some (by kernel_rfl))⟩
 f15:=⟨Tryz.f83.name,by decide,Tryz.func83.trans (congrArg some (by kernel_rfl))⟩
 f16:=⟨Tryz.f84.name,by decide,Tryz.func84.trans (congrArg some (by kernel_rfl))⟩
 f17:=⟨Tryz.f85.name,by decide,Tryz.func85.trans (congrArg some (by kernel_rfl))⟩
 f18:=⟨Tryz.f86.name,by decide,Tryz.func86.trans (congrArg some (by kernel_rfl))⟩
 f19:=Tryz.func87.trans (congrArg some (by kernel_rfl))
 f20:=Tryz.func88.trans (congrArg some (by kernel_rfl))
 f30:=⟨Tryz.f109.name,by decide,Tryz.func109.trans (congrArg some (by kernel_rfl))⟩
 f31:=Tryz.func110.trans (congrArg some (by kernel_rfl))
 f32:=Tryz.func111.trans (congrArg some (by kernel_rfl))
 f33:=⟨Tryz.f112.name,by decide,Tryz.func112.trans (congrArg some (by kernel_rfl))⟩
 f34:=⟨Tryz.f113.name,by decide,Tryz.func113.trans (congrArg some (by kernel_rfl))⟩
 f35:=⟨Tryz.f114.name,by decide,Tryz.func114.trans (congrArg some (by kernel_rfl))⟩
 f40:=⟨Tryz.f135.name,by decide,Tryz.func135.trans (congrArg some (by kernel_rfl))⟩
 t0:=Tryz.underlying0
 a0:=Tryz.isAgg0
 z0:=Tryz.sizeOf0
 v0:=Tryz.zeroValue0
 t3:=Tryz.underlying3
 a3:=Tryz.isAgg3
 z3:=Tryz.sizeOf3
 v3:=Tryz.zeroValue3
 t4:=Tryz.underlying4
 a4:=Tryz.isAgg4
 z4:=Tryz.sizeOf4
 v4:=Tryz.zeroValue4
 t5:=Tryz.underlying5
 a5:=Tryz.isAgg5
 z5:=Tryz.sizeOf5
 v5:=Tryz.zeroValue5
 t9:=Tryz.underlying9
 a9:=Tryz.isAgg9
 z9:=Tryz.sizeOf9
 v9:=Tryz.zeroValue9
 t22:=Tryz.underlying27
 a22:=Tryz.isAgg27
 z22:=Tryz.sizeOf27
 v22:=Tryz.zeroValue27
 t23:=Tryz.underlying27
 a23:=Tryz.isAgg27
 z23:=Tryz.sizeOf27
 v23:=Tryz.zeroValue27
 t25:=Tryz.underlying3
 a25:=Tryz.isAgg3
 z25:=Tryz.sizeOf3
 v25:=Tryz.zeroValue3
 t32:=Tryz.underlying138
 a32:=Tryz.isAgg138
 z32:=Tryz.sizeOf138
 v32:=Tryz.zeroValue138
 t35:=Tryz.underlying175
 a35:=Tryz.isAgg175
 z35:=Tryz.sizeOf175
 v35:=Tryz.zeroValue175
 t36:=Tryz.underlying176
 a36:=Tryz.isAgg176
 z36:=Tryz.sizeOf176
 v36:=Tryz.zeroValue176
 t41:=Tryz.underlying44
 a41:=Tryz.isAgg44
 z41:=Tryz.sizeOf44
 v41:=Tryz.zeroValue44
 t44:=Tryz.underlying182
 a44:=Tryz.isAgg182
 z44:=Tryz.sizeOf182
 v44:=Tryz.zeroValue182
 t46:=Tryz.underlying184
 a46:=Tryz.isAgg184
 z46:=Tryz.sizeOf184
 v46:=Tryz.zeroValue184
 t53:=Tryz.underlying200
 a53:=Tryz.isAgg200
 z53:=Tryz.sizeOf200
 v53:=Tryz.zeroValue200
 t57:=Tryz.underlying204
 a57:=Tryz.isAgg204
 z57:=Tryz.sizeOf204
 v57:=Tryz.zeroValue204
 t63:=Tryz.underlying225
 a63:=Tryz.isAgg225
 z63:=Tryz.sizeOf225
 v63:=Tryz.zeroValue225
 t64:=Tryz.underlying226
 a64:=Tryz.isAgg226
 z64:=Tryz.sizeOf226
 v64:=Tryz.zeroValue226}
theorem Qk(m:Nat):AnyZI.SortsIn Tryz.prog sq Fence.wide m:=
 ⟨fun blk off cap ss W hH iX cB=>callsIn_wide.2 (AnyM.slices_Sort_int OS blk off cap ss W hH iX cB),
  fun p cap W=>callsIn_wide.2 (AnyM.slices_Sort_int_none OS p cap W)⟩
theorem EA(mb:Option Nat)(W:World):Calls Tryz.prog 24 #[.map mb] W fun e w'=>e= .returned (.func (.func 45) #[] #[.pointer (some ⟨W.heap.size,0,none⟩)])∧w'=W.alloc (.cells #[.map mb] 74):=
 callsIn_wide.1 (AnyZI.keys_in OR Fence.wide 5 trivial rfl mb W)
theorem zu(W:World)(sb:Nat)(S:List Int)(h:Mk.cL W sb S)(hS:∀x∈S,1≤x∧x≤100000)(hl:S.length≤1000):
 Calls Tryz.prog 23 #[.func (.func 45) #[] #[.pointer (some ⟨W.heap.size,0,none⟩)]] (W.alloc (.cells #[.map (some sb)] 74)) fun e w'=>∃(v:Value)(L:List Int),e= .returned v∧ae (α:=Int) (fun _=>False) w' v L∧Mk.gj L∧(∀n,n∈L↔n∈S)∧Below W.heap.size W w':=by
 have IU:=h.nodup
 have bZ:=h.lt
 obtain⟨D0,kQ,qbq,cB⟩:=K7 h hS (by unfold maxLen;omega)
 have LB:SeqGives Fence.wide 2 Tryz.prog 45 #[.pointer (some ⟨W.heap.size,0,none⟩)] encZ (fun ss=>ss.Perm (intKeys D0)) (Maps.size D0) (W.alloc (.cells #[.map (some sb)] 74)):=
  AnyZI.keys_gives (ρ:=xS) {OR with} Fence.wide _ trivial rfl (by omega) W.heap.size sb S.length D0 _ (by simp) (by simp) (by
   obtain⟨es,clock,hb,Ft,hs,hD⟩:=kQ
   exact⟨es,clock,(Below.heap_alloc _ _ sb bZ).trans hb,Ft,hs,hD⟩)
 have cS:=AnyZI.sorted_in NJ Fence.wide 5 trivial trivial trivial trivial rfl (by omega) (Qk _) (by first|exact enters_of Tryz.func33 (by kernel_rfl) rfl|exact enters_of Tryz.func71 (by kernel_rfl) rfl) 45 #[.pointer (some ⟨W.heap.size,0,none⟩)] trivial (enters_of Tryz.func45 (by kernel_rfl) rfl) _ _ (by rw[cB];unfold maxLen;omega) (by rw[cB];omega) _ LB
 change CallsIn _ _ Tryz.prog 23 _ _ _ at cS
 refine(callsIn_wide.1 cS).mono ?_
 rintro e w'⟨v,ss,rfl,hp,OC,_,hb⟩
 obtain⟨kq,qv⟩:=B4 (hp.trans qbq) IU
 refine⟨v,ss.mergeSort (fun x y=>decide (x≤y)),rfl,?_,kq,qv,((Below.refl _ W).alloc (Nat.le_refl _) _).trans (hb.mono (by simp))⟩
 have fl:∀l:List Int,(l.map (fun x=>[Value.int .i64 x])).flatten=l.map encZ:=fun l=>by
  induction l with
  |nil=>rfl
  |cons a r ih=>simp only[List.map_cons,List.flatten_cons,ih];rfl
 refine⟨(ss.mergeSort (fun x y=>decide (x≤y))).map (fun x=>[Value.int .i64 x]),?_,by simp,fun i cs x bE hx=> ?_⟩
 ·rw[fl,List.length_mergeSort]
  exact(ba.qH OC).mono fun j hj _ TA=>TA
 ·rw[List.getElem?_map,hx]at bE
  simp at bE
  exact bE.symm
theorem Ij(x:cG)(w:World)(lv ov rv:Value)(h:fm x)(hG:Gd w)(sC:ae (fun _=>False) w lv x.lines)(vM:ae (fun _=>False) w ov x.objs)(rJ:ae (fun _=>False) w rv x.roots):
 Calls Tryz.prog 6 #[.agg #[lv,ov,rv, .int .i64 x.next]] w (aF w fun u w'=>∃(L:List Int)(wv:Value),u= .tuple #[wv, .int .i64 0]∧ae (α:=Int) (fun _=>False) w' wv L∧Mk.gj L∧∀n,n∈L↔Mk.BI (bo x) (cK x) n):=by
 have ID:∀W,Bd (fun _=>False) W:=fun W i hi=>hi.elim
 have HSV:Hid (∀W,Below w.heap.size w W→_):=(show∀W,_→_ from fun W hb=>Ih x h (fun _=>False) W (ID W) (hG.below hb) lv ov rv (sC.below hb) (vM.below hb) (rJ.below hb))
 have zV:Hid (∀W lt pm,Below w.heap.size w W→KJ x (fun _=>False) W lt pm→_):=(show∀W lt pm,_→_→_ from fun W lt pm hb hg=>K9 x h (fun _=>False) W (ID W) (hG.tb.below hb) lt rv pm hg (rJ.below hb))
 have Io:Hid (∀S:List Int,(∀n,n∈S↔Mk.BI (bo x) (cK x) n)→∀W sb,Mk.cL W sb S→_):=(show∀S:List Int,_→∀W sb,_→_ from fun S hS W sb hs=>zu W sb S hs (fun y hy=>by have h1:=h.closed.range ((hS y).1 hy);have:=h.len;omega) (by
  have h1:=Mk.di x.objs.length S hs.nodup (fun y hy=>h.closed.range ((hS y).1 hy))
  have:=h.len
  omega))
 obtain⟨la,lc,rfl,_⟩:=sC.open_
 obtain⟨oa,oc,rfl,_⟩:=vM.open_
 obtain⟨ra,rc,rfl,_⟩:=rJ.open_
 clear sC vM rJ h hG ID
 obtain⟨c0,c1,c2,c3⟩:=ab ((Bx.fA w (fw (.slice la x.lines.length lc) (.slice oa x.objs.length oc) (.slice ra x.roots.length rc) x.next)).bJ rfl)
 have lR:=hD (Bx.fA w (fw (.slice la x.lines.length lc) (.slice oa x.objs.length oc) (.slice ra x.roots.length rc) x.next))
 go_enter Tryz.func6,Tryz.ntmps6
 go_wp2_with fail
 refine(HSV.out _ lR.out.1).mono ?_
 rintro e w1⟨_,rfl,⟨lt,pm,rfl,hg⟩,aw⟩
 have aT:∃ta tc,lt= .slice ta x.objs.length tc:=by
  obtain⟨⟨ls,IF,hlen,_⟩,_⟩:=hg
  obtain⟨ta,tc,e,_⟩:=IF.open_
  rw[hlen]at e
  exact⟨ta,tc,e⟩
 obtain⟨ta,tc,rfl⟩:=aT
 have aO:=hD (lR.out.below aw)
 have IT:=hD hg
 clear aw hg c0 c1 c2 c3
 have aA:=hD (aO.out.alloc (gU (.slice ta x.objs.length tc) pm))
 obtain⟨c0,c1,c2,c3⟩:=ab (aA.out.bJ rfl)
 obtain⟨d0,d1⟩:=af (heap_alloc_new w1 (gU (.slice ta x.objs.length tc) pm))
 unfold gU at c0 c1 c2 c3 d0 d1
 go_wp2_with fail
 refine(zV.out _ _ _ aA.out.1 (IT.out.below ((Below.refl _ _).alloc (Nat.le_refl _) _))).mono ?_
 rintro e w3⟨S,sb,rfl,jK,iC,bP⟩
 have bO:=hD (aA.out.below bP)
 have oW:=hD (Io.out S iC w3 sb jK)
 have HME:=hD iC
 clear bP jK iC c0 c1 c2 c3 d0 d1
 go_wp2_with fail
 refine(EA _ _).mono ?_
 rintro e w4⟨rfl,rfl⟩
 go_wp2_with fail
 refine(oW.out).mono ?_
 rintro e w5⟨v,L,rfl,hs,Pj,hm,sA⟩
 have hs':=hs
 obtain⟨va,vc,rfl,_⟩:=hs'.open_
 have H5:Hid (ae (α:=Int) (fun _=>False) w5 (.slice va L.length vc) L∧Mk.gj L∧(∀n,n∈L↔n∈S)∧Below w.heap.size w w5):=(show _ from⟨hs,Pj,hm,(bO.out.below sA).1⟩)
 clear hs Pj hm sA
 go_wp2_with fail
 go_ret2
 exact⟨_,rfl,⟨L,_,rfl,H5.out.1,H5.out.2.1,fun n=>(H5.out.2.2.1 n).trans (HME.out n)⟩,H5.out.2.2.2⟩
end Go.Proofs.YtlkjnefenialbaaGreatDoor
