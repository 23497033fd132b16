/- What changes do to values; no condition beyond each theorem's own. -/
import Derived.Test.YtlkjnefenialbaaGreatDoorM40
import Derived.Test.YtlkjnefenialbaaGreatDoorM42
set_option linter.unusedVariables false
set_option linter.unusedSimpArgs false
set_option maxHeartbeats 8000000
set_option maxRecDepth 100000
namespace Go.Proofs.YtlkjnefenialbaaGreatDoor
open Go.RowKit Go.Shelf
theorem oJ(l:List au)(hl:l.length≤12)(jP:∀x∈l,ou 204 x.list)(M:Nat→Prop)(w:World)(v:Value)(hM:Bd M w)(hs:ae M w v l):Calls Tryz.prog 204 #[v] w (aF w fun v' w'=>aK M w.heap.size 134 w' v' l):=by
 obtain⟨i0,dF,dM,db,dL⟩:=info_parts fN
 have HC:Hid (∀(i:Nat)(k n:Int)(s:ByteArray)(ll:List au),l[i]? =some (.mk k n s ll)→_):=(show∀(i:Nat)(k n:Int)(s:ByteArray)(ll:List au),_→_ from fun i k n s ll hx=>eL hs hx)
 have FX:Hid (∀x∈l,ou 204 x.list):=(show _ from jP)
 obtain⟨a,bu,rfl,cq,po,_⟩:=hs.open_
 clear hs jP
 generalize hn:l.length=n at*
 have dZ:=hD hn;clear hn
 go_enter Tryz.func204,Tryz.ntmps204
 go_wp2_with fail
 go_loopg [3,5,8]n(fun g r3 _ iv wr=>∃(i c1:Nat)(a1:Option Addr),i≤n∧g=n-i∧iv= .int .i64 i∧r3= .slice a1 i c1∧Hid (aK M w.heap.size 134 wr (.slice a1 i c1) (l.take i))∧Hid (Below w.heap.size w wr))
 case atStart=>exact⟨0,0,none,Nat.zero_le _,rfl,rfl,rfl,(show aK _ _ _ _ _ _ from aK.nil _ _ _ _),(show Below _ _ _ from Below.refl _ _)⟩
 case round=>
  obtain⟨i,c1,a1,hi,rfl,rfl,rfl,HA,HB⟩:=hrel
  by_cases aT:i<n
  ·obtain⟨⟨xk,xn,xs,xl⟩,hx⟩:∃x,l[i]? =some x:=⟨_,List.getElem?_eq_getElem (by rw[dZ.out];exact aT)⟩
   obtain⟨b,off,cap,a',c',hv,hb,aU,fH,ao⟩:=HC.out i xk xn xs xl hx
   obtain⟨rfl,rfl⟩:a=some ⟨b,off,none⟩∧bu=cap:=by simpa using hv
   obtain⟨⟨q0,q1,q2,q3⟩,_⟩:=ao wr HB.out
   have nP:Hid ((l.take i).length=i):=(show _=_ by have:=dZ.out;rw[List.length_take];omega)
   have nf:Hid (l.take (i+1)=l.take i++[.mk xk xn xs xl]):=(show _=_ by rw[List.take_add_one,hx];rfl)
   have cB:=HB.out.size
   have aS:Hid (∀o,Calls Tryz.prog 204 #[.slice a' xl.length c'] (wr.alloc o) (aF (wr.alloc o) fun v' w'=>ae (orM (bc (.slice a1 i c1) M) wr.heap.size) w' v' xl)):=(show∀o,_ from fun o=>by
    refine FX.out _ (List.mem_of_getElem? hx) _ _ _ (fun j hj=> ?_) (aU.ev (JJ HA.out (Nat.le_refl _) (HB.out.alloc cB o) cB))
    rcases hj with hj|hj
    ·have:=ui HA.out (hM.below HB.out) j hj;simp;omega
    ·simp;omega)
   have CA:=hD fH;clear fH
   clear hv ao hx aU
   go_wp2_with fail
   refine(aS.out _).mono ?_
   rintro e w1⟨_,rfl,dc,aw⟩
   obtain⟨za,zc,rfl,_⟩:=dc.open_
   have HX:Hid (w1.heap[wr.heap.size]? =some (.cells #[.int .i64 xk, .int .i64 xn, .string xs, .slice a' xl.length c'] 134 (0,0))):=(show _=_ from boxed aw)
   obtain⟨g0,g1,g2,g3⟩:=ab HX.out
   have f3:=aa HX.out 3
   have s1:=aw.size
   simp only[World.size_alloc]at s1
   have aO:=hD (aL aw)
   have aA:Hid (Below wr.heap.size wr (w1.setCell ⟨wr.heap.size,3,none⟩ (.slice za xl.length zc))):=(show Below _ _ _ from aO.out.setCell (Nat.le_refl _) _)
   have pd:Hid (ae (bc (.slice a1 i c1) M) (w1.setCell ⟨wr.heap.size,3,none⟩ (.slice za xl.length zc)) (.slice za xl.length zc) xl):=(show ae _ _ _ _ from dc.ev ((Ev.ee w1 fun i h=> .inl h).setCell (.inl (.inr rfl)) _))
   have lS:=hD (HA.out.below aA.out)
   clear dc aw
   go_wp2_with(at_builtin
               go_loud(refine aQ (α:=au) rfl _ _ _ rfl M w.heap.size 134 i0 _ 56 Tryz.underlying54 dF dM db dL rfl (by decide) (.slice a1 i c1) (l.take i) rfl (lS.out.alloc _) (fun _=>True) _ _ (.mk xk xn xs xl) rfl (iw _ _ _ _ 4 rfl (by simp[World.setCell]) trivial) (gK (pd.out.ev ((Ev.refl _ _).alloc _)) CA.out) (by rw[nP.out];unfold maxLen;omega) (by rw[nP.out];omega) (by simp;omega) ?_)
               rw[nP.out,←nf.out]
               intro a2 c2 w2 bj dj aM
               have cw:=hD bj
               have bO:=hD aM
               clear bj dj aM)
   go_roundg(n-(i+1))
   case measure=>omega
   case rel=>
    refine⟨i+1,c2,a2,by omega,rfl,by go_num,rfl,cw,(show Below _ _ _ from(HB.out.trans (aA.out.mono cB)).alloc (by simp;omega) _|>.trans bO.out)⟩
  ·go_wp2_with fail
   go_ret
   refine⟨_,rfl,?_,HB.out⟩
   have h1:=HA.out
   rw[List.take_of_length_le (by rw[dZ.out];omega)]at h1
   exact h1
theorem vY(h:Nat)(l:List au)(hl:l.length≤12)(hx:∀x∈l,rR h x)(M:Nat→Prop)(w:World)(v:Value)(hM:Bd M w)(hs:ae M w v l):Calls Tryz.prog 204 #[v] w (aF w fun v' w'=>aK M w.heap.size 134 w' v' l):=by
 cases h with
 |zero=>
  exact oJ l hl (fun x hm=>by
   rw[show x.list=[]from hx x hm]
   exact jg [] (by simp) fun y hy=>by cases hy) M w v hM hs
 |succ h=>exact oJ l hl (fun x hm=>lu h x.list (hx x hm).1 (hx x hm).2) M w v hM hs
theorem sf {fs:List ak}{many:Int}{vs:List au}(h:aW fs many vs){us:List au}(hu:∀x∈us,x∈vs)(hl:us.length≤12)(M:Nat→Prop)(w:World)(v:Value)(hM:Bd M w)(hs:ae M w v us):Calls Tryz.prog 204 #[v] w (aF w fun v' w'=>aK M w.heap.size 134 w' v' us):=
 vY 1 us hl (fun x hx=>by
  obtain⟨f,_,hv⟩:=eF h x (hu x hx)
  exact lr hv) M w v hM hs
theorem si(M:Nat→Prop)(w:World)(hM:Bd M w)(c:ai)(vv:Value)(x:aq)(many:Int)(p:Nat)(pre post:List ak)(f:ak)(vs:List au)(ha:gi c x.field pre f post)(hk:x.kind=3∨x.kind=6)(h8:c.fields.length≤8)
 (hv:aW c.fields many vs)(dk:ae M w vv vs):
 Calls Tryz.prog 178 #[.pointer (some ⟨p,0,none⟩),vv] w (aF w fun v w'=>∃us,fC c x many vs us∧ae M w' v us):=by
 have hl:vs.length≤12:=by rw[hv.1];omega
 have HC:=hD (jA hv (us:=vs) (fun _ h=>h) hl M w vv hM dk)
 have HT:=hD (GC ha hk hv)
 obtain⟨a0,c0,rfl,_⟩:=dk.open_
 clear dk ha hv
 go_enter Tryz.func178,Tryz.ntmps178
 go_wp2_with fail
 refine(HC.out).mono ?_
 rintro e w1⟨_,rfl,hs,hb⟩
 obtain⟨a1,c1,rfl,_⟩:=hs.open_
 have HS:=hD hs
 have HB:=hD hb
 clear hs hb
 go_wp2_with fail
 go_ret
 exact⟨_,rfl,⟨_,HT.out,HS.out⟩,HB.out⟩
theorem oB0 {w w':World}{o:Obj}(hb:Below (w.alloc o).heap.size (w.alloc o) w'):Below w.heap.size w w':=((Below.refl _ w).alloc (Nat.le_refl _) o).trans (hb.mono (by show w.heap.size≤(w.alloc o).heap.size;simp))
theorem BO(M:Nat→Prop)(w:World)(hM:Bd M w)(c:ai)(fv vv:Value)(x:aq)(b:Bool)(g1 g2:Value)(many:Int)(p:Nat)(pre post:List ak)(f:ak)(vs:List au)(ha:gi c x.field pre f post)(hk:x.kind=2)(h8:c.fields.length≤8)
 (hp:w.heap[p]? =some (oI c.name fv x pre.length b g1 g2))(hv:aW c.fields many vs)(dk:ae M w vv vs):
 Calls Tryz.prog 175 #[.pointer (some ⟨p,0,none⟩),vv] w (aF w fun v w'=>∃us,fC c x many vs us∧ae M w' v us):=by
 have gy:p<w.heap.size:=(Array.getElem?_eq_some_iff.1 hp).1
 have HW:=hD (bV hp)
 have nJ:c.fields[pre.length]? =some f:=by rw[ha.eq];simp
 have aT:pre.length<vs.length:=by rw[hv.1];exact(List.getElem?_eq_some_iff.1 nJ).1
 have Vj:vs.length≤8:=by rw[hv.1];exact h8
 have HT:=hD (GB ha hk hv)
 have kU:=hD hM
 obtain⟨a0,c0,rfl,cq,po,ho⟩:=dk.open_
 obtain⟨fb,off,rfl,_⟩:=ho (by omega)
 obtain⟨n,hn⟩:∃n,vs.length=n:=⟨_,rfl⟩
 obtain⟨i,hi⟩:∃i,pre.length=i:=⟨_,rfl⟩
 rw[hi]at aT HT HW
 rw[hn]at aT cq dk Vj⊢
 have dc:=dk.upto hn (k:=i) (by omega)
 have iJ:=dk.from_ hn (k:=i+1) (by omega)
 have s1:i≤c0:=by omega
 have s2:i+1≤n:=by omega
 have s3:i+1≤c0:=by omega
 have s5:(i:Int)≤(i:Int)+1:=by omega
 have s6:IntKind.i64.wrap ((i:Int)+1)=(i:Int)+1:=IntWalk.i64_in _ (by omega)
 have s7:(0:Int)≤(i:Int)+1:=by omega
 have s8:(i:Int)+1≤(n:Int):=by omega
 have s9:((i:Int)+1).toNat=i+1:=by omega
 have nZ:ae M w (.slice (if c0=i+1 then some ⟨fb,off,none⟩else some ⟨fb,off+(i+1)*4,none⟩) (n-(i+1)) (c0-(i+1))) (vs.drop (i+1)):=by
  simpa [Addr.add,show az.size au=4 from rfl]using iJ
 obtain⟨ap,My⟩:∃ap,(if c0=i+1 then some (⟨fb,off,none⟩:Addr)else some ⟨fb,off+(i+1)*4,none⟩)=ap:=⟨_,rfl⟩
 rw[My]at nZ
 have zI:∀y∈vs.take i,y∈vs:=fun y h=>List.mem_of_mem_take h
 have zJ:∀y∈vs.drop (i+1),y∈vs:=fun y h=>List.mem_of_mem_drop h
 have db:(vs.take i).length≤12:=by rw[List.length_take];omega
 have dL:(vs.drop (i+1)).length≤12:=by rw[List.length_drop];omega
 obtain⟨l1,qt⟩:∃l,vs.take i=l:=⟨_,rfl⟩
 obtain⟨l2,sK⟩:∃l,vs.drop (i+1)=l:=⟨_,rfl⟩
 rw[qt]at dc zI db HT
 rw[sK]at nZ zJ dL HT
 have RA:Hid (∀W,Below w.heap.size w W→_):=(show∀W,_→_ from fun W hb=>jA hv zI db M W _ (hM.below hb) (dc.below hb))
 have RB:Hid (∀W,Below w.heap.size w W→_):=(show∀W,_→_ from fun W hb=>jA hv zJ dL M W _ (hM.below hb) (nZ.below hb))
 have EX:Hid (∀w2 W t v1 v2,Bd M w2→W.heap[w2.heap.size]? =some (.cells #[v1,v2] t (0,0))→Below w2.heap.size w2 W→ae M w2 v1 l1→ae M w2 v2 l2→_):=(show∀w2 W t v1 v2,_→_→_→_→_→_ from fun w2 W t v1 v2 Vk h1 h2 h3 h4=>
  ql M W (Vk.below h2) w2.heap.size 2 [v1,v2] [l1,l2] (BN h1 h2 h3 h4) rfl (by simp;omega) (by omega))
 have dm:Hid (∀W,Below w.heap.size w W→W.cell? ⟨p,10,none⟩=some (.int .i64 i)):=(show∀W,_→_ from fun W hb=>(HW.out.below gy hb).ca)
 have q1:=(dm.out _ (Below.refl _ _))
 have HJ:Hid (Below w.heap.size w w):=(show Below _ _ _ from Below.refl _ _)
 have I1:Hid ([l1,l2].flatten=l1++l2):=(show _=_ by simp)
 clear dk ha hp nJ ho dc iJ nZ hM hv zI zJ qt sK db dL
 go_enter Tryz.func175,Tryz.ntmps175
 go_upto_region 1 with fail
 go_cut [4](fun s4 wx=>Hid (ae M wx s4 (l1++l2)∧Below w.heap.size w wx))
 case first=>
  go_region_held3(fun w'=>w'.cell? ⟨p,10,none⟩=some (.int .i64 i))
   (first|with_reducible exact dm.out _ vC.out|with_reducible exact dm.out _ vC.out.drew|with_reducible exact dm.out _ HJ.out|with_reducible exact dm.out _ HJ.out.drew|with_reducible exact dm.out _ ez.out|with_reducible exact dm.out _ ez.out.drew|with_reducible exact dm.out _ dn.out|with_reducible exact dm.out _ dn.out.drew|with_reducible exact dm.out _ (dn.out.alloc dn.out.size _)|with_reducible exact dm.out _ ((dn.out.alloc dn.out.size _).drew)|with_reducible exact dm.out _ (dn.out.drew.alloc dn.out.size _))
   (first
     |(go_at_call 204
       with_reducible refine(RA.out _ (by first|with_reducible exact HJ.out|with_reducible exact HJ.out.drew)).mono ?_
       rintro e wa⟨_,rfl,hs,hb⟩
       obtain⟨a1,c1,rfl,_⟩:=hs.open_
       have Vl:=hD hs
       have ez:Hid (Below w.heap.size w wa):=(by first|with_reducible exact hD hb|with_reducible exact hD (Cy hb))
       clear hb hs)
     |(go_at_call 204
       with_reducible refine(RB.out _ (by first|with_reducible exact ez.out|with_reducible exact ez.out.drew)).mono ?_
       rintro e wb⟨_,rfl,hs,hb⟩
       obtain⟨a2,c2,rfl,_⟩:=hs.open_
       have Vm:=hD hs
       have EY:Hid (Below wa.heap.size wa wb):=(by first|with_reducible exact hD hb|with_reducible exact hD (Cy hb))
       have dn:Hid (Below w.heap.size w wb):=(show Below _ _ _ from ez.out.trans (EY.out.mono ez.out.size))
       have RC:=hD (Vl.out.below EY.out)
       have HMb:=hD (kU.out.below dn.out)
       clear hb hs)
     |(go_at_call 206
       refine(EX.out wb _ _ _ _ HMb.out (by first|exact heap_alloc_new wb _|exact heap_alloc_new wb.drew _) (by first|with_reducible exact(Below.refl _ wb).alloc (Nat.le_refl _) _|exact((Below.refl _ wb).alloc (Nat.le_refl _) _).drew|exact(Below.refl _ wb).drew.alloc (Nat.le_refl _) _) RC.out Vm.out).mono ?_
       rintro e w1⟨_,rfl,hs,hb⟩
       have HS:=hD hs
       have HBC:Hid (Below wb.heap.size wb w1):=(by first|with_reducible exact hD (Cy hb)|with_reducible exact hD (RY hb)|with_reducible exact hD (RZ hb)|with_reducible exact hD (oB0 hb))
       have vC:Hid (Below w.heap.size w w1):=(show Below _ _ _ from dn.out.trans (HBC.out.mono dn.out.size))
       clear hs hb))
  all_goals(go_wp2_with fail;go_meet)
  all_goals exact hD ⟨by rw[←I1.out];exact HS.out,vC.out⟩
 case rest=>
  have hs:=hcut.out.1.open_
  obtain⟨sa,sc,rfl,_⟩:=hs
  go_wp2_with fail
  go_ret
  exact⟨_,rfl,⟨_,HT.out,hcut.out.1⟩,hcut.out.2⟩
theorem Eg(M:Nat→Prop)(w:World)(hM:Bd M w)(c:ai)(fv vv:Value)(x:aq)(a:Int)(b:Bool)(g1 g2:Value)(many:Int)(p:Nat)(vs:List au)(hk:x.kind=1)(h8:c.fields.length≤8)(CG:aB x.type=true)
 (hp:w.heap[p]? =some (oI c.name fv x a b g1 g2))(hg:gQ M c many x.type x.expr w g1)(hG:Gd w)(hv:aW c.fields many vs)(dk:ae M w vv vs):
 Calls Tryz.prog 172 #[.pointer (some ⟨p,0,none⟩),vv] w (aF w fun v w'=>∃us,fC c x many vs us∧ae M w' v us):=by
 obtain⟨i0,dF,dM,db,dL⟩:=info_parts fN
 have gy:p<w.heap.size:=(Array.getElem?_eq_some_iff.1 hp).1
 have HW:=hD (bV hp)
 have Vj:vs.length≤8:=by rw[hv.1];exact h8
 have HT:=hD (fun v(ht:jX c x.type many x.expr vs v)=>JE hk hv ht)
 obtain⟨gf,lb,rfl,eg,CC⟩:=hg
 have RA:Hid (∀W,Below w.heap.size w W→_):=(show∀W,_→_ from fun W hb=>sf hv (us:=vs) (fun _ h=>h) (by omega) M W vv (hM.below hb) (dk.below hb))
 have RB:Hid (∀(N:Nat→Prop)W,(∀i,M i→N i)→(∀i,N i→M i∨w.heap.size≤i)→Bd N W→Below w.heap.size w W→_):=(show∀(N:Nat→Prop)W,_→_→_→_→_ from fun N W h1 h2 h3 hb=>CC CG N h1 h2 W (ag.aj hb) vv vs (dk.ev ⟨ag.aj hb,h2⟩) hv h3 (hG.below hb))
 have dm:Hid (∀W,Below w.heap.size w W→W.cell? ⟨p,12,none⟩=some (.func (.func gf) #[] lb)):=(show∀W,_→_ from fun W hb=>(HW.out.below gy hb).cc)
 obtain⟨a0,c0,rfl,cq,po,ho⟩:=dk.open_
 have q1:=(dm.out _ (Below.refl _ _))
 have HJ:Hid (Below w.heap.size w w):=(show Below _ _ _ from Below.refl _ _)
 have kU:=hD hM
 clear dk hp ho hM hv hG CC
 go_enter Tryz.func172,Tryz.ntmps172
 go_upto_region 1 with fail
 go_cut [4](fun s4 wx=>∃u,jX c x.type many x.expr vs u∧Hid (ae M wx s4 (vs++[u])∧Below w.heap.size w wx))
 case first=>
  go_region_held3(fun w'=>w'.cell? ⟨p,12,none⟩=some (.func (.func gf) #[] lb))
   (first|with_reducible exact dm.out _ vC.out|with_reducible exact dm.out _ vC.out.drew|with_reducible exact dm.out _ HJ.out|with_reducible exact dm.out _ HJ.out.drew|with_reducible exact dm.out _ ez.out|with_reducible exact dm.out _ ez.out.drew|with_reducible exact dm.out _ dn.out|with_reducible exact dm.out _ dn.out.drew|with_reducible exact dm.out _ (dn.out.alloc dn.out.size _)|with_reducible exact dm.out _ ((dn.out.alloc dn.out.size _).drew)|with_reducible exact dm.out _ (dn.out.drew.alloc dn.out.size _))
   (first
     |(go_at_call 204
       with_reducible refine(RA.out _ (by first|with_reducible exact HJ.out|with_reducible exact HJ.out.drew)).mono ?_
       rintro e wa⟨_,rfl,hs,hb⟩
       obtain⟨a1,c1,rfl,_⟩:=hs.open_
       have ez:Hid (Below w.heap.size w wa):=(by first|with_reducible exact hD hb|with_reducible exact hD (Cy hb))
       have HA:=hD (hs.le (base':=w.heap.size) (Nat.le_refl _))
       have HBd:=hD (ui HA.out (kU.out.below ez.out))
       have vK:Hid (∀i,M i→bc (.slice a1 vs.length c1) M i):=(show∀i,_→_ from fun i h=> .inl h)
       have ve:Hid (∀i,bc (.slice a1 vs.length c1) M i→M i∨w.heap.size≤i):=(show∀i,_→_ from fun i h=>h.imp_right fun h=>(HA.out.dO i h).1)
       clear hb hs)
     |(refine(RB.out (bc (.slice a1 vs.length c1) M) _ vK.out ve.out HBd.out (by first|with_reducible exact ez.out|with_reducible exact ez.out.drew)).mono ?_
       rintro e wb⟨_,rfl,⟨⟨yk,yn,ys,yl⟩,hy,cs,rfl,bw⟩,hb⟩
       obtain⟨av,rfl,aU,iD⟩:=eV.iff.1 bw
       obtain⟨ya,yc,rfl,_⟩:=aU.open_
       have EY:Hid (Below wa.heap.size wa wb):=(by first|with_reducible exact hD hb|with_reducible exact hD (Cy hb))
       have dn:Hid (Below w.heap.size w wb):=(show Below _ _ _ from ez.out.trans (EY.out.mono ez.out.size))
       have Xq:=hD (HA.out.below EY.out)
       have eR:=hD bw
       have HY:=hD hy
       clear hb bw aU iD hy)
     |(refine dr (α:=au) rfl _ _ _ rfl M w.heap.size 134 i0 _ 56 Tryz.underlying54 dF dM db dL rfl (by decide) (.slice a1 vs.length c1) vs rfl (Xq.out.alloc _) (fun _=>True) _ _ (.mk yk yn ys yl) rfl (ct _ _ _ _ rfl trivial) (az.ev eR.out (Ev.aj ((Below.refl _ _).alloc (Nat.le_refl _) _))) (by unfold maxLen;omega) (by omega) (by have:=dn.out.size;simp;omega) ?_
       intro a2 c2 w2 bj dj aM
       have cw:=hD bj
       have vC:Hid (Below w.heap.size w w2):=(show Below _ _ _ from(dn.out.alloc dn.out.size _).trans aM)
       clear bj dj aM))
  all_goals(go_wp2_with fail;go_meet)
  all_goals exact⟨_,HY.out,hD ⟨cw.out.slice kU.out,vC.out⟩⟩
 case rest=>
  obtain⟨u,ht,hc⟩:=hcut
  have hs:=hc.out.1.open_
  obtain⟨sa,sc,rfl,_⟩:=hs
  go_wp2_with fail
  go_ret
  exact⟨_,rfl,⟨_,HT.out _ ht,hc.out.1⟩,hc.out.2⟩
theorem xL {M:Nat→Prop}{w:World}{K:Nat}{t:TypeId}{f g:ak}(h:w.heap[K]? =some (.cells #[.string f.name, .int .i64 f.type.kind, .int .i64 f.type.of, .bool f.indexed, .string g.name, .int .i64 g.type.kind, .int .i64 g.type.of, .bool g.indexed] t (0,0)))(hM:¬M K)(h1:f.name.size≤maxLen)(h2:g.name.size≤maxLen):ae M w (.slice (some ⟨K,0,none⟩) 2 2) [f,g]:=by
 refine⟨[[.string f.name, .int .i64 f.type.kind, .int .i64 f.type.of, .bool f.indexed],[.string g.name, .int .i64 g.type.kind, .int .i64 g.type.of, .bool g.indexed]],⟨rfl,some ⟨K,0,none⟩,2,rfl,Nat.le_refl _,by unfold maxLen;omega,fun _=>⟨K,0,rfl,hM,(Array.getElem?_eq_some_iff.1 h).1,fun j u hu=> ?_⟩⟩,rfl,fun i cs x hc hx=> ?_⟩
 ·simp only[World.cell?,h,Nat.zero_add]
  simpa using hu
 ·match i,hc,hx with
  |0,hc,hx=>cases hc;cases hx;exact⟨rfl,h1⟩
  |1,hc,hx=>cases hc;cases hx;exact⟨rfl,h2⟩
  |i+2,hc,hx=>simp at hc
theorem KL(M:Nat→Prop)(w:World)(hM:Bd M w)(c:ai)(fv:Value)(x:aq)(b:Bool)(g1 g2:Value)(p:Nat)(pre post:List ak)(f:ak)(ha:gi c x.field pre f post)(hk:x.kind=5)(xX:x.name.size≤maxLen)(OV:x.more.size≤maxLen)(h8:c.fields.length≤8)
 (hp:w.heap[p]? =some (oI c.name fv x pre.length b g1 g2))(bz:ae M w fv c.fields):
 Calls Tryz.prog 183 #[.pointer (some ⟨p,0,none⟩)] w (aF w fun v w'=>ae M w' v (bC c x).fields):=by
 have gy:p<w.heap.size:=(Array.getElem?_eq_some_iff.1 hp).1
 have HW:=hD (bV hp)
 have q1:=HW.out.c1
 have q2:=HW.out.ca
 have q4:=HW.out.c4
 have q5:=HW.out.c5
 have q6:=HW.out.c6
 have q7:=HW.out.c7
 have nJ:c.fields[pre.length]? =some f:=by rw[ha.eq];simp
 have aT:pre.length<c.fields.length:=(List.getElem?_eq_some_iff.1 nJ).1
 have oZ:Hid ((bC c x).fields=[c.fields.take pre.length,[⟨x.name,x.type,false⟩,⟨x.more,x.type,false⟩],c.fields.drop (pre.length+1)].flatten):=(show _=_ by
  rw[ep ha (by omega),ha.eq];simp[gI,hk])
 have jN:Hid (x.name.size≤maxLen∧x.more.size≤maxLen):=(show _∧_ from⟨xX,OV⟩)
 have kU:=hD hM
 obtain⟨a0,c0,rfl,cq,po,ho⟩:=bz.open_
 obtain⟨fb,off,rfl,_⟩:=ho (by omega)
 obtain⟨n,hn⟩:∃n,c.fields.length=n:=⟨_,rfl⟩
 obtain⟨i,hi⟩:∃i,pre.length=i:=⟨_,rfl⟩
 rw[hi]at aT oZ q2 HW
 rw[hn]at aT q1 cq bz h8 HW
 have EX:Hid (∀w2 W t v1 v2 v3,Bd M w2→W.heap[w2.heap.size]? =some (.cells #[v1,v2,v3] t (0,0))→Below w2.heap.size w2 W→ae M w2 v1 (c.fields.take i)→ae M w2 v2 [(⟨x.name,x.type,false⟩:ak),⟨x.more,x.type,false⟩]→ae M w2 v3 (c.fields.drop (i+1))→_):=(show∀w2 W t v1 v2 v3,_→_→_→_→_→_→_ from fun w2 W t v1 v2 v3 Vk h1 h2 h3 h4 h5=>
  mU M W (Vk.below h2) w2.heap.size 3 [v1,v2,v3] [c.fields.take i,[⟨x.name,x.type,false⟩,⟨x.more,x.type,false⟩],c.fields.drop (i+1)] (uS h1 h2 h3 h4 h5) rfl (by simp;omega) (by omega))
 have pd:=hD (bz.upto hn (k:=i) (by omega))
 have iJ:=bz.from_ hn (k:=i+1) (by omega)
 have s1:i≤c0:=by omega
 have s2:i+1≤n:=by omega
 have s3:i+1≤c0:=by omega
 have s5:(i:Int)≤(i:Int)+1:=by omega
 have s6:IntKind.i64.wrap ((i:Int)+1)=(i:Int)+1:=IntWalk.i64_in _ (by omega)
 have s7:(0:Int)≤(i:Int)+1:=by omega
 have s8:(i:Int)+1≤(n:Int):=by omega
 have s9:((i:Int)+1).toNat=i+1:=by omega
 have eB:Hid (ae M w (.slice (if c0=i+1 then some ⟨fb,off,none⟩else some ⟨fb,off+(i+1)*4,none⟩) (n-(i+1)) (c0-(i+1))) (c.fields.drop (i+1))):=(show ae _ _ _ _ by
  simpa [Addr.add,show az.size ak=4 from rfl]using iJ)
 obtain⟨ap,My⟩:∃ap,(if c0=i+1 then some (⟨fb,off,none⟩:Addr)else some ⟨fb,off+(i+1)*4,none⟩)=ap:=⟨_,rfl⟩
 rw[My]at eB
 have dm:Hid (∀W,Below w.heap.size w W→W.cell? ⟨p,1,none⟩=some (.slice (some ⟨fb,off,none⟩) n c0)∧W.cell? ⟨p,10,none⟩=some (.int .i64 i)):=(show∀W,_→_ from fun W hb=>by
  have h:=HW.out.below gy hb
  exact⟨h.c1,h.ca⟩)
 clear bz ha hp nJ ho iJ hM
 go_enter Tryz.func183,Tryz.ntmps183
 go_wp2_with fail
 go_cut [3](fun s3 wx=>∃K:Nat,s3= .slice (some ⟨K,0,none⟩) 2 2∧Hid (ae M wx (.slice (some ⟨K,0,none⟩) 2 2) [(⟨x.name,x.type,false⟩:ak),⟨x.more,x.type,false⟩]∧Below w.heap.size w wx))
 case first=>
  have su:Hid (¬M w.heap.size):=(show¬_ from fun h=>by have:=kU.out _ h;omega)
  go_region
  all_goals(go_wp2_with fail;go_meet)
  all_goals exact⟨_,rfl,hD ⟨by first|exact xL (heap_alloc_new w _) su.out jN.out.1 jN.out.2|exact xL (f:=⟨x.name,x.type,false⟩) (g:=⟨x.more,x.type,false⟩) (heap_alloc_new w.drew _) su.out jN.out.1 jN.out.2,by first|exact((Below.refl _ w).alloc (Nat.le_refl _) _).drew|exact(Below.refl _ w).drew.alloc (Nat.le_refl _) _⟩⟩
 case rest=>
  obtain⟨K,rfl,HV⟩:=hcut
  obtain⟨w2,kV⟩:∃w2:World,w2=wc:=⟨_,rfl⟩
  subst kV
  have Vl:=hD (pd.out.below HV.out.2)
  have Vm:=hD (eB.out.below HV.out.2)
  have Yf:=hD (kU.out.below HV.out.2)
  have nM:Hid (∀W,Below w2.heap.size w2 W→W.cell? ⟨p,1,none⟩=some (.slice (some ⟨fb,off,none⟩) n c0)∧W.cell? ⟨p,10,none⟩=some (.int .i64 i)):=(show∀W,_→_ from fun W hb=>dm.out _ (HV.out.2.trans (hb.mono HV.out.2.size)))
  have q1:=(nM.out _ (Below.refl _ _)).1
  have q2:=(nM.out _ (Below.refl _ _)).2
  have HJ:Hid (Below w2.heap.size w2 w2):=(show Below _ _ _ from Below.refl _ _)
  go_upto_region 2 with fail
  go_cut [2](fun s2 wx=>Hid (ae M wx s2 (bC c x).fields∧Below w2.heap.size w2 wx))
  case first=>
   go_region_held3(fun w'=>w'.cell? ⟨p,1,none⟩=some (.slice (some ⟨fb,off,none⟩) n c0)∧w'.cell? ⟨p,10,none⟩=some (.int .i64 i))
    (first|with_reducible exact nM.out _ vC.out|with_reducible exact nM.out _ vC.out.drew|with_reducible exact nM.out _ HJ.out|with_reducible exact nM.out _ HJ.out.drew|with_reducible exact nM.out _ (HJ.out.alloc HJ.out.size _)|with_reducible exact nM.out _ ((HJ.out.alloc HJ.out.size _).drew)|with_reducible exact nM.out _ (HJ.out.drew.alloc HJ.out.size _))
    ((go_at_call 205
      refine(EX.out w2 _ _ _ _ _ Yf.out (by first|exact heap_alloc_new w2 _|exact heap_alloc_new w2.drew _) (by first|exact((Below.refl _ w2).alloc (Nat.le_refl _) _).drew|exact(Below.refl _ w2).drew.alloc (Nat.le_refl _) _) Vl.out HV.out.1 Vm.out).mono ?_
      rintro e w1⟨_,rfl,hs,hb⟩
      have HS:=hD hs
      have vC:Hid (Below w2.heap.size w2 w1):=(by first|with_reducible exact hD (Cy hb)|with_reducible exact hD (RY hb)|with_reducible exact hD (RZ hb))
      clear hs hb))
   all_goals(go_wp2_with fail;go_meet)
   all_goals exact hD ⟨by rw[oZ.out];exact HS.out,vC.out⟩
  case rest=>
   have hs:=hcut.out.1.open_
   obtain⟨sa,sc,rfl,_⟩:=hs
   go_wp2_with fail
   go_ret
   exact⟨_,rfl,hcut.out.1,HV.out.2.trans (hcut.out.2.mono HV.out.2.size)⟩
theorem KM {M:Nat→Prop}{w:World}{K:Nat}{t:TypeId}{a1 a2 a3 a4 b1 b2 b3 b4:Value}{x1 x2:au}(h:w.heap[K]? =some (.cells #[a1,a2,a3,a4,b1,b2,b3,b4] t (0,0)))(hM:¬M K)(r1:az.rep (α:=au) M w [a1,a2,a3,a4] x1)(r2:az.rep (α:=au) M w [b1,b2,b3,b4] x2):ae M w (.slice (some ⟨K,0,none⟩) 2 2) [x1,x2]:=by
 refine⟨[[a1,a2,a3,a4],[b1,b2,b3,b4]],⟨rfl,some ⟨K,0,none⟩,2,rfl,Nat.le_refl _,by unfold maxLen;omega,fun _=>⟨K,0,rfl,hM,(Array.getElem?_eq_some_iff.1 h).1,fun j u hu=> ?_⟩⟩,rfl,fun i cs x hc hx=> ?_⟩
 ·simp only[World.cell?,h,Nat.zero_add]
  simpa using hu
 ·match i,hc,hx with
  |0,hc,hx=>cases hc;cases hx;exact r1
  |1,hc,hx=>cases hc;cases hx;exact r2
  |i+2,hc,hx=>simp at hc
theorem zo(M:Nat→Prop)(w:World)(hM:Bd M w)(c:ai)(fv vv:Value)(x:aq)(b:Bool)(g1 g2:Value)(many:Int)(p:Nat)(pre post:List ak)(f:ak)(vs:List au)(ha:gi c x.field pre f post)(hk:x.kind=5)(h8:c.fields.length≤8)(CG:aB x.type=true)(hg:gQ M c many x.type x.expr w g1)(FT:gQ M c many x.type x.other w g2)(hG:Gd w)
 (hp:w.heap[p]? =some (oI c.name fv x pre.length b g1 g2))(hv:aW c.fields many vs)(dk:ae M w vv vs):
 Calls Tryz.prog 184 #[.pointer (some ⟨p,0,none⟩),vv] w (aF w fun v w'=>∃us,fC c x many vs us∧ae M w' v us):=by
 have gy:p<w.heap.size:=(Array.getElem?_eq_some_iff.1 hp).1
 have HW:=hD (bV hp)
 have nJ:c.fields[pre.length]? =some f:=by rw[ha.eq];simp
 have aT:pre.length<vs.length:=by rw[hv.1];exact(List.getElem?_eq_some_iff.1 nJ).1
 have Vj:vs.length≤8:=by rw[hv.1];exact h8
 have HT:Hid (∀u1 u2,jX c x.type many x.expr vs u1→jX c x.type many x.other vs u2→fC c x many vs (vs.take pre.length++u1::u2::vs.drop (pre.length+1))):=(show∀u1 u2,_→_→_ from fun u1 u2 h1 h2=>Dl ha hk hv h1 h2)
 obtain⟨gf,lb,rfl,eg,CC⟩:=hg
 obtain⟨SO,SP,rfl,eg2,Vn⟩:=FT
 have HCg:Hid (∀W,Below w.heap.size w W→_):=(show∀W,_→_ from fun W hb=>CC CG M (fun i h=>h) (fun i h=> .inl h) W (ag.aj hb) vv vs (dk.below hb) hv (hM.below hb) (hG.below hb))
 have HCh:Hid (∀W,Below w.heap.size w W→_):=(show∀W,_→_ from fun W hb=>Vn CG M (fun i h=>h) (fun i h=> .inl h) W (ag.aj hb) vv vs (dk.below hb) hv (hM.below hb) (hG.below hb))
 have su:Hid (∀W,Below w.heap.size w W→¬M W.heap.size):=(show∀W,_→¬_ from fun W hb h=>by have:=hM _ h;have:=hb.size;omega)
 have kU:=hD hM
 obtain⟨a0,c0,rfl,cq,po,ho⟩:=dk.open_
 obtain⟨fb,off,rfl,_⟩:=ho (by omega)
 obtain⟨n,hn⟩:∃n,vs.length=n:=⟨_,rfl⟩
 obtain⟨i,hi⟩:∃i,pre.length=i:=⟨_,rfl⟩
 rw[hi]at aT HT HW
 rw[hn]at aT cq dk Vj HCg HCh⊢
 have dc:=dk.upto hn (k:=i) (by omega)
 have iJ:=dk.from_ hn (k:=i+1) (by omega)
 have s1:i≤c0:=by omega
 have s2:i+1≤n:=by omega
 have s3:i+1≤c0:=by omega
 have s5:(i:Int)≤(i:Int)+1:=by omega
 have s6:IntKind.i64.wrap ((i:Int)+1)=(i:Int)+1:=IntWalk.i64_in _ (by omega)
 have s7:(0:Int)≤(i:Int)+1:=by omega
 have s8:(i:Int)+1≤(n:Int):=by omega
 have s9:((i:Int)+1).toNat=i+1:=by omega
 have nZ:ae M w (.slice (if c0=i+1 then some ⟨fb,off,none⟩else some ⟨fb,off+(i+1)*4,none⟩) (n-(i+1)) (c0-(i+1))) (vs.drop (i+1)):=by
  simpa [Addr.add,show az.size au=4 from rfl]using iJ
 obtain⟨ap,My⟩:∃ap,(if c0=i+1 then some (⟨fb,off,none⟩:Addr)else some ⟨fb,off+(i+1)*4,none⟩)=ap:=⟨_,rfl⟩
 rw[My]at nZ
 have zI:∀y∈vs.take i,y∈vs:=fun y h=>List.mem_of_mem_take h
 have zJ:∀y∈vs.drop (i+1),y∈vs:=fun y h=>List.mem_of_mem_drop h
 have db:(vs.take i).length≤12:=by rw[List.length_take];omega
 have dL:(vs.drop (i+1)).length≤12:=by rw[List.length_drop];omega
 obtain⟨l1,qt⟩:∃l,vs.take i=l:=⟨_,rfl⟩
 obtain⟨l2,sK⟩:∃l,vs.drop (i+1)=l:=⟨_,rfl⟩
 rw[qt]at dc zI db HT
 rw[sK]at nZ zJ dL HT
 have RA:Hid (∀W,Below w.heap.size w W→_):=(show∀W,_→_ from fun W hb=>jA hv zI db M W _ (hM.below hb) (dc.below hb))
 have RB:Hid (∀W,Below w.heap.size w W→_):=(show∀W,_→_ from fun W hb=>jA hv zJ dL M W _ (hM.below hb) (nZ.below hb))
 have EX:Hid (∀u1 u2 w2 W t v1 v2 v3,Bd M w2→W.heap[w2.heap.size]? =some (.cells #[v1,v2,v3] t (0,0))→Below w2.heap.size w2 W→ae M w2 v1 l1→ae M w2 v2 [u1,u2]→ae M w2 v3 l2→_):=(show∀u1 u2 w2 W t v1 v2 v3,_→_→_→_→_→_→_ from fun u1 u2 w2 W t v1 v2 v3 Vk h1 h2 h3 h4 h5=>
  ql M W (Vk.below h2) w2.heap.size 3 [v1,v2,v3] [l1,[u1,u2],l2] (uS h1 h2 h3 h4 h5) rfl (by simp;omega) (by omega))
 have dm:Hid (∀W,Below w.heap.size w W→W.cell? ⟨p,10,none⟩=some (.int .i64 i)∧W.cell? ⟨p,12,none⟩=some (.func (.func gf) #[] lb)∧W.cell? ⟨p,13,none⟩=some (.func (.func SO) #[] SP)):=(show∀W,_→_ from fun W hb=>⟨(HW.out.below gy hb).ca,(HW.out.below gy hb).cc,(HW.out.below gy hb).cd⟩)
 have q1:=(dm.out _ (Below.refl _ _)).1
 have q2:=(dm.out _ (Below.refl _ _)).2.1
 have q3:=(dm.out _ (Below.refl _ _)).2.2
 have HJ:Hid (Below w.heap.size w w):=(show Below _ _ _ from Below.refl _ _)
 have I1:Hid (∀u1 u2:au,[l1,[u1,u2],l2].flatten=l1++u1::u2::l2):=(show∀u1 u2,_=_ from fun u1 u2=>by simp)
 clear dk ha hp nJ ho dc iJ nZ hM hv zI zJ qt sK db dL CC Vn hG
 go_enter Tryz.func184,Tryz.ntmps184
 go_upto_region 1 with fail
 go_cut [5](fun s5 wx=>∃(K:Nat)(u1 u2:au),s5= .slice (some ⟨K,0,none⟩) 2 2∧Hid (jX c x.type many x.expr vs u1∧jX c x.type many x.other vs u2)∧Hid (ae M wx (.slice (some ⟨K,0,none⟩) 2 2) [u1,u2]∧Below w.heap.size w wx))
 case first=>
  go_region_held3(fun w'=>w'.cell? ⟨p,12,none⟩=some (.func (.func gf) #[] lb)∧w'.cell? ⟨p,13,none⟩=some (.func (.func SO) #[] SP))
   (first|with_reducible exact(dm.out _ HJ.out).2|with_reducible exact(dm.out _ HJ.out.drew).2|with_reducible exact(dm.out _ ez.out).2|with_reducible exact(dm.out _ ez.out.drew).2|with_reducible exact(dm.out _ dn.out).2|with_reducible exact(dm.out _ dn.out.drew).2|with_reducible exact(dm.out _ (dn.out.alloc dn.out.size _)).2|with_reducible exact(dm.out _ ((dn.out.alloc dn.out.size _).drew)).2|with_reducible exact(dm.out _ (dn.out.drew.alloc dn.out.size _)).2)
   (first
     |(with_reducible refine(HCg.out _ (by first|with_reducible exact HJ.out|with_reducible exact HJ.out.drew)).mono ?_
       rintro e wa⟨_,rfl,⟨⟨yk,yn,ys,yl⟩,hy,cs,rfl,bw⟩,hb⟩
       obtain⟨av,rfl,aU,iD⟩:=eV.iff.1 bw
       obtain⟨ya,yc,rfl,_⟩:=aU.open_
       have ez:Hid (Below w.heap.size w wa):=(by first|with_reducible exact hD hb|with_reducible exact hD (Cy hb))
       have eR:=hD bw
       have HY:=hD hy
       clear hb bw aU iD hy)
     |(with_reducible refine(HCh.out _ (by first|with_reducible exact ez.out|with_reducible exact ez.out.drew)).mono ?_
       rintro e wb⟨_,rfl,⟨⟨zk,zn,zs,zl⟩,hy,cs,rfl,bw⟩,hb⟩
       obtain⟨av,rfl,aU,iD⟩:=eV.iff.1 bw
       obtain⟨za,zc,rfl,_⟩:=aU.open_
       have EY:Hid (Below wa.heap.size wa wb):=(by first|with_reducible exact hD hb|with_reducible exact hD (Cy hb))
       have dn:Hid (Below w.heap.size w wb):=(show Below _ _ _ from ez.out.trans (EY.out.mono ez.out.size))
       have Vo:=hD (az.ev eR.out (Ev.aj EY.out))
       have qab:=hD bw
       have HZ:=hD hy
       clear hb bw aU iD hy))
  all_goals(go_wp2_with fail;go_meet)
  all_goals exact⟨_,_,_,rfl,hD ⟨HY.out,HZ.out⟩,hD ⟨KM (heap_alloc_new wb _) (su.out _ dn.out) (az.ev Vo.out (Ev.aj ((Below.refl _ _).alloc (Nat.le_refl _) _))) (az.ev qab.out (Ev.aj ((Below.refl _ _).alloc (Nat.le_refl _) _))),dn.out.alloc dn.out.size _⟩⟩
 case rest=>
  obtain⟨K,u1,u2,rfl,HU,HV⟩:=hcut
  obtain⟨w2,kV⟩:∃w2:World,w2=wc:=⟨_,rfl⟩
  subst kV
  have HJ:Hid (Below w.heap.size w w2):=(show Below _ _ _ from HV.out.2)
  have q1:=(dm.out _ HJ.out).1
  go_upto_region 2 with fail
  go_cut [4](fun s4 wx=>Hid (ae M wx s4 (l1++u1::u2::l2)∧Below w.heap.size w wx))
  case first=>
   go_region_held3(fun w'=>w'.cell? ⟨p,10,none⟩=some (.int .i64 i))
    (first|with_reducible exact(dm.out _ vC.out).1|with_reducible exact(dm.out _ vC.out.drew).1|with_reducible exact(dm.out _ HJ.out).1|with_reducible exact(dm.out _ HJ.out.drew).1|with_reducible exact(dm.out _ ez.out).1|with_reducible exact(dm.out _ ez.out.drew).1|with_reducible exact(dm.out _ dn.out).1|with_reducible exact(dm.out _ dn.out.drew).1|with_reducible exact(dm.out _ (dn.out.alloc dn.out.size _)).1|with_reducible exact(dm.out _ ((dn.out.alloc dn.out.size _).drew)).1|with_reducible exact(dm.out _ (dn.out.drew.alloc dn.out.size _)).1)
    (first
      |(go_at_call 204
        with_reducible refine(RA.out _ (by first|with_reducible exact HJ.out|with_reducible exact HJ.out.drew)).mono ?_
        rintro e wa⟨_,rfl,hs,hb⟩
        obtain⟨a1,c1,rfl,_⟩:=hs.open_
        have Vl:=hD hs
        have H2A:Hid (Below w2.heap.size w2 wa):=(by first|with_reducible exact hD hb|with_reducible exact hD (Cy hb))
        have ez:Hid (Below w.heap.size w wa):=(show Below _ _ _ from HJ.out.trans (H2A.out.mono HJ.out.size))
        clear hb hs)
      |(go_at_call 204
        with_reducible refine(RB.out _ (by first|with_reducible exact ez.out|with_reducible exact ez.out.drew)).mono ?_
        rintro e wb⟨_,rfl,hs,hb⟩
        obtain⟨a2,c2,rfl,_⟩:=hs.open_
        have Vm:=hD hs
        have EY:Hid (Below wa.heap.size wa wb):=(by first|with_reducible exact hD hb|with_reducible exact hD (Cy hb))
        have dn:Hid (Below w.heap.size w wb):=(show Below _ _ _ from ez.out.trans (EY.out.mono ez.out.size))
        have RC:=hD (Vl.out.below EY.out)
        have HVb:=hD ((HV.out.1.below H2A.out).below EY.out)
        have HMb:=hD (kU.out.below dn.out)
        clear hb hs)
      |(go_at_call 206
        refine(EX.out u1 u2 wb _ _ _ _ _ HMb.out (by first|exact heap_alloc_new wb _|exact heap_alloc_new wb.drew _) (by first|with_reducible exact(Below.refl _ wb).alloc (Nat.le_refl _) _|exact((Below.refl _ wb).alloc (Nat.le_refl _) _).drew|exact(Below.refl _ wb).drew.alloc (Nat.le_refl _) _) RC.out HVb.out Vm.out).mono ?_
        rintro e w1⟨_,rfl,hs,hb⟩
        have HS:=hD hs
        have HBC:Hid (Below wb.heap.size wb w1):=(by first|with_reducible exact hD (Cy hb)|with_reducible exact hD (RY hb)|with_reducible exact hD (RZ hb)|with_reducible exact hD (oB0 hb))
        have vC:Hid (Below w.heap.size w w1):=(show Below _ _ _ from dn.out.trans (HBC.out.mono dn.out.size))
        clear hs hb))
   all_goals(go_wp2_with fail;go_meet)
   all_goals exact hD ⟨by rw[←I1.out];exact HS.out,vC.out⟩
  case rest=>
   have hs:=hcut.out.1.open_
   obtain⟨sa,sc,rfl,_⟩:=hs
   go_wp2_with fail
   go_ret
   exact⟨_,rfl,⟨_,HT.out _ _ HU.out.1 HU.out.2,hcut.out.1⟩,hcut.out.2⟩
theorem FK {M:Nat→Prop}{base:Nat}{e:TypeId}{w:World}{a:Option Addr}{n cap:Nat}{xs:List au}(h:aK M base e w (.slice a n cap) xs){i:Nat}{x:au}(hx:xs[i]? =some x):
 ∃g c0 c1 c2 c3,a=some ⟨g,0,none⟩∧base≤g∧g<w.heap.size∧(w.cell? ⟨g,i*4,none⟩=some c0∧w.cell? ⟨g,i*4+1,none⟩=some c1∧w.cell? ⟨g,i*4+2,none⟩=some c2∧w.cell? ⟨g,i*4+3,none⟩=some c3)∧∀j,w.frozen? ⟨g,j,none⟩=false:=by
 obtain⟨css,h1,h2,h3⟩:=h
 have xY:=(List.getElem?_eq_some_iff.1 hx).1
 obtain⟨cs,bE⟩:∃cs,css[i]? =some cs:=⟨_,List.getElem?_eq_getElem (by omega)⟩
 have hlen:∀(k:Nat)(c:List Value),css[k]? =some c→c.length=4:=fun k c hc=>by
  obtain⟨z,hz⟩:∃z,xs[k]? =some z:=⟨_,List.getElem?_eq_getElem (by rw[←h2];exact(List.getElem?_eq_some_iff.1 hc).1)⟩
  exact az.len (h3 k c z hc hz)
 obtain⟨hl,hv|⟨g,dE,cur,hv,hg,hh,hn,hm,hs,CF⟩⟩:=h1
 ·have:=hv.2;omega
 ·injection hv with ha hn' hc'
  have F1:=(Array.getElem?_eq_some_iff.1 hh).1
  have G:∀(j:Nat)(u:Value),cs[j]? =some u→w.cell? ⟨g,i*4+j,none⟩=some u:=fun j u hj=>by
   have h4:=kY hlen i cs j u bE hj
   rw[←CF]at h4
   have h5:cur.toList[i*4+j]? =some u:=by
    rw[List.getElem?_take]at h4
    split at h4
    ·exact h4
    ·cases h4
   simp only[World.cell?,hh]
   simpa using h5
  obtain⟨k,n,s,l⟩:=x
  obtain⟨lv,rfl,_⟩:=eV.iff.1 (h3 i cs _ bE hx)
  exact⟨g,_,_,_,_,ha,hg,F1,⟨G 0 _ rfl,G 1 _ rfl,G 2 _ rfl,G 3 _ rfl⟩,fun j=>aa hh j⟩
theorem aK.val {M:Nat→Prop}{base:Nat}{e:TypeId}{w:World}{g n cap:Nat}{xs:List au}(h:aK M base e w (.slice (some ⟨g,0,none⟩) n cap) xs){i:Nat}(hi:i<xs.length){k m:Int}{s:ByteArray}{l:List au}{a:Option Addr}{ca:Nat}
 (hl:ae (bc (.slice (some ⟨g,0,none⟩) n cap) M) w (.slice a l.length ca) l)(hs:s.size≤maxLen):
 aK M base e ((((w.setCell ⟨g,i*4,none⟩ (.int .i64 k)).setCell ⟨g,i*4+1,none⟩ (.int .i64 m)).setCell ⟨g,i*4+2,none⟩ (.string s)).setCell ⟨g,i*4+3,none⟩ (.slice a l.length ca)) (.slice (some ⟨g,0,none⟩) n cap) (xs.set i (.mk k m s l)):=by
 obtain⟨⟨k0,m0,s0,l0⟩,hx⟩:∃x,xs[i]? =some x:=⟨_,List.getElem?_eq_getElem hi⟩
 have yf:∀y:au,(xs.set i y)[i]? =some y:=fun y=>List.getElem?_set_self hi
 have A1:=aK.cell h hx (j:=0) (by decide) (.int .i64 k) (y:= .mk k m0 s0 l0) (fun cs W hr _=>by
  obtain⟨lv,rfl,h1,h2⟩:=eV.iff.1 hr
  exact eV.iff.2 ⟨lv,rfl,h1,h2⟩)
 have A2:=aK.cell A1 (yf _) (j:=1) (by decide) (.int .i64 m) (y:= .mk k m s0 l0) (fun cs W hr _=>by
  obtain⟨lv,rfl,h1,h2⟩:=eV.iff.1 hr
  exact eV.iff.2 ⟨lv,rfl,h1,h2⟩)
 rw[List.set_set]at A2
 have A3:=aK.cell A2 (yf _) (j:=2) (by decide) (.string s) (y:= .mk k m s l0) (fun cs W hr _=>by
  obtain⟨lv,rfl,h1,h2⟩:=eV.iff.1 hr
  exact eV.iff.2 ⟨lv,rfl,h1,hs⟩)
 rw[List.set_set]at A3
 have Iu:=hl.ev ((((Ev.refl _ _).setCell (p:=⟨g,i*4,none⟩) (.inl (.inr rfl)) (.int .i64 k)).setCell (p:=⟨g,i*4+1,none⟩) (.inl (.inr rfl)) (.int .i64 m)).setCell (p:=⟨g,i*4+2,none⟩) (.inl (.inr rfl)) (.string s))
 have A4:=aK.cell A3 (yf _) (j:=3) (by decide) (.slice a l.length ca) (y:= .mk k m s l) (fun cs W hr hE=>by
  obtain⟨lv,rfl,h1,h2⟩:=eV.iff.1 hr
  exact eV.iff.2 ⟨_,rfl,Iu.ev hE,h2⟩)
 rw[List.set_set]at A4
 exact A4
theorem BP(M:Nat→Prop)(w:World)(hM:Bd M w)(c:ai)(fv vv:Value)(x:aq)(b:Bool)(g1 g2:Value)(many:Int)(p:Nat)(pre post:List ak)(f:ak)(vs:List au)(ha:gi c x.field pre f post)(hk:x.kind=4)(h8:c.fields.length≤8)(CG:aB x.type=true)
 (hg:gQ M c many x.type x.expr w g1)(hG:Gd w)(hp:w.heap[p]? =some (oI c.name fv x pre.length b g1 g2))(hv:aW c.fields many vs)(dk:ae M w vv vs):
 Calls Tryz.prog 181 #[.pointer (some ⟨p,0,none⟩),vv] w (aF w fun v w'=>∃us,fC c x many vs us∧ae M w' v us):=by
 have gy:p<w.heap.size:=(Array.getElem?_eq_some_iff.1 hp).1
 have HW:=hD (bV hp)
 have nJ:c.fields[pre.length]? =some f:=by rw[ha.eq];simp
 have aT:pre.length<vs.length:=by rw[hv.1];exact(List.getElem?_eq_some_iff.1 nJ).1
 have Vj:vs.length≤8:=by rw[hv.1];exact h8
 have HT:Hid (∀v,jX c x.type many x.expr vs v→fC c x many vs (vs.set pre.length v)):=(show∀v,_→_ from fun v h1=>by
  rw[List.set_eq_take_append_cons_drop,if_pos aT];exact GD ha hk hv h1)
 obtain⟨gf,lb,rfl,eg,CC⟩:=hg
 have RA:=hD (sf hv (us:=vs) (fun _ h=>h) (by omega) M w vv hM dk)
 have RB:Hid (∀(N:Nat→Prop)W,(∀i,M i→N i)→(∀i,N i→M i∨w.heap.size≤i)→Bd N W→Below w.heap.size w W→_):=(show∀(N:Nat→Prop)W,_→_→_→_→_ from fun N W h1 h2 h3 hb=>CC CG N h1 h2 W (ag.aj hb) vv vs (dk.ev ⟨ag.aj hb,h2⟩) hv h3 (hG.below hb))
 have dm:Hid (∀W,Below w.heap.size w W→W.cell? ⟨p,10,none⟩=some (.int .i64 pre.length)∧W.cell? ⟨p,12,none⟩=some (.func (.func gf) #[] lb)):=(show∀W,_→_ from fun W hb=>⟨(HW.out.below gy hb).ca,(HW.out.below gy hb).cc⟩)
 obtain⟨y0,hy0⟩:∃y,vs[pre.length]? =some y:=⟨_,List.getElem?_eq_getElem aT⟩
 have HY0:=hD hy0
 have kU:=hD hM
 obtain⟨i,hi⟩:∃i,pre.length=i:=⟨_,rfl⟩
 rw[hi]at aT HT dm HY0
 obtain⟨a0,c0,rfl,cq,po,ho⟩:=dk.open_
 clear dk ha hp nJ ho hM hv hG CC hy0 hi HW
 go_enter Tryz.func181,Tryz.ntmps181
 go_wp2_with fail
 refine(RA.out).mono ?_
 rintro e wa⟨_,rfl,hs,hb⟩
 obtain⟨a1,c1,rfl,_⟩:=hs.open_
 have HA:=hD hs
 have ez:=hD hb
 obtain⟨g,_,_,_,_,rfl,Xr,_⟩:=FK hs HY0.out
 have HBd:=hD (ui HA.out (kU.out.below ez.out))
 have vK:Hid (∀i,M i→bc (.slice (some ⟨g,0,none⟩) vs.length c1) M i):=(show∀i,_→_ from fun i h=> .inl h)
 have ve:Hid (∀i,bc (.slice (some ⟨g,0,none⟩) vs.length c1) M i→M i∨w.heap.size≤i):=(show∀i,_→_ from fun i h=>h.imp_right fun h=>(HA.out.dO i h).1)
 have q1:=(dm.out _ ez.out).1
 have q2:=(dm.out _ ez.out).2
 clear hs hb
 go_upto_region 2 with fail
 go_region_law(first
  |(try go_simp
    go_loud(refine(RB.out (bc (.slice (some ⟨g,0,none⟩) vs.length c1) M) wa.drew vK.out ve.out HBd.out ez.out.drew).mono ?_)
    rintro e wb⟨_,rfl,⟨⟨yk,yn,ys,yl⟩,hy,cs,rfl,bw⟩,hb⟩
    obtain⟨av,rfl,aU,iD⟩:=eV.iff.1 bw
    obtain⟨ya,yc,rfl,_⟩:=aU.open_
    have EY:Hid (Below wa.heap.size wa wb):=(by first|with_reducible exact hD hb|with_reducible exact hD (Cy hb))
    have dn:Hid (Below w.heap.size w wb):=(show Below _ _ _ from ez.out.trans (EY.out.mono ez.out.size))
    have Xq:=hD (HA.out.below EY.out)
    have eM:=hD aU
    have sx:=hD iD
    have HY:=hD hy
    have k1:=(dm.out _ dn.out).1
    have k2:=(dm.out _ dn.out).2
    obtain⟨gb,v0,v1,v2,v3,NT,_,_,⟨z0,z1,z2,z3⟩,kX⟩:=FK Xq.out HY0.out
    obtain rfl:g=gb:=by injection NT with NT;injection NT
    have f0:=kX (i*4)
    have f1:=kX (i*4+1)
    have f2:=kX (i*4+2)
    have f3:=kX (i*4+3)
    clear hb bw aU iD hy kX))
 all_goals
  go_wp2_with fail
  go_ret
  exact⟨_,rfl,⟨_,HT.out _ HY.out,(aK.val Xq.out aT eM.out sx.out).slice kU.out⟩,(((dn.out.setCell (p:=⟨g,i*4,none⟩) Xr _).setCell (p:=⟨g,i*4+1,none⟩) Xr _).setCell (p:=⟨g,i*4+2,none⟩) Xr _).setCell (p:=⟨g,i*4+3,none⟩) Xr _⟩
def sJ(k:Int):Nat:=if k=1 then 171 else if k=2 then 174 else if k=3 then 177 else if k=4 then 180 else if k=5 then 183 else 186
def qn(k:Int):Nat:=if k=1 then 172 else if k=2 then 175 else if k=3 then 178 else if k=4 then 181 else if k=5 then 184 else 178
theorem xM {w:World}{b p:Nat}(h:lK w b p){k:Int}(hk:k=1∨k=2∨k=3∨k=4∨k=5∨k=6):(Instr.lookup 252 (.map (some b)) (.int .i64 k) false).run Tryz.prog w= .ok (ig p (vX k) (sJ k) (qn k)) w:=by
 obtain⟨es,clk,h0,h1,h2,h3,h4,h5,h6⟩:=h
 rcases hk with rfl|rfl|rfl|rfl|rfl|rfl
 ·exact jn h0 _ _ h1
 ·exact jn h0 _ _ h2
 ·exact jn h0 _ _ h3
 ·exact jn h0 _ _ h4
 ·exact jn h0 _ _ h5
 ·exact jn h0 _ _ h6
theorem BQ {c:ai}{x:aq}(hb:gY c x=true)(hk:x.kind≠1):hasB c x.field=true:=by
 unfold gY at hb
 rw[if_neg hk]at hb
 repeat'(split at hb)
 all_goals simp_all
theorem Eh(M:Nat→Prop)(w:World)(hM:Bd M w)(c:ai)(hc:bR c)(fv:Value)(x:aq)(hx:ot c x)(hb:gY c x=true)(g1 g2:Value)(p:Nat)
 (hp:w.heap[p]? =some (oI c.name fv x (nX c x) (hasB c x.field) g1 g2))(bz:ae M w fv c.fields):
 Calls Tryz.prog (sJ x.kind) #[.pointer (some ⟨p,0,none⟩)] w (aF w fun v w'=>ae M w' v (bC c x).fields):=by
 have h8:=((aZ c).1 hc.right).2.1
 have B5:c.fields.length≤8:=by omega
 by_cases h1:x.kind=1
 ·rw[h1]
  exact Qd M w hM c fv x _ _ _ _ p h1 hx.s2 B5 hp bz
 ·have hh:=BQ hb h1
  obtain⟨pre,f,post,ha⟩:=lh hc.right hh
  rw[hh,show nX c x=(pre.length:Int)by unfold nX;rw[ha.at_,if_neg (by omega)]]at hp
  have hk:x.kind=2∨x.kind=3∨x.kind=4∨x.kind=5∨x.kind=6:=by have:=hx.sh;simp only[lg]at this;omega
  rcases hk with hk|hk|hk|hk|hk<;>rw[hk]
  ·exact Nz M w hM c fv x _ _ _ p pre post f ha hk B5 hp bz
  ·exact Hr M w hM c fv x _ _ _ p pre post f ha hk hx.s2 B5 hp bz
  ·exact KH M w hM c fv x _ _ _ p pre post f ha hk B5 hp bz
  ·exact KL M w hM c fv x _ _ _ p pre post f ha hk hx.s2 hx.s3 B5 hp bz
  ·exact Hs M w hM c fv x _ _ _ p pre post f ha hk B5 hp bz
theorem KN(M:Nat→Prop)(w:World)(hM:Bd M w)(c:ai)(hc:bR c)(fv vv:Value)(x:aq)(hx:ot c x)(hb:gY c x=true)(g1 g2:Value)(many:Int)(p:Nat)(vs:List au)
 (hg:gQ M c many x.type x.expr w g1)(FT:gQ M c many x.type x.other w g2)(hG:Gd w)
 (hp:w.heap[p]? =some (oI c.name fv x (nX c x) (hasB c x.field) g1 g2))(hv:aW c.fields many vs)(dk:ae M w vv vs):
 Calls Tryz.prog (qn x.kind) #[.pointer (some ⟨p,0,none⟩),vv] w (aF w fun v w'=>∃us,fC c x many vs us∧ae M w' v us):=by
 have h8:=((aZ c).1 hc.right).2.1
 have B5:c.fields.length≤8:=by omega
 by_cases h1:x.kind=1
 ·rw[h1]
  exact Eg M w hM c fv vv x _ _ _ _ many p vs h1 B5 (hx.type (.inl h1)) hp hg hG hv dk
 ·have hh:=BQ hb h1
  obtain⟨pre,f,post,ha⟩:=lh hc.right hh
  rw[hh,show nX c x=(pre.length:Int)by unfold nX;rw[ha.at_,if_neg (by omega)]]at hp
  have hk:x.kind=2∨x.kind=3∨x.kind=4∨x.kind=5∨x.kind=6:=by have:=hx.sh;simp only[lg]at this;omega
  rcases hk with hk|hk|hk|hk|hk<;>rw[hk]
  ·exact BO M w hM c fv vv x _ _ _ many p pre post f vs ha hk B5 hp hv dk
  ·exact si M w hM c vv x many p pre post f vs ha (.inl hk) B5 hv dk
  ·exact BP M w hM c fv vv x _ _ _ many p pre post f vs ha hk B5 (hx.type (.inr (.inl hk))) hg hG hp hv dk
  ·exact zo M w hM c fv vv x _ _ _ many p pre post f vs ha hk B5 (hx.type (.inr (.inr hk))) hg FT hG hp hv dk
  ·exact si M w hM c vv x many p pre post f vs ha (.inr hk) B5 hv dk
end Go.Proofs.YtlkjnefenialbaaGreatDoor
