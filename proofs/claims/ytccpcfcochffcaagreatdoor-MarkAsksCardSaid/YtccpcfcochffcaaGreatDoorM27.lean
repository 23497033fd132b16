/- A part of MarkAsks's proof; no condition. -/
import Derived.Test.YtccpcfcochffcaaGreatDoorM25
import Derived.Test.YtccpcfcochffcaaGreatDoorM26
set_option linter.all false
set_option maxHeartbeats 8000000
set_option maxRecDepth 100000
namespace Go.Proofs.YtccpcfcochffcaaGreatDoor
open Go.Proofs.Tryz
variable{cs:List an}{us vs l:List au}{many:Int}{o:Obj}{w w' W:aj}{f:ay}{t e:TypeId}{K i cap base g b p k:Nat}{M:aS}{a1 a2 a3 v0 v1 v2 v3:an}{a:dC}{s:aT}{x:aB}{c:az}
section
open Go.ChangeShapes Go.WideShapes Go.ChangeAt Go.RowKit Go.Deep
def Wa(h:cs.length=9):∃a b c d e f g i j,cs=[a,b,c,d,e,f,g,i,j]:=by
 match cs,h with
 |[a,b,c,d,e,f,g,i,j],_=>exact⟨a,b,c,d,e,f,g,i,j,rfl⟩
section
variable {H:Type}{enc:TypeId×an->H}{W:aj}
def PI(hl:cs.length=9)(h:Rd enc W 32 cs):∃x:UK,CV W (.agg cs.toArray) x:=by
 obtain⟨a,b,c,d,e,f,g,i,j,rfl⟩:=Wa hl;have h0:Rd enc W 4 [a]:=by simpa [UF]using bZ underlying32 h 0 _ rfl
 have h1:Rd enc W 3 [b]:=by simpa [lP]using bZ underlying32 h 1 _ rfl
 have h2:Rd enc W 27 [c]:=by simpa [cIs]using bZ underlying32 h 2 _ rfl
 have h3:Rd enc W 3 [d]:=by simpa [lP]using bZ underlying32 h 3 _ rfl
 have h4:Rd enc W 3 [e]:=by simpa [lP]using bZ underlying32 h 4 _ rfl
 have h5:Rd enc W 30 [f,g,i,j]:=by simpa [ZG]using bZ underlying32 h 5 _ rfl
 have h6:Rd enc W 3 [g]:=by simpa [lP]using bZ underlying30 h5 1 _ rfl
 obtain⟨z0,e0⟩:=Ky h0;obtain⟨z1,e1,w1⟩:=ew h1;obtain⟨ts,s2,w2⟩:=Kz h2;obtain⟨z3,e3,w3⟩:=ew h3;obtain⟨z4,e4,w4⟩:=ew h4;obtain⟨z6,e6,w6⟩:=ew h6;obtain⟨n5,h5⟩:=h5;obtain⟨⟨vk,vn,vs,vl⟩,hv⟩:=rd_val n5 [f,g,i,j] rfl h5;obtain⟨lv,bD,bo,hsz⟩:=eN.iff.1 hv;obtain⟨va,vc,rfl,-⟩:=bo.open_;obtain⟨sa,sc,rfl,-⟩:=s2.open_;simp at e0 e1 e3 e4 e6 bD;obtain⟨rfl,rfl,rfl,rfl⟩:=bD;subst e0 e1 e3 e4;have e6':vn=z6:=by simpa using e6
 subst e6';exact⟨⟨z0,z1,ts,z3,z4,vk,vn,vs,vl⟩,⟨⟨sa,va,sc,vc,rfl,s2,⟨_,rfl,hv⟩⟩,w1,w3,w4,w6,w2⟩⟩
end
end
section
open Go.RowKit Go.Shelf
def AM(h:Nat)(l:List au)(hl:l.length<=12)(hx:∀x∈l,yK h x)(M:aS)(w:aj)(v:an)(hM:Bd M w)(hs:ab M w v l):xG 273 #[v] w λv' w'=>aP M w.heap.size 30 w' v' l:=by
 cases h with
 |zero=>
  exact mr l hl (λx hm=>by
   rw[show x.list=[]from hx x hm];exact ku [] (by simp) λy hy=>by cases hy) M w v hM hs
 |succ h=>exact mr l hl (λx hm=>nI h x.list (hx x hm).1 (hx x hm).2) M w v hM hs
def wg {fs:List ay}(h:aW fs many vs)(hu:∀x∈us,x∈vs)(hl:us.length<=12)(M:aS)(w:aj)(v:an)(hM:Bd M w)(hs:ab M w v us):xC 273 #[v] w (bW w λv' w'=>aP M w.heap.size 30 w' v' us):=
 AM 1 us hl (λx hx=>by
  obtain⟨f,_,hv⟩:=dw h x (hu x hx);exact nH hv) M w v hM hs
def wh(M:aS)(w:aj)(hM:Bd M w)(c:az)(vv:an)(x:aB)(many:Int)(p:Nat)(pre post:List ay)(f:ay)(vs:List au)(ha:iy c x.field pre f post)(hk:x.kind=3\/x.kind=6)(h8:c.fields.length<=8)
 (hv:aW c.fields many vs)(dt:ab M w vv vs):
 xG 249 #[xP p,vv] w λv w'=>∃us,gW c x many vs us/\ab M w' v us:=by
 have hl:vs.length<=12:=by rw[hv.1];omega
 have HC:=af (kX hv (us:=vs) (λ_ h=>h) hl M w vv hM dt);have HT:=af (LQ ha hk hv);obtain⟨a0,c0,rfl,_⟩:=dt.open_;go_enter func249,ntmps249;go_wp2_with fail;refine(HC.o).mono ?_;rintro e w1⟨_,rfl,hs,hb⟩;obtain⟨a1,c1,rfl,_⟩:=hs.open_;have HS:=af hs;have HB:=af hb;go_wp2;go_ret;exact⟨_,rfl,⟨_,HT.o,HS.o⟩,HB.o⟩
def oB0(hb:Below (w.alloc o).heap.size (w.alloc o) w'):aq w w':=((Qbg _ w).alloc bq o).trans (hb.mono (by show w.heap.size<=(w.alloc o).heap.size;simp))
def FH(M:aS)(w:aj)(hM:Bd M w)(c:az)(fv vv:an)(x:aB)(b:Bool)(g1 g2:an)(many:Int)(p:Nat)(pre post:List ay)(f:ay)(vs:List au)(ha:iy c x.field pre f post)(hk:x.kind=2)(h8:c.fields.length<=8)
 (hp:cI w p (rb c.name fv x pre.length b g1 g2))(hv:aW c.fields many vs)(dt:ab M w vv vs):
 xG 246 #[xP p,vv] w λv w'=>∃us,gW c x many vs us/\ab M w' v us:=by
 have gO:p<w.heap.size:=(Qaa.1 hp).1;have HW:=af (cH hp);have og:c.fields[pre.length]? =some f:=by rw[ha.eq];simp
 have aX:pre.length<vs.length:=by rw[hv.1];exact(Qad.1 og).1
 have h8v:vs.length<=8:=by rw[hv.1];exact h8
 have HT:=af (LP ha hk hv);have np:=af hM;obtain⟨a0,c0,rfl,cK,qE,ho⟩:=dt.open_;obtain⟨fb,off,rfl,_⟩:=ho (by omega);obtain⟨n,hn⟩:=fx (vs.length);obtain⟨i,hi⟩:=fx (pre.length);rw[hi]at aX HT HW;rw[hn]at aX cK dt h8v⊢;have dB:=dt.upto hn (k:=i) (by omega);have jC:=dt.from_ hn (k:=i+1) (by omega);have s1:i<=c0:=by omega
 have s2:i+1<=n:=by omega
 have s3:i+1<=c0:=by omega
 have s5:(i:Int)<=(i:Int)+1:=by omega
 have s6:IntKind.i64.wrap ((i:Int)+1)=(i:Int)+1:=Qbe _ (by omega);have s7:(0:Int)<=(i:Int)+1:=by omega
 have s8:(i:Int)+1<=(n:Int):=by omega
 have s9:((i:Int)+1).toNat=i+1:=by omega
 have rS:ab M w (xL (if c0=i+1 then some ⟨fb,off,none⟩else some ⟨fb,off+(i+1)*4,none⟩) (n-(i+1)) (c0-(i+1))) (vs.drop (i+1)):=by
  simpa [Addr.add,show aA.size au=4 from rfl]using jC
 obtain⟨ap,Sc⟩:=fx ((if c0=i+1 then some (⟨fb,off,none⟩:Addr)else some ⟨fb,off+(i+1)*4,none⟩));rw[Sc]at rS;have DP:∀y∈vs.take i,y∈vs:=λy h=>List.mem_of_mem_take h;have DQ:∀y∈vs.drop (i+1),y∈vs:=λy h=>List.mem_of_mem_drop h;have cY:(vs.take i).length<=12:=by rw[Qdb];omega
 have dA:(vs.drop (i+1)).length<=12:=by rw[List.length_drop];omega
 obtain⟨l1,vi⟩:∃l,vs.take i=l:=⟨_,rfl⟩;obtain⟨l2,zU⟩:∃l,vs.drop (i+1)=l:=⟨_,rfl⟩;rw[vi]at dB DP cY HT;rw[zU]at rS DQ dA HT;have XR:=fV (w:=w) (λW hb=>kX hv DP cY M W _ (hM.below hb) (dB.below hb));have XS:=fV (w:=w) (λW hb=>kX hv DQ dA M W _ (hM.below hb) (rS.below hb));have J6:Hd (∀w2 W t v1 v2,Bd M w2->dY W w2 (xK #[v1,v2] t)->aq w2 W->ab M w2 v1 l1->ab M w2 v2 l2->_):=λw2 W t v1 v2 hM2 h1 h2 h3 h4=>
  tr M W (hM2.below h2) w2.heap.size 2 [v1,v2] [l1,l2] (FG h1 h2 h3 h4) rfl (by simp;omega) (by omega);have dn:Hd (∀W,aq w W->aU W p 10 (xI i)):=λW hb=>(HW.o.below gO hb).ca;have q1:=(dn.o _ dK);have HJ:Hd (aq w w):=dK;have Ar:=af (show [l1,l2].flatten=l1++l2 by simp);go_enter func246,ntmps246;go_upto_region 1 with fail;go_cut [4](λs4 wx=>Hd (ab M wx s4 (l1++l2)/\aq w wx));case first=>
  go_region_held3(λw'=>w'.cell? ⟨p,10,none⟩=some (xI i))
   (with_reducible first|exact dn.o _ qN.o|exact dn.o _ qN.o.drew|exact dn.o _ HJ.o|exact dn.o _ HJ.o.drew|exact dn.o _ eM.o|exact dn.o _ eM.o.drew|exact dn.o _ cR.o|exact dn.o _ cR.o.drew|exact dn.o _ (cR.o.alloc cR.o.size _)|exact dn.o _ ((cR.o.alloc cR.o.size _).drew)|exact dn.o _ (cR.o.drew.alloc cR.o.size _))
   (first
     |(go_at_call 273;with_reducible refine(XR.o _ (by with_reducible first|exact HJ.o|exact HJ.o.drew)).mono ?_
       rintro e wa⟨_,rfl,hs,hb⟩;obtain⟨a1,c1,rfl,_⟩:=hs.open_;have HSA:=af hs;have eM:Hd (aq w wa):=(by with_reducible first|exact af hb|exact af (AK hb));clear hb hs)
     |(go_at_call 273;with_reducible refine(XS.o _ (by with_reducible first|exact eM.o|exact eM.o.drew)).mono ?_
       rintro e wb⟨_,rfl,hs,hb⟩;obtain⟨a2,c2,rfl,_⟩:=hs.open_;have HSB:=af hs;have DV:Hd (aq wa wb):=(by with_reducible first|exact af hb|exact af (AK hb));have cR:Hd (aq w wb):=eM.o.trans (DV.o.mono eM.o.size);have XT:=af (HSA.o.below DV.o);have HMb:=af (np.o.below cR.o);clear hb hs)
     |(go_at_call 275;refine(J6.o wb _ _ _ _ HMb.o (by first|exact Qbh wb _|exact Qbh wb.drew _) (by first|with_reducible exact(Qbg _ wb).alloc bq _|exact bO.drew|exact(Qbg _ wb).drew.alloc bq _) XT.o HSB.o).mono ?_;rintro e w1⟨_,rfl,hs,hb⟩;have HS:=af hs;have XU:Hd (aq wb w1):=(by with_reducible first|exact af (AK hb)|exact af (Tp hb)|exact af (Tq hb)|exact af (oB0 hb));have qN:Hd (aq w w1):=cR.o.trans (XU.o.mono cR.o.size);clear hs hb));all_goals(go_wp2;go_meet)
  all_goals exact af ⟨by rw[<-Ar.o];exact HS.o,qN.o⟩
 case rest=>
  have hs:=hcut.o.1.open_;obtain⟨sa,sc,rfl,_⟩:=hs;go_wp2;go_ret;exact⟨_,rfl,⟨_,HT.o,hcut.o.1⟩,hcut.o.2⟩
def Jf(M:aS)(w:aj)(hM:Bd M w)(c:az)(fv vv:an)(x:aB)(a:Int)(b:Bool)(g1 g2:an)(many:Int)(p:Nat)(vs:List au)(hk:x.kind=1)(h8:c.fields.length<=8)(GZ:aF x.type=true)
 (hp:cI w p (rb c.name fv x a b g1 g2))(hg:iZ M c many x.type x.expr w g1)(hG:Gd w)(hv:aW c.fields many vs)(dt:ab M w vv vs):
 xG 243 #[xP p,vv] w λv w'=>∃us,gW c x many vs us/\ab M w' v us:=by
 obtain⟨i0,dz,dX,cY,dA⟩:=info_parts fY;have gO:p<w.heap.size:=(Qaa.1 hp).1;have HW:=af (cH hp);have h8v:vs.length<=8:=by rw[hv.1];exact h8
 have HT:=af (λv(ht:lW c x.type many x.expr vs v)=>OI hk hv ht);obtain⟨gf,lb,rfl,eg,JQ⟩:=hg;have XR:=fV (w:=w) (λW hb=>wg hv (us:=vs) (λ_ h=>h) (by omega) M W vv (hM.below hb) (dt.below hb));have XS:Hd (∀(N:aS)W,(∀i,M i->N i)->(∀i,N i->M i\/w.heap.size<=i)->Bd N W->aq w W->_):=λN W h1 h2 h3 hb=>JQ GZ N h1 h2 W (ai.ao hb) vv vs (dt.ev ⟨ai.ao hb,h2⟩) hv h3 (hG.below hb);have dn:Hd (∀W,aq w W->aU W p 12 (.func (.func gf) #[] lb)):=λW hb=>(HW.o.below gO hb).cc;obtain⟨a0,c0,rfl,cK,qE,ho⟩:=dt.open_;have q1:=(dn.o _ dK);have HJ:Hd (aq w w):=dK;have np:=af hM;go_enter func243,ntmps243;go_upto_region 1 with fail;go_cut [4](λs4 wx=>∃u,lW c x.type many x.expr vs u/\Hd (ab M wx s4 (vs++[u])/\aq w wx));case first=>
  go_region_held3(λw'=>w'.cell? ⟨p,12,none⟩=some (.func (.func gf) #[] lb))
   (with_reducible first|exact dn.o _ qN.o|exact dn.o _ qN.o.drew|exact dn.o _ HJ.o|exact dn.o _ HJ.o.drew|exact dn.o _ eM.o|exact dn.o _ eM.o.drew|exact dn.o _ cR.o|exact dn.o _ cR.o.drew|exact dn.o _ (cR.o.alloc cR.o.size _)|exact dn.o _ ((cR.o.alloc cR.o.size _).drew)|exact dn.o _ (cR.o.drew.alloc cR.o.size _))
   (first
     |(go_at_call 273;with_reducible refine(XR.o _ (by with_reducible first|exact HJ.o|exact HJ.o.drew)).mono ?_
       rintro e wa⟨_,rfl,hs,hb⟩;obtain⟨a1,c1,rfl,_⟩:=hs.open_;have eM:Hd (aq w wa):=(by with_reducible first|exact af hb|exact af (AK hb));have HA:=af (hs.le (base':=w.heap.size) bq);have HBd:=af (CB HA.o (np.o.below eM.o));have rU:Hd (∀i,M i->bB (xL a1 vs.length c1) M i):=λi h=> .inl h;have qz:Hd (∀i,bB (xL a1 vs.length c1) M i->M i\/w.heap.size<=i):=λi h=>h.imp_right λh=>(HA.o.dU i h).1;clear hb hs)
     |(refine(XS.o (bB (xL a1 vs.length c1) M) _ rU.o qz.o HBd.o (by with_reducible first|exact eM.o|exact eM.o.drew)).mono ?_;rintro e wb⟨_,rfl,⟨⟨yk,yn,ys,yl⟩,hy,cs,rfl,bU⟩,hb⟩;obtain⟨av,rfl,bo,j6⟩:=eN.iff.1 bU;obtain⟨ya,yc,rfl,_⟩:=bo.open_;have DV:Hd (aq wa wb):=(by with_reducible first|exact af hb|exact af (AK hb));have cR:Hd (aq w wb):=eM.o.trans (DV.o.mono eM.o.size);have HAb:=af (HA.o.below DV.o);have fH:=af bU;have HY:=af hy;clear hb bU bo j6 hy)
     |(refine cO (α:=au) rfl _ _ _ rfl M w.heap.size 30 i0 _ 56 underlying28 dz dX cY dA rfl (by decide) (.slice a1 vs.length c1) vs rfl (HAb.o.alloc _) (λ_=>True) _ _ (.mk yk yn ys yl) rfl (b9 _ _ _ _ rfl trivial) (aA.ev fH.o (Ev.ao bO)) (by unfold maxLen;omega) (by omega) (by have:=cR.o.size;simp;omega) ?_;intro a2 c2 w2 bu dr aY;have cL:=af bu;have qN:Hd (aq w w2):=(cR.o.alloc cR.o.size _).trans aY;clear bu dr aY));all_goals(go_wp2;go_meet)
  all_goals exact⟨_,HY.o,af ⟨cL.o.slice np.o,qN.o⟩⟩
 case rest=>
  obtain⟨u,ht,hc⟩:=hcut;have hs:=hc.o.1.open_;obtain⟨sa,sc,rfl,_⟩:=hs;go_wp2;go_ret;exact⟨_,rfl,⟨_,HT.o _ ht,hc.o.1⟩,hc.o.2⟩
def BU {g:ay}(h:cI w K (xK #[xS f.name,xI f.type.kind,xI f.type.of,xB f.indexed,xS g.name,xI g.type.kind,xI g.type.of,xB g.indexed] t))(hM:¬M K)(h1:f.name.size<=maxLen)(h2:g.name.size<=maxLen):ab M w (xL (some ⟨K,0,none⟩) 2 2) [f,g]:=by
 refine⟨[[xS f.name,xI f.type.kind,xI f.type.of,xB f.indexed],[xS g.name,xI g.type.kind,xI g.type.of,xB g.indexed]],⟨rfl,some ⟨K,0,none⟩,2,rfl,bq,by unfold maxLen;omega,λ_=>⟨K,0,rfl,hM,(Qaa.1 h).1,λj u hu=> ?_⟩⟩,rfl,λi cs x hc hx=> ?_⟩
 .simp only[World.cell?,h,Nat.zero_add];simpa using hu
 .match i,hc,hx with
  |0,hc,hx=>cases hc;cases hx;exact⟨rfl,h1⟩
  |1,hc,hx=>cases hc;cases hx;exact⟨rfl,h2⟩
  |i+2,hc,hx=>simp at hc
def P4(M:aS)(w:aj)(hM:Bd M w)(c:az)(fv:an)(x:aB)(b:Bool)(g1 g2:an)(p:Nat)(pre post:List ay)(f:ay)(ha:iy c x.field pre f post)(hk:x.kind=5)(xH:x.name.size<=maxLen)(RV:x.more.size<=maxLen)(h8:c.fields.length<=8)
 (hp:cI w p (rb c.name fv x pre.length b g1 g2))(bR:ab M w fv c.fields):
 xG 254 #[xP p] w λv w'=>ab M w' v (bT c x).fields:=by
 have gO:p<w.heap.size:=(Qaa.1 hp).1;have HW:=af (cH hp);have q1:=HW.o.c1;have q2:=HW.o.ca;have q4:=HW.o.c4;have q5:=HW.o.c5;have q6:=HW.o.c6;have q7:=HW.o.c7;have og:c.fields[pre.length]? =some f:=by rw[ha.eq];simp
 have aX:pre.length<c.fields.length:=(Qad.1 og).1;have rT:=af (show(bT c x).fields=[c.fields.take pre.length,[⟨x.name,x.type,false⟩,⟨x.more,x.type,false⟩],c.fields.drop (pre.length+1)].flatten by
  rw[fg ha (by omega),ha.eq];simp[iS,hk]);have jT:Hd (x.name.size<=maxLen/\x.more.size<=maxLen):=⟨xH,RV⟩;have np:=af hM;obtain⟨a0,c0,rfl,cK,qE,ho⟩:=bR.open_;obtain⟨fb,off,rfl,_⟩:=ho (by omega);obtain⟨n,hn⟩:=fx (c.fields.length);obtain⟨i,hi⟩:=fx (pre.length);rw[hi]at aX rT q2 HW;rw[hn]at aX q1 cK bR h8 HW;have J6:Hd (∀w2 W t v1 v2 v3,Bd M w2->dY W w2 (xK #[v1,v2,v3] t)->aq w2 W->ab M w2 v1 (c.fields.take i)->ab M w2 v2 [(⟨x.name,x.type,false⟩:ay),⟨x.more,x.type,false⟩]->ab M w2 v3 (c.fields.drop (i+1))->_):=λw2 W t v1 v2 v3 hM2 h1 h2 h3 h4 h5=>
  pM M W (hM2.below h2) w2.heap.size 3 [v1,v2,v3] [c.fields.take i,[⟨x.name,x.type,false⟩,⟨x.more,x.type,false⟩],c.fields.drop (i+1)] (zG h1 h2 h3 h4 h5) rfl (by simp;omega) (by omega);have rC:=af (bR.upto hn (k:=i) (by omega));have jC:=bR.from_ hn (k:=i+1) (by omega);have s1:i<=c0:=by omega
 have s2:i+1<=n:=by omega
 have s3:i+1<=c0:=by omega
 have s5:(i:Int)<=(i:Int)+1:=by omega
 have s6:IntKind.i64.wrap ((i:Int)+1)=(i:Int)+1:=Qbe _ (by omega);have s7:(0:Int)<=(i:Int)+1:=by omega
 have s8:(i:Int)+1<=(n:Int):=by omega
 have s9:((i:Int)+1).toNat=i+1:=by omega
 have eB:=af (show ab M w (xL (if c0=i+1 then some ⟨fb,off,none⟩else some ⟨fb,off+(i+1)*4,none⟩) (n-(i+1)) (c0-(i+1))) (c.fields.drop (i+1))by
  simpa [Addr.add,show aA.size ay=4 from rfl]using jC);obtain⟨ap,Sc⟩:=fx ((if c0=i+1 then some (⟨fb,off,none⟩:Addr)else some ⟨fb,off+(i+1)*4,none⟩));rw[Sc]at eB;have dn:Hd (∀W,aq w W->aU W p 1 (xL (some ⟨fb,off,none⟩) n c0)/\aU W p 10 (xI i)):=λW hb=>by
  have h:=HW.o.below gO hb;exact⟨h.c1,h.ca⟩
 clear bR ha hp og ho jC hM;go_enter func254,ntmps254;go_wp2_with fail;go_cut [3](λs3 wx=>∃K:Nat,s3=xL (some ⟨K,0,none⟩) 2 2/\Hd (ab M wx (xL (some ⟨K,0,none⟩) 2 2) [(⟨x.name,x.type,false⟩:ay),⟨x.more,x.type,false⟩]/\aq w wx));case first=>
  have oZ:Hd (¬M w.heap.size):=λh=>by have:=np.o _ h;omega
  go_region;all_goals(go_wp2;go_meet)
  all_goals exact⟨_,rfl,af ⟨by first|exact BU (Qbh w _) oZ.o jT.o.1 jT.o.2|exact BU (f:=⟨x.name,x.type,false⟩) (g:=⟨x.more,x.type,false⟩) (Qbh w.drew _) oZ.o jT.o.1 jT.o.2,by first|exact bO.drew|exact(Qbg _ w).drew.alloc bq _⟩⟩
 case rest=>
  obtain⟨K,rfl,HV⟩:=hcut;obtain⟨w2,oo⟩:=cM (wc);subst oo;have HSA:=af (rC.o.below HV.o.2);have HSB:=af (eB.o.below HV.o.2);have TS:=af (np.o.below HV.o.2);have mj:Hd (∀W,aq w2 W->aU W p 1 (xL (some ⟨fb,off,none⟩) n c0)/\aU W p 10 (xI i)):=λW hb=>dn.o _ (HV.o.2.trans (hb.mono HV.o.2.size));have q1:=(mj.o _ dK).1;have q2:=(mj.o _ dK).2;have HJ:Hd (aq w2 w2):=dK;go_upto_region 2 with fail;go_cut [2](λs2 wx=>Hd (ab M wx s2 (bT c x).fields/\aq w2 wx));case first=>
   go_region_held3(λw'=>w'.cell? ⟨p,1,none⟩=some (xL (some ⟨fb,off,none⟩) n c0)/\w'.cell? ⟨p,10,none⟩=some (xI i))
    (with_reducible first|exact mj.o _ qN.o|exact mj.o _ qN.o.drew|exact mj.o _ HJ.o|exact mj.o _ HJ.o.drew|exact mj.o _ (HJ.o.alloc HJ.o.size _)|exact mj.o _ ((HJ.o.alloc HJ.o.size _).drew)|exact mj.o _ (HJ.o.drew.alloc HJ.o.size _))
    ((go_at_call 274;refine(J6.o w2 _ _ _ _ _ TS.o (by first|exact Qbh w2 _|exact Qbh w2.drew _) (by first|exact bO.drew|exact(Qbg _ w2).drew.alloc bq _) HSA.o HV.o.1 HSB.o).mono ?_;rintro e w1⟨_,rfl,hs,hb⟩;have HS:=af hs;have qN:Hd (aq w2 w1):=(by with_reducible first|exact af (AK hb)|exact af (Tp hb)|exact af (Tq hb));clear hs hb));all_goals(go_wp2;go_meet)
   all_goals exact af ⟨by rw[rT.o];exact HS.o,qN.o⟩
  case rest=>
   have hs:=hcut.o.1.open_;obtain⟨sa,sc,rfl,_⟩:=hs;go_wp2;go_ret;exact⟨_,rfl,hcut.o.1,HV.o.2.trans (hcut.o.2.mono HV.o.2.size)⟩
def P5 {a4 b1 b2 b3 b4:an}{x1 x2:au}(h:cI w K (xK #[a1,a2,a3,a4,b1,b2,b3,b4] t))(hM:¬M K)(r1:aA.rep (α:=au) M w [a1,a2,a3,a4] x1)(r2:aA.rep (α:=au) M w [b1,b2,b3,b4] x2):ab M w (xL (some ⟨K,0,none⟩) 2 2) [x1,x2]:=by
 refine⟨[[a1,a2,a3,a4],[b1,b2,b3,b4]],⟨rfl,some ⟨K,0,none⟩,2,rfl,bq,by unfold maxLen;omega,λ_=>⟨K,0,rfl,hM,(Qaa.1 h).1,λj u hu=> ?_⟩⟩,rfl,λi cs x hc hx=> ?_⟩
 .simp only[World.cell?,h,Nat.zero_add];simpa using hu
 .match i,hc,hx with
  |0,hc,hx=>cases hc;cases hx;exact r1
  |1,hc,hx=>cases hc;cases hx;exact r2
  |i+2,hc,hx=>simp at hc
def C2(M:aS)(w:aj)(hM:Bd M w)(c:az)(fv vv:an)(x:aB)(b:Bool)(g1 g2:an)(many:Int)(p:Nat)(pre post:List ay)(f:ay)(vs:List au)(ha:iy c x.field pre f post)(hk:x.kind=5)(h8:c.fields.length<=8)(GZ:aF x.type=true)(hg:iZ M c many x.type x.expr w g1)(Lc:iZ M c many x.type x.other w g2)(hG:Gd w)
 (hp:cI w p (rb c.name fv x pre.length b g1 g2))(hv:aW c.fields many vs)(dt:ab M w vv vs):
 xG 255 #[xP p,vv] w λv w'=>∃us,gW c x many vs us/\ab M w' v us:=by
 have gO:p<w.heap.size:=(Qaa.1 hp).1;have HW:=af (cH hp);have og:c.fields[pre.length]? =some f:=by rw[ha.eq];simp
 have aX:pre.length<vs.length:=by rw[hv.1];exact(Qad.1 og).1
 have h8v:vs.length<=8:=by rw[hv.1];exact h8
 have HT:Hd (∀u1 u2,lW c x.type many x.expr vs u1->lW c x.type many x.other vs u2->gW c x many vs (vs.take pre.length++u1::u2::vs.drop (pre.length+1))):=λu1 u2 h1 h2=>Ic ha hk hv h1 h2;obtain⟨gf,lb,rfl,eg,JQ⟩:=hg;obtain⟨Zd,Ze,rfl,eg2,qbt⟩:=Lc;have HCg:=fV (w:=w) (λW hb=>JQ GZ M (λi h=>h) (λi h=> .inl h) W (ai.ao hb) vv vs (dt.below hb) hv (hM.below hb) (hG.below hb));have HCh:=fV (w:=w) (λW hb=>qbt GZ M (λi h=>h) (λi h=> .inl h) W (ai.ao hb) vv vs (dt.below hb) hv (hM.below hb) (hG.below hb));have oZ:Hd (∀W,aq w W->¬M W.heap.size):=λW hb h=>by have:=hM _ h;have:=hb.size;omega
 have np:=af hM;obtain⟨a0,c0,rfl,cK,qE,ho⟩:=dt.open_;obtain⟨fb,off,rfl,_⟩:=ho (by omega);obtain⟨n,hn⟩:=fx (vs.length);obtain⟨i,hi⟩:=fx (pre.length);rw[hi]at aX HT HW;rw[hn]at aX cK dt h8v HCg HCh⊢;have dB:=dt.upto hn (k:=i) (by omega);have jC:=dt.from_ hn (k:=i+1) (by omega);have s1:i<=c0:=by omega
 have s2:i+1<=n:=by omega
 have s3:i+1<=c0:=by omega
 have s5:(i:Int)<=(i:Int)+1:=by omega
 have s6:IntKind.i64.wrap ((i:Int)+1)=(i:Int)+1:=Qbe _ (by omega);have s7:(0:Int)<=(i:Int)+1:=by omega
 have s8:(i:Int)+1<=(n:Int):=by omega
 have s9:((i:Int)+1).toNat=i+1:=by omega
 have rS:ab M w (xL (if c0=i+1 then some ⟨fb,off,none⟩else some ⟨fb,off+(i+1)*4,none⟩) (n-(i+1)) (c0-(i+1))) (vs.drop (i+1)):=by
  simpa [Addr.add,show aA.size au=4 from rfl]using jC
 obtain⟨ap,Sc⟩:=fx ((if c0=i+1 then some (⟨fb,off,none⟩:Addr)else some ⟨fb,off+(i+1)*4,none⟩));rw[Sc]at rS;have DP:∀y∈vs.take i,y∈vs:=λy h=>List.mem_of_mem_take h;have DQ:∀y∈vs.drop (i+1),y∈vs:=λy h=>List.mem_of_mem_drop h;have cY:(vs.take i).length<=12:=by rw[Qdb];omega
 have dA:(vs.drop (i+1)).length<=12:=by rw[List.length_drop];omega
 obtain⟨l1,vi⟩:∃l,vs.take i=l:=⟨_,rfl⟩;obtain⟨l2,zU⟩:∃l,vs.drop (i+1)=l:=⟨_,rfl⟩;rw[vi]at dB DP cY HT;rw[zU]at rS DQ dA HT;have XR:=fV (w:=w) (λW hb=>kX hv DP cY M W _ (hM.below hb) (dB.below hb));have XS:=fV (w:=w) (λW hb=>kX hv DQ dA M W _ (hM.below hb) (rS.below hb));have J6:Hd (∀u1 u2 w2 W t v1 v2 v3,Bd M w2->dY W w2 (xK #[v1,v2,v3] t)->aq w2 W->ab M w2 v1 l1->ab M w2 v2 [u1,u2]->ab M w2 v3 l2->_):=λu1 u2 w2 W t v1 v2 v3 hM2 h1 h2 h3 h4 h5=>
  tr M W (hM2.below h2) w2.heap.size 3 [v1,v2,v3] [l1,[u1,u2],l2] (zG h1 h2 h3 h4 h5) rfl (by simp;omega) (by omega);have dn:Hd (∀W,aq w W->aU W p 10 (xI i)/\aU W p 12 (.func (.func gf) #[] lb)/\aU W p 13 (.func (.func Zd) #[] Ze)):=λW hb=>⟨(HW.o.below gO hb).ca,(HW.o.below gO hb).cc,(HW.o.below gO hb).cd⟩;have q1:=(dn.o _ dK).1;have q2:=(dn.o _ dK).2.1;have q3:=(dn.o _ dK).2.2;have HJ:Hd (aq w w):=dK;have Ar:Hd (∀u1 u2:au,[l1,[u1,u2],l2].flatten=l1++u1::u2::l2):=λu1 u2=>by simp
 clear dt ha hp og ho dB jC rS hM hv DP DQ vi zU cY dA JQ qbt hG;go_enter func255,ntmps255;go_upto_region 1 with fail;go_cut [5](λs5 wx=>∃(K:Nat)(u1 u2:au),s5=xL (some ⟨K,0,none⟩) 2 2/\Hd (lW c x.type many x.expr vs u1/\lW c x.type many x.other vs u2)/\Hd (ab M wx (xL (some ⟨K,0,none⟩) 2 2) [u1,u2]/\aq w wx));case first=>
  go_region_held3(λw'=>w'.cell? ⟨p,12,none⟩=some (.func (.func gf) #[] lb)/\w'.cell? ⟨p,13,none⟩=some (.func (.func Zd) #[] Ze))
   (with_reducible first|exact(dn.o _ HJ.o).2|exact(dn.o _ HJ.o.drew).2|exact(dn.o _ eM.o).2|exact(dn.o _ eM.o.drew).2|exact(dn.o _ cR.o).2|exact(dn.o _ cR.o.drew).2|exact(dn.o _ (cR.o.alloc cR.o.size _)).2|exact(dn.o _ ((cR.o.alloc cR.o.size _).drew)).2|exact(dn.o _ (cR.o.drew.alloc cR.o.size _)).2)
   (first
     |(with_reducible refine(HCg.o _ (by with_reducible first|exact HJ.o|exact HJ.o.drew)).mono ?_
       rintro e wa⟨_,rfl,⟨⟨yk,yn,ys,yl⟩,hy,cs,rfl,bU⟩,hb⟩;obtain⟨av,rfl,bo,j6⟩:=eN.iff.1 bU;obtain⟨ya,yc,rfl,_⟩:=bo.open_;have eM:Hd (aq w wa):=(by with_reducible first|exact af hb|exact af (AK hb));have fH:=af bU;have HY:=af hy;clear hb bU bo j6 hy)
     |(with_reducible refine(HCh.o _ (by with_reducible first|exact eM.o|exact eM.o.drew)).mono ?_
       rintro e wb⟨_,rfl,⟨⟨zk,zn,zs,zl⟩,hy,cs,rfl,bU⟩,hb⟩;obtain⟨av,rfl,bo,j6⟩:=eN.iff.1 bU;obtain⟨za,zc,rfl,_⟩:=bo.open_;have DV:Hd (aq wa wb):=(by with_reducible first|exact af hb|exact af (AK hb));have cR:Hd (aq w wb):=eM.o.trans (DV.o.mono eM.o.size);have qbu:=af (aA.ev fH.o (Ev.ao DV.o));have qes:=af bU;have HZ:=af hy;clear hb bU bo j6 hy));all_goals(go_wp2;go_meet)
  all_goals exact⟨_,_,_,rfl,af ⟨HY.o,HZ.o⟩,af ⟨P5 (Qbh wb _) (oZ.o _ cR.o) (aA.ev qbu.o (Ev.ao bO)) (aA.ev qes.o (Ev.ao bO)),cR.o.alloc cR.o.size _⟩⟩
 case rest=>
  obtain⟨K,u1,u2,rfl,HU,HV⟩:=hcut;obtain⟨w2,oo⟩:=cM (wc);subst oo;have HJ:Hd (aq w w2):=HV.o.2;have q1:=(dn.o _ HJ.o).1;go_upto_region 2 with fail;go_cut [4](λs4 wx=>Hd (ab M wx s4 (l1++u1::u2::l2)/\aq w wx));case first=>
   go_region_held3(λw'=>w'.cell? ⟨p,10,none⟩=some (xI i))
    (with_reducible first|exact(dn.o _ qN.o).1|exact(dn.o _ qN.o.drew).1|exact(dn.o _ HJ.o).1|exact(dn.o _ HJ.o.drew).1|exact(dn.o _ eM.o).1|exact(dn.o _ eM.o.drew).1|exact(dn.o _ cR.o).1|exact(dn.o _ cR.o.drew).1|exact(dn.o _ (cR.o.alloc cR.o.size _)).1|exact(dn.o _ ((cR.o.alloc cR.o.size _).drew)).1|exact(dn.o _ (cR.o.drew.alloc cR.o.size _)).1)
    (first
      |(go_at_call 273;with_reducible refine(XR.o _ (by with_reducible first|exact HJ.o|exact HJ.o.drew)).mono ?_
        rintro e wa⟨_,rfl,hs,hb⟩;obtain⟨a1,c1,rfl,_⟩:=hs.open_;have HSA:=af hs;have H2A:Hd (aq w2 wa):=(by with_reducible first|exact af hb|exact af (AK hb));have eM:Hd (aq w wa):=HJ.o.trans (H2A.o.mono HJ.o.size);clear hb hs)
      |(go_at_call 273;with_reducible refine(XS.o _ (by with_reducible first|exact eM.o|exact eM.o.drew)).mono ?_
        rintro e wb⟨_,rfl,hs,hb⟩;obtain⟨a2,c2,rfl,_⟩:=hs.open_;have HSB:=af hs;have DV:Hd (aq wa wb):=(by with_reducible first|exact af hb|exact af (AK hb));have cR:Hd (aq w wb):=eM.o.trans (DV.o.mono eM.o.size);have XT:=af (HSA.o.below DV.o);have HVb:=af ((HV.o.1.below H2A.o).below DV.o);have HMb:=af (np.o.below cR.o);clear hb hs)
      |(go_at_call 275;refine(J6.o u1 u2 wb _ _ _ _ _ HMb.o (by first|exact Qbh wb _|exact Qbh wb.drew _) (by first|with_reducible exact(Qbg _ wb).alloc bq _|exact bO.drew|exact(Qbg _ wb).drew.alloc bq _) XT.o HVb.o HSB.o).mono ?_;rintro e w1⟨_,rfl,hs,hb⟩;have HS:=af hs;have XU:Hd (aq wb w1):=(by with_reducible first|exact af (AK hb)|exact af (Tp hb)|exact af (Tq hb)|exact af (oB0 hb));have qN:Hd (aq w w1):=cR.o.trans (XU.o.mono cR.o.size);clear hs hb));all_goals(go_wp2;go_meet)
   all_goals exact af ⟨by rw[<-Ar.o];exact HS.o,qN.o⟩
  case rest=>
   have hs:=hcut.o.1.open_;obtain⟨sa,sc,rfl,_⟩:=hs;go_wp2;go_ret;exact⟨_,rfl,⟨_,HT.o _ _ HU.o.1 HU.o.2,hcut.o.1⟩,hcut.o.2⟩
def KR {n:Nat}{xs:List au}(h:aP M base e w (xL a n cap) xs){x:au}(hx:xs[i]? =some x):
 ∃g c0 c1 c2 c3,a=some ⟨g,0,none⟩/\base<=g/\g<w.heap.size/\(w.cell? ⟨g,i*4,none⟩=some c0/\w.cell? ⟨g,i*4+1,none⟩=some c1/\w.cell? ⟨g,i*4+2,none⟩=some c2/\w.cell? ⟨g,i*4+3,none⟩=some c3)/\∀j,w.frozen? ⟨g,j,none⟩=false:=by
 obtain⟨css,h1,h2,h3⟩:=h;have zV:=(Qad.1 hx).1;obtain⟨cs,bD⟩:=dQ css i (by omega);have hlen:∀(k:Nat)(c:List Value),css[k]? =some c->c.length=4:=λk c hc=>by
  obtain⟨z,hz⟩:=dQ xs k (by rw[<-h2];exact(Qad.1 hc).1);exact aA.len (h3 k c z hc hz)
 obtain⟨hl,hv|⟨g,fq,cur,hv,hg,hh,hn,hm,hs,A6⟩⟩:=h1
 .have:=hv.2;omega
 .injection hv with ha hn' hc';have GA:=(Qaa.1 hh).1;have G:∀(j:Nat)(u:Value),cs[j]? =some u->w.cell? ⟨g,i*4+j,none⟩=some u:=λj u hj=>by
   have h4:=kO hlen i cs j u bD hj;rw[<-A6]at h4;have h5:cur.toList[i*4+j]? =some u:=by
    rw[List.getElem?_take]at h4;split at h4
    .exact h4
    .cases h4
   simp only[World.cell?,hh];simpa using h5
  obtain⟨k,n,s,l⟩:=x;obtain⟨lv,rfl,_⟩:=eN.iff.1 (h3 i cs _ bD hx);exact⟨g,_,_,_,_,ha,hg,GA,⟨G 0 _ rfl,G 1 _ rfl,G 2 _ rfl,G 3 _ rfl⟩,λj=>ag hh j⟩
theorem aP.val {n:Nat}{xs:List au}(h:aP M base e w (xL (some ⟨g,0,none⟩) n cap) xs)(hi:i<xs.length){k m:Int}{ca:Nat}
 (hl:ab (bB (xL (some ⟨g,0,none⟩) n cap) M) w (xL a l.length ca) l)(hs:s.size<=maxLen):
 aP M base e ((((w.setCell ⟨g,i*4,none⟩ (xI k)).setCell ⟨g,i*4+1,none⟩ (xI m)).setCell ⟨g,i*4+2,none⟩ (xS s)).setCell ⟨g,i*4+3,none⟩ (xL a l.length ca)) (xL (some ⟨g,0,none⟩) n cap) (xs.set i (.mk k m s l)):=by
 obtain⟨⟨k0,m0,s0,l0⟩,hx⟩:=dQ xs i hi;have Ci:∀y:au,(xs.set i y)[i]? =some y:=λy=>List.getElem?_set_self hi;have A1:=aP.cell h hx (j:=0) (by decide) (xI k) (y:= .mk k m0 s0 l0) (λcs W hr _=>by
  obtain⟨lv,rfl,h1,h2⟩:=eN.iff.1 hr;exact eN.iff.2 ⟨lv,rfl,h1,h2⟩);have A2:=aP.cell A1 (Ci _) (j:=1) (by decide) (xI m) (y:= .mk k m s0 l0) (λcs W hr _=>by
  obtain⟨lv,rfl,h1,h2⟩:=eN.iff.1 hr;exact eN.iff.2 ⟨lv,rfl,h1,h2⟩);rw[List.set_set]at A2;have A3:=aP.cell A2 (Ci _) (j:=2) (by decide) (xS s) (y:= .mk k m s l0) (λcs W hr _=>by
  obtain⟨lv,rfl,h1,h2⟩:=eN.iff.1 hr;exact eN.iff.2 ⟨lv,rfl,h1,hs⟩);rw[List.set_set]at A3;have NS:=hl.ev ((((Ev.refl _ _).setCell (p:=⟨g,i*4,none⟩) (.inl (.inr rfl)) (xI k)).setCell (p:=⟨g,i*4+1,none⟩) (.inl (.inr rfl)) (xI m)).setCell (p:=⟨g,i*4+2,none⟩) (.inl (.inr rfl)) (xS s));have A4:=aP.cell A3 (Ci _) (j:=3) (by decide) (xL a l.length ca) (y:= .mk k m s l) (λcs W hr hE=>by
  obtain⟨lv,rfl,h1,h2⟩:=eN.iff.1 hr;exact eN.iff.2 ⟨_,rfl,NS.ev hE,h2⟩);rw[List.set_set]at A4;exact A4
def FI(M:aS)(w:aj)(hM:Bd M w)(c:az)(fv vv:an)(x:aB)(b:Bool)(g1 g2:an)(many:Int)(p:Nat)(pre post:List ay)(f:ay)(vs:List au)(ha:iy c x.field pre f post)(hk:x.kind=4)(h8:c.fields.length<=8)(GZ:aF x.type=true)
 (hg:iZ M c many x.type x.expr w g1)(hG:Gd w)(hp:cI w p (rb c.name fv x pre.length b g1 g2))(hv:aW c.fields many vs)(dt:ab M w vv vs):
 xG 252 #[xP p,vv] w λv w'=>∃us,gW c x many vs us/\ab M w' v us:=by
 have gO:p<w.heap.size:=(Qaa.1 hp).1;have HW:=af (cH hp);have og:c.fields[pre.length]? =some f:=by rw[ha.eq];simp
 have aX:pre.length<vs.length:=by rw[hv.1];exact(Qad.1 og).1
 have h8v:vs.length<=8:=by rw[hv.1];exact h8
 have HT:Hd (∀v,lW c x.type many x.expr vs v->gW c x many vs (vs.set pre.length v)):=λv h1=>by
  rw[List.set_eq_take_append_cons_drop,if_pos aX];exact LR ha hk hv h1
 obtain⟨gf,lb,rfl,eg,JQ⟩:=hg;have XR:=af (wg hv (us:=vs) (λ_ h=>h) (by omega) M w vv hM dt);have XS:Hd (∀(N:aS)W,(∀i,M i->N i)->(∀i,N i->M i\/w.heap.size<=i)->Bd N W->aq w W->_):=λN W h1 h2 h3 hb=>JQ GZ N h1 h2 W (ai.ao hb) vv vs (dt.ev ⟨ai.ao hb,h2⟩) hv h3 (hG.below hb);have dn:Hd (∀W,aq w W->aU W p 10 (xI pre.length)/\aU W p 12 (.func (.func gf) #[] lb)):=λW hb=>⟨(HW.o.below gO hb).ca,(HW.o.below gO hb).cc⟩;obtain⟨y0,hy0⟩:=dQ vs pre.length aX;have HY0:=af hy0;have np:=af hM;obtain⟨i,hi⟩:=fx (pre.length);rw[hi]at aX HT dn HY0;obtain⟨a0,c0,rfl,cK,qE,ho⟩:=dt.open_;go_enter func252,ntmps252;go_wp2_with fail;refine(XR.o).mono ?_;rintro e wa⟨_,rfl,hs,hb⟩;obtain⟨a1,c1,rfl,_⟩:=hs.open_;have HA:=af hs;have eM:=af hb;obtain⟨g,_,_,_,_,rfl,hgw,_⟩:=KR hs HY0.o;have HBd:=af (CB HA.o (np.o.below eM.o));have rU:Hd (∀i,M i->bB (xL (some ⟨g,0,none⟩) vs.length c1) M i):=λi h=> .inl h;have qz:Hd (∀i,bB (xL (some ⟨g,0,none⟩) vs.length c1) M i->M i\/w.heap.size<=i):=λi h=>h.imp_right λh=>(HA.o.dU i h).1;have q1:=(dn.o _ eM.o).1;have q2:=(dn.o _ eM.o).2;go_upto_region 2 with fail;go_region_law(first
  |(try go_simp
    go_loud(refine(XS.o (bB (xL (some ⟨g,0,none⟩) vs.length c1) M) wa.drew rU.o qz.o HBd.o eM.o.drew).mono ?_);rintro e wb⟨_,rfl,⟨⟨yk,yn,ys,yl⟩,hy,cs,rfl,bU⟩,hb⟩;obtain⟨av,rfl,bo,j6⟩:=eN.iff.1 bU;obtain⟨ya,yc,rfl,_⟩:=bo.open_;have DV:Hd (aq wa wb):=(by with_reducible first|exact af hb|exact af (AK hb));have cR:Hd (aq w wb):=eM.o.trans (DV.o.mono eM.o.size);have HAb:=af (HA.o.below DV.o);have eE:=af bo;have wB:=af j6;have HY:=af hy;have k1:=(dn.o _ cR.o).1;have k2:=(dn.o _ cR.o).2;obtain⟨gb,v0,v1,v2,v3,K8,_,_,⟨z0,z1,z2,z3⟩,oU⟩:=KR HAb.o HY0.o;obtain rfl:g=gb:=by injection K8 with K8;injection K8
    have f0:=oU (i*4);have f1:=oU (i*4+1);have f2:=oU (i*4+2);have f3:=oU (i*4+3);clear hb bU bo j6 hy oU));all_goals
  go_wp2;go_ret;exact⟨_,rfl,⟨_,HT.o _ HY.o,(aP.val HAb.o aX eE.o wB.o).slice np.o⟩,(((cR.o.setCell (p:=⟨g,i*4,none⟩) hgw _).setCell (p:=⟨g,i*4+1,none⟩) hgw _).setCell (p:=⟨g,i*4+2,none⟩) hgw _).setCell (p:=⟨g,i*4+3,none⟩) hgw _⟩
def wM(k:Int):Nat:=if k=1 then 242 else if k=2 then 245 else if k=3 then 248 else if k=4 then 251 else if k=5 then 254 else 257
def tD(k:Int):Nat:=if k=1 then 243 else if k=2 then 246 else if k=3 then 249 else if k=4 then 252 else if k=5 then 255 else 249
def BV(h:qq w b p){k:Int}(hk:k=1\/k=2\/k=3\/k=4\/k=5\/k=6):(Instr.lookup 318 (.map (some b)) (xI k) false).run prog w= .ok (jm p (AL k) (wM k) (tD k)) w:=by
 obtain⟨es,clk,h0,h1,h2,h3,h4,h5,h6⟩:=h;rcases hk with rfl|rfl|rfl|rfl|rfl|rfl
 .exact kL h0 _ _ h1
 .exact kL h0 _ _ h2
 .exact kL h0 _ _ h3
 .exact kL h0 _ _ h4
 .exact kL h0 _ _ h5
 .exact kL h0 _ _ h6
def FJ(hb:jf c x=true)(hk:x.kind≠1):hasB c x.field=true:=by
 unfold jf at hb;rw[if_neg hk]at hb;repeat'(split at hb)
 all_goals simp_all
def Jg(M:aS)(w:aj)(hM:Bd M w)(c:az)(hc:cA c)(fv:an)(x:aB)(hx:qT c x)(hb:jf c x=true)(g1 g2:an)(p:Nat)
 (hp:cI w p (rb c.name fv x (qI c x) (hasB c x.field) g1 g2))(bR:ab M w fv c.fields):
 xC (wM x.kind) #[xP p] w (bW w λv w'=>ab M w' v (bT c x).fields):=by
 have h8:=((bc c).1 hc.right).2.1;have Gh:c.fields.length<=8:=by omega
 by_cases h1:x.kind=1
 .rw[h1];exact Wj M w hM c fv x _ _ _ _ p h1 hx.s2 Gh hp bR
 .have hh:=FJ hb h1;obtain⟨pre,f,post,ha⟩:=nC hc.right hh;rw[hh,show qI c x=(pre.length:Int)by unfold qI;rw[ha.at_,if_neg (by omega)]]at hp;have hk:x.kind=2\/x.kind=3\/x.kind=4\/x.kind=5\/x.kind=6:=by have:=hx.sh;simp only[nB]at this;omega
  rcases hk with hk|hk|hk|hk|hk<;>rw[hk]
  .exact Tu M w hM c fv x _ _ _ p pre post f ha hk Gh hp bR
  .exact Mv M w hM c fv x _ _ _ p pre post f ha hk hx.s2 Gh hp bR
  .exact PF M w hM c fv x _ _ _ p pre post f ha hk Gh hp bR
  .exact P4 M w hM c fv x _ _ _ p pre post f ha hk hx.s2 hx.s3 Gh hp bR
  .exact Mw M w hM c fv x _ _ _ p pre post f ha hk Gh hp bR
def P6(M:aS)(w:aj)(hM:Bd M w)(c:az)(hc:cA c)(fv vv:an)(x:aB)(hx:qT c x)(hb:jf c x=true)(g1 g2:an)(many:Int)(p:Nat)(vs:List au)
 (hg:iZ M c many x.type x.expr w g1)(Lc:iZ M c many x.type x.other w g2)(hG:Gd w)
 (hp:cI w p (rb c.name fv x (qI c x) (hasB c x.field) g1 g2))(hv:aW c.fields many vs)(dt:ab M w vv vs):
 xC (tD x.kind) #[xP p,vv] w (bW w λv w'=>∃us,gW c x many vs us/\ab M w' v us):=by
 have h8:=((bc c).1 hc.right).2.1;have Gh:c.fields.length<=8:=by omega
 by_cases h1:x.kind=1
 .rw[h1];exact Jf M w hM c fv vv x _ _ _ _ many p vs h1 Gh (hx.type (.inl h1)) hp hg hG hv dt
 .have hh:=FJ hb h1;obtain⟨pre,f,post,ha⟩:=nC hc.right hh;rw[hh,show qI c x=(pre.length:Int)by unfold qI;rw[ha.at_,if_neg (by omega)]]at hp;have hk:x.kind=2\/x.kind=3\/x.kind=4\/x.kind=5\/x.kind=6:=by have:=hx.sh;simp only[nB]at this;omega
  rcases hk with hk|hk|hk|hk|hk<;>rw[hk]
  .exact FH M w hM c fv vv x _ _ _ many p pre post f vs ha hk Gh hp hv dt
  .exact wh M w hM c vv x many p pre post f vs ha (.inl hk) Gh hv dt
  .exact FI M w hM c fv vv x _ _ _ many p pre post f vs ha hk Gh (hx.type (.inr (.inl hk))) hg hG hp hv dt
  .exact C2 M w hM c fv vv x _ _ _ many p pre post f vs ha hk Gh (hx.type (.inr (.inr hk))) hg Lc hG hp hv dt
  .exact wh M w hM c vv x many p pre post f vs ha (.inr hk) Gh hv dt
def Dg(x:UK)(hf:x.find=false)(w:aj)(v:an)(hq:CV w v x):
 xG 8 #[v] w λu w'=>∃(q:rK)(sv:an),u=rL q sv/\pP q/\ab xF w' sv q.steps:=by
 obtain⟨⟨sa,va,sc,vc,rfl,cm,Uu⟩,hn,-,-,-,qa⟩:=hq;obtain⟨root,qcl,lH⟩:=lY x.name hn;obtain⟨i0,dz,dX,cY,dA⟩:=info_parts Mz;have oZ:=af lH;have Nq:=af (show root.size<=maxLen by unfold maxLen;omega);have fu:Hd (∀(j:Nat)(t:Int),x.steps[j]? =some t->_):=λj t hj=>iF cm hj;have HNF:Hd (∀t∈x.steps,∃s:aT,_):=λt ht=>lY (t.tdiv 3) ((qa t ht).quo (by omega));have Lg:Hd (∀t∈x.steps,∀W,_):=λt ht W=>nM (t.tdiv 3) 4 W ((qa t ht).quo (by omega)) (by omega) (by omega);have Cf:=af qa;have bo:x.steps.length<=9223372036854775807:=by obtain⟨_,_,e,h1,h2,_⟩:=cm.open_;cases e;omega
 obtain⟨find,name,steps,field,op,k,n,s,l⟩:=x;dsimp only at*;subst hf;generalize l.length=vl at*;generalize ud:steps.length=ml at*;have HML:=af ud;clear ud;clear cm Uu hn qa lH qcl;go_enter func8,ntmps8;go_wp2_with fail;refine cG (oZ.o _) λw1 aC=> ?_;have aO:=af ((Bx.dh w (NJ false name (xL sa ml sc) field op k n s (xL va vl vc)) (uW 0 ⟨#[]⟩ (xL none 0 0) ⟨#[]⟩ ⟨#[]⟩ ⟨#[]⟩ 0 0 ⟨#[]⟩ (xL none 0 0))).below aC);have s1:=aO.o.bY;simp only[Qcc,Qcd]at s1;clear aC;go_upto_region 3 with fail;obtain⟨K,hK⟩:=cM (w1.heap.size);obtain⟨W1,dS⟩:=cM (w1.alloc (uW 1 root (xL none 0 0) ⟨#[]⟩ ⟨#[]⟩ ⟨#[]⟩ 0 0 ⟨#[]⟩ (xL none 0 0)));have jX:=af (show zr w (NJ false name (xL sa ml sc) field op k n s (xL va vl vc)) (uW 0 ⟨#[]⟩ (xL none 0 0) ⟨#[]⟩ ⟨#[]⟩ ⟨#[]⟩ 0 0 ⟨#[]⟩ (xL none 0 0)) K root 0 0 none [] W1 by
  rw[dS,hK];exact⟨rfl,Qbh w1 _,aP.nil _ _ _ _,aO.o.alloc _,by omega⟩);unfold uW at dS;rw[<-dS,<-hK];clear dS hK aO;go_wp2;go_loopg [4]5(λg iv wr=>∃(i c:Nat)(a:dC)(sts:List lj),i<=5/\g=5-i/\iv=xI i/\Hd (zr w (NJ false name (xL sa ml sc) field op k n s (xL va vl vc)) (uW 0 ⟨#[]⟩ (xL none 0 0) ⟨#[]⟩ ⟨#[]⟩ ⟨#[]⟩ 0 0 ⟨#[]⟩ (xL none 0 0)) K root i c a sts wr));case atStart=>exact⟨0,0,none,[],Qbf _,rfl,rfl,jX⟩
 case round=>
  clear jX;obtain⟨i,c,a,sts,hi,rfl,rfl,HS⟩:=hrel;rename World=>wr;obtain⟨c0,c1,c2,c3,c4,c5,c6,c7,c8⟩:=mZ (HS.o.bx.bJ rfl);have hex:ml<=i\/(i<ml/\¬(i:Int)<5)\/(i<ml/\(i:Int)<5):=by omega
  rcases hex with hex|⟨hex,Uy⟩|⟨hex,Uy⟩;rotate_left 2
  .obtain⟨t,hx⟩:=dQ steps i (by rw[HML.o];exact hex);have htm:=Qaf hx;obtain⟨b,off,cap,hv,cw,aw⟩:=fu.o i t hx;obtain⟨rfl,rfl⟩:=gY hv;have g0:=aw wr HS.o.bx.1;obtain⟨k0,k1,k2,k3,k4,k5,k6,k7,k8,k9⟩:=eQ HS.o.blk;have f2:=ag HS.o.blk 2;have hKr:=HS.o.lt;have Vb:=HS.o.hK;have iJ:=af HS.o.len;have HP:=af (Lg.o t htm);obtain⟨fn,qft,qcm⟩:=HNF.o t htm;have HF:=af qcm;have HFZ:=af (show fn.size<=maxLen by unfold maxLen;omega);have hI:=Cf.o t htm;have hw3:IntKind.i64.wrap (t.tdiv 3)=t.tdiv 3:=Qbe _ (hI.quo (by omega));obtain⟨hI1,hI2⟩:=hI;clear hv cw aw hx htm qft qcm;rw[show(4:Int).toNat=4 from rfl]at HP;have hp4:=cq (t.tdiv 3) 4 (by omega);generalize aH (t.tdiv 3) 4=p4 at*;by_cases h3:t.tmod 3=0
   .have HFZ:=af (show(⟨#[]⟩:aT).size<=maxLen by unfold maxLen;decide);have fQ:Hd (aq wr wr.drew):=(Qbg _ wr).drew;have n1:∀o,(wr.drew.alloc o).cell? ⟨K,2,none⟩=some (xL a i c):=λo=>bF _ _ _ k2;go_upto_region 7 with fail;go_region_law(first
     |(go_simp;go_at_call 33;refine dJ (HP.o _) ?_)
     |(refine cO (α:=lj) rfl _ _ _ rfl xF (K+1) 85 i0 _ 24 underlying47 dz dX cY dA rfl (by decide) (.slice a i c) sts rfl ((HS.o.acc.below fQ.o).alloc _) (λ_=>True) _ _ ⟨⟨#[]⟩,(p4:Int)⟩ rfl (b9 _ _ _ _ rfl trivial) ⟨rfl,HFZ.o⟩ (by rw[iJ.o];unfold maxLen;omega) (by rw[iJ.o];omega) (by have:=fQ.o.size;simp;omega) ?_;rw[iJ.o];intro a2 c2 w3 gx rV bG;have lM:=af gx;have bI:=af bG;have l2:=(HS.o.Ay fQ.o bG).1;have l3:=(HS.o.Ay fQ.o bG).2;clear gx rV bG)
     |fail);all_goals
     go_wp2;go_roundg(5-(i+1));case measure=>omega
     case rel=>exact⟨i+1,c2,a2,_,by omega,rfl,by go_num,(HS.o.put fQ.o lM.o bI.o)⟩
   .go_upto_region 8 with fail;go_region_law(first
     |(go_simp;go_at_call 32;refine cG (HF.o _) λw2 aY=> ?_;have fQ:Hd (aq wr w2):=((Qbg _ wr).drew.trans aY);have j1:aU w2 K 2 (xL a i c):=(fQ.o.cell (p:=⟨K,2,none⟩) (by show K<_;omega)).trans k2;have n1:∀o,(w2.alloc o).cell? ⟨K,2,none⟩=some (xL a i c):=λo=>bF _ _ _ j1;clear aY)
     |(refine cO (α:=lj) rfl _ _ _ rfl xF (K+1) 85 i0 _ 24 underlying47 dz dX cY dA rfl (by decide) (.slice a i c) sts rfl ((HS.o.acc.below fQ.o).alloc _) (λ_=>True) _ _ ⟨fn,0⟩ rfl (b9 _ _ _ _ rfl trivial) ⟨rfl,HFZ.o⟩ (by rw[iJ.o];unfold maxLen;omega) (by rw[iJ.o];omega) (by have:=fQ.o.size;simp;omega) ?_;rw[iJ.o];intro a2 c2 w3 gx rV bG;have lM:=af gx;have bI:=af bG;have l2:=(HS.o.Ay fQ.o bG).1;have l3:=(HS.o.Ay fQ.o bG).2;clear gx rV bG)
     |fail);all_goals
     go_wp2;go_roundg(5-(i+1));case measure=>omega
     case rel=>exact⟨i+1,c2,a2,_,by omega,rfl,by go_num,(HS.o.put fQ.o lM.o bI.o)⟩
  all_goals
   obtain⟨W9,Ck⟩:=cM (((((((((((wr.setCell ⟨w.heap.size+1,0,none⟩ (xI 1)).setCell ⟨w.heap.size+1,1,none⟩ (xS root)).setCell ⟨w.heap.size+1,2,none⟩ (xL a i c)).setCell ⟨w.heap.size+1,3,none⟩ (xS ⟨#[]⟩)).setCell ⟨w.heap.size+1,4,none⟩ (xS ⟨#[]⟩)).setCell ⟨w.heap.size+1,5,none⟩ (xS ⟨#[]⟩)).setCell ⟨w.heap.size+1,6,none⟩ (xI 0)).setCell ⟨w.heap.size+1,7,none⟩ (xI 0)).setCell ⟨w.heap.size+1,8,none⟩ (xS ⟨#[]⟩)).setCell ⟨w.heap.size+1,9,none⟩ (xL none 0 0)));have aC:=HS.o.bx.cE rfl;unfold uW at aC;obtain⟨⟨r0,r1,r2,r3,r4,r5,r6,r7,r8,r9⟩,GF,xQ⟩:=xy aC Ck;obtain⟨k0,k1,k2,k3,k4,k5,k6,k7,k8,k9⟩:=eQ HS.o.blk;obtain⟨z0,z1,z2,z3,z4,z5,z6,z7,z8,z9⟩:=eQ (HS.o.bx.cE rfl);obtain⟨g0,g1,g2,g3,g4,g5,g6,g7⟩:=Yp aC;have g8:=ag aC 8;have g9:=ag aC 9;have HF:=af (HS.o.fin Nq.o GF xQ);clear GF xQ aC;go_wp2_with fail;rw[<-Ck];clear Ck;exact Qae (v:= .agg #[xI 1,xS root,xL a i c,xS ⟨#[]⟩,xS ⟨#[]⟩,xS ⟨#[]⟩,xI 0,xI 0,xS ⟨#[]⟩,xL none 0 0]) (by simp[results,results8,go_sem,r0,r1,r2,r3,r4,r5,r6,r7,r8,r9]) rfl HF.o
def Di(cls field op s:aT)(k n:Int)(a:dC)(m c:Nat)(w:aj):xC 66 #[.agg #[xI 2,xS ⟨#[]⟩,xL none 0 0,xS cls,xS field,xS op,xI k,xI n,xS s,xL a m c]] w (cN (xB true) w):=by
 have HB:=af (Bx.dR w (xK #[xI 2,xS ⟨#[]⟩,xL none 0 0,xS cls,xS field,xS op,xI k,xI n,xS s,xL a m c] 49));go_enter func66,ntmps66;go_wp2;go_ret;exact⟨rfl,HB.o.1⟩
def Ni {v4 v5 v6 v7 v8 v9:an}(h:cI W b (xK #[v0,v1,v2,v3,v4,v5,v6,v7,v8,v9] t)):
 aU W b 0 v0/\aU W b 1 v1/\aU W b 2 v2/\aU W b 3 v3/\aU W b 4 v4/\aU W b 5 v5/\aU W b 6 v6/\aU W b 7 v7/\aU W b 8 v8/\aU W b 9 v9:=
 ⟨cell_of_heap h rfl,cell_of_heap h rfl,cell_of_heap h rfl,cell_of_heap h rfl,cell_of_heap h rfl,cell_of_heap h rfl,cell_of_heap h rfl,cell_of_heap h rfl,cell_of_heap h rfl,cell_of_heap h rfl⟩
def Dj(M:aS)(w:aj)(cls field op s:aT)(gw:cls.size<=20)(Aj:field.size<=20)(hf:(field.toList==[])=false)(k n:Int)(l:List au)(a:dC)(c:Nat)(h:bS M w (.agg #[xI k,xI n,xS s,xL a l.length c]) (au.mk k n s l)):
 xC 34 #[.agg #[xI 2,xS ⟨#[]⟩,xL none 0 0,xS cls,xS field,xS op,xI k,xI n,xS s,xL a l.length c]] w λe w'=>RS (k≠5/\l=[]) e/\aq w w':=by
 have HB:=af (Bx.dR w (xK #[xI 2,xS ⟨#[]⟩,xL none 0 0,xS cls,xS field,xS op,xI k,xI n,xS s,xL a l.length c] 49));have HV:=fV (w:=w) (λW hb=>Dh (w:=W) (h.below hb));have HZ:Hd (∀W,_):=λW=>Di cls field op s k n a l.length c W;have rU:Hd (∀W,xC 67 #[xS cls] W λe w'=>∃b,e=xR (xB b)/\W=w'):=λW=>(eR _ cls W rfl (by unfold maxLen;omega)).mono λe w' h=>⟨_,h⟩;have qz:Hd (∀W,xC 67 #[xS field] W λe w'=>∃b,e=xR (xB b)/\W=w'):=λW=>(eR _ field W rfl (by unfold maxLen;omega)).mono λe w' h=>⟨_,h⟩;generalize l.length=m at*;go_enter func34,ntmps34;go_wp2_with fail;refine cG (HZ.o _) λw1 aC=> ?_;have aO:=af (HB.o.below aC);obtain⟨c0,c1,c2,c3,c4,c5,c6,c7,c8,c9⟩:=Ni (aO.o.bJ rfl);go_wp2_with fail;refine(rU.o _).mono ?_;rintro e w2⟨b1,rfl,rfl⟩;cases b1
 .go_wp2;go_ret;exact⟨fA _,aO.o.1⟩
 go_wp2_with fail;refine(qz.o _).mono ?_;rintro e w3⟨b2,rfl,rfl⟩;cases b2
 .go_wp2;go_ret;exact⟨fA _,aO.o.1⟩
 have HVX:=af (HV.o _ aO.o.1);by_cases h1:(op.toList==[61])=true;rotate_left;by_cases h2:(op.toList==[60])=true;rotate_left;by_cases h3:(op.toList==[62])=true;rotate_left
 .go_wp2;go_ret;exact⟨fA _,aO.o.1⟩
 all_goals
  go_wp2_with fail;refine(HVX.o).mono ?_;rintro e w4⟨⟨b,rfl,kD⟩,dT⟩;have eH:=af (aO.o.below dT).1;have iA:=af kD;cases b
  .go_wp2;go_ret;exact⟨fA _,eH.o⟩
  .go_wp2;go_ret;exact⟨ij (iA.o (by simp)) _,eH.o⟩
def Z9(k:Nat):aT:=([⟨#[61]⟩,⟨#[60]⟩,⟨#[62]⟩]:List aT).getD k ⟨#[]⟩
def Ws(h:k<3):(#[xS ⟨#[61]⟩,xS ⟨#[60]⟩,xS ⟨#[62]⟩]:Array an)[k]? =some (xS (Z9 k)):=by
 rcases k with _|_|_|k<;>first|rfl|omega
def TM(h:k<3):(Z9 k).size<=maxLen:=by
 unfold maxLen;rcases k with _|_|_|k<;>first|(show 1<=_;omega)|omega
structure rR(w:aj)(o0 o1 o2:Obj)(K:Nat)(wr:aj):Prop where
 blk:wr.heap[K]? =some o2
 bx:Bx w [o0,o1] wr
 hK:w.heap.size+2<=K
section
variable {w wr W:aj}{o0 o1 o2:Obj}{K:Nat}
theorem rR.lt(h:rR w o0 o1 o2 K wr):K<wr.heap.size:=(Qaa.1 h.blk).1
theorem rR.below(h:rR w o0 o1 o2 K wr)(hb:aq wr W):rR w o0 o1 o2 K W:=⟨(hb.block K h.lt).trans h.blk,h.bx.below hb,h.hK⟩
theorem rR.set {cs:Array an}(h:rR w o0 o1 (.cells cs t (0,0)) K wr)(j:Nat)(v:an):rR w o0 o1 (.cells (cs.setIfInBounds j v) t (0,0)) K (wr.setCell ⟨K,j,none⟩ v):=
 ⟨Qca wr K j _ _ v h.blk,h.bx.cP (B:=K) (dK.setCell (Qab K) _) (by have:=h.hK;simp;omega),h.hK⟩
theorem rR.fin(h:rR w o0 o1 o2 K wr){c f o:aT}{k n:Int}(hc:c.size<=maxLen)(hf:f.size<=maxLen)(ho:o.size<=maxLen)(hs:s.size<=maxLen)(hk:k≠5)(hb:Below (w.heap.size+1) wr W):bW w (λu w'=>∃(q:rK)(sv:an),u=rL q sv/\pP q/\ab xF w' sv q.steps) (xR (.agg #[xI 2,xS ⟨#[]⟩,xL none 0 0,xS c,xS f,xS o,xI k,xI n,xS s,xL a 0 cap])) W:=by
 have hz:(⟨#[]⟩:aT).size<=maxLen:=by unfold maxLen;decide
 exact⟨_,rfl,⟨⟨2,⟨#[]⟩,[],c,f,o,k,n,s,a,cap⟩,_,rfl,⟨hz,hc,hf,ho,hs,hk⟩,ab.nil _ _⟩,h.bx.1.trans (hb.mono (Nat.le_succ _))⟩
end
def Dk(x:UK)(hf:x.find=true)(w:aj)(v:an)(hq:CV w v x):
 xG 8 #[v] w λu w'=>∃(q:rK)(sv:an),u=rL q sv/\pP q/\ab xF w' sv q.steps:=by
 obtain⟨⟨sa,va,sc,vc,rfl,cm,Uu⟩,hn,AX,hop,NV,-⟩:=hq;obtain⟨cls,gw,lH⟩:=lY x.name hn;obtain⟨fl,Aj,WU⟩:=lY (x.field.tdiv 4) (AX.quo (by omega));have oZ:=af lH;have HNF:=af WU;have NU:=af (show cls.size<=maxLen/\fl.size<=maxLen/\(⟨#[]⟩:aT).size<=maxLen by unfold maxLen;exact⟨by omega,by omega,by decide⟩);have RL:Hd (x.s.size<=maxLen):=sU Uu;have JJ:Hd (∀W,_):=λW=>nM x.op 3 W hop (by omega) (by omega);have qcn:Hd (∀W,_):=λW=>nM x.n 40 W NV (by omega) (by omega);have HR:Hd (∀o W,aq w W->_):=λo W hb=>Dj xF W cls fl o x.s gw.1 Aj.1 Aj.2 x.k x.n x.l va vc (Uu.below hb);have Du:=cq x.op 3 (by omega);have qh8:=cq x.n 40 (by omega);have mC:Hd ((Z9 (aH x.op 3)).size<=maxLen):=TM Du;have aG:∀(W:aj)(t:TypeId),(W.alloc (xK #[xS ⟨#[61]⟩,xS ⟨#[60]⟩,xS ⟨#[62]⟩] t)).cell? ⟨W.heap.size,aH x.op 3,none⟩=some (xS (Z9 (aH x.op 3))):=λW t=>by
  simp only[World.cell?,Qbh];exact Ws Du
 rw[show(3:Int).toNat=3 from rfl]at JJ;rw[show(40:Int).toNat=40 from rfl]at qcn;have HFQ:Hd (I6 (x.field.tdiv 4)):=AX.quo (by omega);clear AX;obtain⟨find,name,steps,field,op,k,n,s,l⟩:=x;dsimp only at*;subst hf;generalize Q8:l.length=vl at*;generalize steps.length=ml at*;generalize aH op 3=p3 at*;generalize Z9 p3=o3 at*;generalize aH n 40=Yl at*;have hq3:(p3:Int)<3:=by omega
 have qh9:(0:Int)<=(p3:Int):=Qba _;have qia:IntKind.i64.wrap ((Yl:Int)-20)=(Yl:Int)-20:=Qbe _ (by omega);have JO:=af Q8;have tP:=af aG;clear cm Uu hn hop NV lH WU gw Aj Q8 aG;go_enter func8,ntmps8;go_wp2_with fail;refine cG (oZ.o _) λw1 aC=> ?_;have aO:=af ((Bx.dh w (NJ true name (xL sa ml sc) field op k n s (xL va vl vc)) (uW 0 ⟨#[]⟩ (xL none 0 0) ⟨#[]⟩ ⟨#[]⟩ ⟨#[]⟩ 0 0 ⟨#[]⟩ (xL none 0 0))).below aC);have s1:=aO.o.bY;simp only[Qcc,Qcd]at s1;clear aC;go_upto_region 11 with fail;obtain⟨K,hK⟩:=cM (w1.heap.size);obtain⟨W1,dS⟩:=cM (w1.alloc (uW 2 ⟨#[]⟩ (xL none 0 0) cls ⟨#[]⟩ ⟨#[]⟩ 0 0 ⟨#[]⟩ (xL none 0 0)));have HS:=af (show rR w (NJ true name (xL sa ml sc) field op k n s (xL va vl vc)) (uW 0 ⟨#[]⟩ (xL none 0 0) ⟨#[]⟩ ⟨#[]⟩ ⟨#[]⟩ 0 0 ⟨#[]⟩ (xL none 0 0)) (uW 2 ⟨#[]⟩ (xL none 0 0) cls ⟨#[]⟩ ⟨#[]⟩ 0 0 ⟨#[]⟩ (xL none 0 0)) K W1 by
  rw[dS,hK];exact⟨Qbh w1 _,aO.o.alloc _,by omega⟩);unfold uW at dS;rw[<-dS,<-hK];clear dS hK aO;obtain⟨c0,c1,c2,c3,c4,c5,c6,c7,c8⟩:=mZ (HS.o.bx.bJ rfl);by_cases h4:field.tmod 4=0
 .obtain⟨W9,Ck⟩:=cM (((((((((((W1.setCell ⟨w.heap.size+1,0,none⟩ (xI 2)).setCell ⟨w.heap.size+1,1,none⟩ (xS ⟨#[]⟩)).setCell ⟨w.heap.size+1,2,none⟩ (xL none 0 0)).setCell ⟨w.heap.size+1,3,none⟩ (xS cls)).setCell ⟨w.heap.size+1,4,none⟩ (xS ⟨#[]⟩)).setCell ⟨w.heap.size+1,5,none⟩ (xS ⟨#[]⟩)).setCell ⟨w.heap.size+1,6,none⟩ (xI 0)).setCell ⟨w.heap.size+1,7,none⟩ (xI 0)).setCell ⟨w.heap.size+1,8,none⟩ (xS ⟨#[]⟩)).setCell ⟨w.heap.size+1,9,none⟩ (xL none 0 0)));have aC:=HS.o.bx.cE rfl;unfold uW at aC;obtain⟨⟨r0,r1,r2,r3,r4,r5,r6,r7,r8,r9⟩,GF,xQ⟩:=xy aC Ck;obtain⟨k0,k1,k2,k3,k4,k5,k6,k7,k8,k9⟩:=eQ HS.o.blk;obtain⟨z0,z1,z2,z3,z4,z5,z6,z7,z8,z9⟩:=eQ (HS.o.bx.cE rfl);obtain⟨g0,g1,g2,g3,g4,g5,g6,g7⟩:=Yp aC;have g8:=ag aC 8;have g9:=ag aC 9;have HF:=af (HS.o.fin (W:=W9) (n:=0) (a:=none) (cap:=0) NU.o.1 NU.o.2.2 NU.o.2.2 NU.o.2.2 (show(0:Int)≠5 by decide) xQ);clear GF xQ aC;go_wp2_with fail;rw[<-Ck];clear Ck;exact Qae (v:= .agg #[xI 2,xS ⟨#[]⟩,xL none 0 0,xS cls,xS ⟨#[]⟩,xS ⟨#[]⟩,xI 0,xI 0,xS ⟨#[]⟩,xL none 0 0]) (by simp[results,results8,go_sem,r0,r1,r2,r3,r4,r5,r6,r7,r8,r9]) rfl HF.o
 .have hw4:IntKind.i64.wrap (field.tdiv 4)=field.tdiv 4:=Qbe _ HFQ.o;go_wp2_with fail;refine cG (HNF.o _) λw2 aY=> ?_;have eB:=af (HS.o.below aY);obtain⟨k0,k1,k2,k3,k4,k5,k6,k7,k8,k9⟩:=eQ eB.o.blk;have y4:=ag eB.o.blk 4;clear aY HS c0 c1 c2 c3 c4 c5 c6 c7 c8;go_upto_region 14 with fail;obtain⟨W3,lK⟩:=cM (w2.setCell ⟨K,4,none⟩ (xS fl));have iq:=af (show rR w (NJ true name (xL sa ml sc) field op k n s (xL va vl vc)) (uW 0 ⟨#[]⟩ (xL none 0 0) ⟨#[]⟩ ⟨#[]⟩ ⟨#[]⟩ 0 0 ⟨#[]⟩ (xL none 0 0)) (uW 2 ⟨#[]⟩ (xL none 0 0) cls fl ⟨#[]⟩ 0 0 ⟨#[]⟩ (xL none 0 0)) K W3 by rw[lK];exact eB.o.set 4 _);rw[<-lK];clear lK eB k0 k1 k2 k3 k4 k5 k6 k7 k8 k9 y4;obtain⟨c0,c1,c2,c3,c4,c5,c6,c7,c8⟩:=mZ (iq.o.bx.bJ rfl);have n4:∀o,(W3.alloc o).cell? ⟨w.heap.size,4,none⟩=some (xI op):=λo=>bF _ _ _ c4;go_wp2_with fail;obtain⟨W4,lR⟩:=cM (W3.alloc (xK #[xS ⟨#[61]⟩,xS ⟨#[60]⟩,xS ⟨#[62]⟩] 9));have gw:=tP.o W3 9;have jV:=af (show rR w (NJ true name (xL sa ml sc) field op k n s (xL va vl vc)) (uW 0 ⟨#[]⟩ (xL none 0 0) ⟨#[]⟩ ⟨#[]⟩ ⟨#[]⟩ 0 0 ⟨#[]⟩ (xL none 0 0)) (uW 2 ⟨#[]⟩ (xL none 0 0) cls fl ⟨#[]⟩ 0 0 ⟨#[]⟩ (xL none 0 0)) K W4 by rw[lR];exact iq.o.below bO);rw[<-lR]at gw⊢;clear lR n4 c0 c1 c2 c3 c4 c5 c6 c7 c8;refine dJ (JJ.o _) ?_;obtain⟨c0,c1,c2,c3,c4,c5,c6,c7,c8⟩:=mZ (jV.o.bx.bJ rfl);obtain⟨k0,k1,k2,k3,k4,k5,k6,k7,k8,k9⟩:=eQ jV.o.blk;have y5:=ag jV.o.blk 5;have y6:=ag jV.o.blk 6;have y7:=ag jV.o.blk 7;have y8:=ag jV.o.blk 8;have y9:=ag jV.o.blk 9;have iG:w.heap.size≠K:=by have:=jV.o.hK;omega
  go_upto_region 16 with fail;obtain⟨W6,tQ⟩:=cM (((((W4.setCell ⟨K,5,none⟩ (xS o3)).setCell ⟨K,6,none⟩ (xI k)).setCell ⟨K,7,none⟩ (xI n)).setCell ⟨K,8,none⟩ (xS s)).setCell ⟨K,9,none⟩ (xL va vl vc));have Gw:=af (show rR w (NJ true name (xL sa ml sc) field op k n s (xL va vl vc)) (uW 0 ⟨#[]⟩ (xL none 0 0) ⟨#[]⟩ ⟨#[]⟩ ⟨#[]⟩ 0 0 ⟨#[]⟩ (xL none 0 0)) (uW 2 ⟨#[]⟩ (xL none 0 0) cls fl o3 k n s (xL va vl vc)) K W6 by rw[tQ];exact((((jV.o.set 5 _).set 6 _).set 7 _).set 8 _).set 9 _);rw[<-tQ];clear tQ gw jV iq iG c0 c1 c2 c3 c4 c5 c6 c7 c8 k0 k1 k2 k3 k4 k5 k6 k7 k8 k9 y5 y6 y7 y8 y9;obtain⟨k0,k1,k2,k3,k4,k5,k6,k7,k8,k9⟩:=eQ Gw.o.blk;go_wp2_with fail;refine(HR.o _ _ Gw.o.bx.1).mono ?_;rintro e w7⟨⟨b,rfl,kD⟩,iK⟩;have tS:=af (Gw.o.below iK);have iA:=af kD;clear kD iK Gw k0 k1 k2 k3 k4 k5 k6 k7 k8 k9;cases b
  .obtain⟨c0,c1,c2,c3,c4,c5,c6,c7,c8⟩:=mZ (tS.o.bx.bJ rfl);obtain⟨k0,k1,k2,k3,k4,k5,k6,k7,k8,k9⟩:=eQ tS.o.blk;have y6:=ag tS.o.blk 6;have y7:=ag tS.o.blk 7;have y8:=ag tS.o.blk 8;have y9:=ag tS.o.blk 9;go_wp2_with fail;refine dJ (qcn.o _) ?_;go_upto_region 18 with fail;obtain⟨W8,Ll⟩:=cM ((((w7.setCell ⟨K,6,none⟩ (xI 1)).setCell ⟨K,7,none⟩ (xI ((Yl:Int)-20))).setCell ⟨K,8,none⟩ (xS ⟨#[]⟩)).setCell ⟨K,9,none⟩ (xL none 0 0));have An:=af (show rR w (NJ true name (xL sa ml sc) field op k n s (xL va vl vc)) (uW 0 ⟨#[]⟩ (xL none 0 0) ⟨#[]⟩ ⟨#[]⟩ ⟨#[]⟩ 0 0 ⟨#[]⟩ (xL none 0 0)) (uW 2 ⟨#[]⟩ (xL none 0 0) cls fl o3 1 ((Yl:Int)-20) ⟨#[]⟩ (xL none 0 0)) K W8 by rw[Ll];exact(((tS.o.set 6 _).set 7 _).set 8 _).set 9 _);rw[<-Ll];clear Ll tS c0 c1 c2 c3 c4 c5 c6 c7 c8 k0 k1 k2 k3 k4 k5 k6 k7 k8 k9 y6 y7 y8 y9;obtain⟨W9,Ck⟩:=cM (((((((((((W8.setCell ⟨w.heap.size+1,0,none⟩ (xI 2)).setCell ⟨w.heap.size+1,1,none⟩ (xS ⟨#[]⟩)).setCell ⟨w.heap.size+1,2,none⟩ (xL none 0 0)).setCell ⟨w.heap.size+1,3,none⟩ (xS cls)).setCell ⟨w.heap.size+1,4,none⟩ (xS fl)).setCell ⟨w.heap.size+1,5,none⟩ (xS o3)).setCell ⟨w.heap.size+1,6,none⟩ (xI 1)).setCell ⟨w.heap.size+1,7,none⟩ (xI ((Yl:Int)-20))).setCell ⟨w.heap.size+1,8,none⟩ (xS ⟨#[]⟩)).setCell ⟨w.heap.size+1,9,none⟩ (xL none 0 0)));have aC:=An.o.bx.cE rfl;unfold uW at aC;obtain⟨⟨r0,r1,r2,r3,r4,r5,r6,r7,r8,r9⟩,GF,xQ⟩:=xy aC Ck;obtain⟨k0,k1,k2,k3,k4,k5,k6,k7,k8,k9⟩:=eQ An.o.blk;obtain⟨z0,z1,z2,z3,z4,z5,z6,z7,z8,z9⟩:=eQ (An.o.bx.cE rfl);obtain⟨g0,g1,g2,g3,g4,g5,g6,g7⟩:=Yp aC;have g8:=ag aC 8;have g9:=ag aC 9;have HF:=af (An.o.fin (W:=W9) (n:=(Yl:Int)-20) (a:=none) (cap:=0) NU.o.1 NU.o.2.1 mC.o NU.o.2.2 (show(1:Int)≠5 by decide) xQ);clear GF xQ aC;go_wp2_with fail;rw[<-Ck];clear Ck;exact Qae (v:= .agg #[xI 2,xS ⟨#[]⟩,xL none 0 0,xS cls,xS fl,xS o3,xI 1,xI ((Yl:Int)-20),xS ⟨#[]⟩,xL none 0 0]) (by simp[results,results8,go_sem,r0,r1,r2,r3,r4,r5,r6,r7,r8,r9]) rfl HF.o
  .have rz:=iA.o rfl;have Sh:vl=0:=by rw[<-JO.o,rz.2];rfl
   have uh:=af rz.1;subst Sh;clear rz;obtain⟨W9,Ck⟩:=cM (((((((((((w7.setCell ⟨w.heap.size+1,0,none⟩ (xI 2)).setCell ⟨w.heap.size+1,1,none⟩ (xS ⟨#[]⟩)).setCell ⟨w.heap.size+1,2,none⟩ (xL none 0 0)).setCell ⟨w.heap.size+1,3,none⟩ (xS cls)).setCell ⟨w.heap.size+1,4,none⟩ (xS fl)).setCell ⟨w.heap.size+1,5,none⟩ (xS o3)).setCell ⟨w.heap.size+1,6,none⟩ (xI k)).setCell ⟨w.heap.size+1,7,none⟩ (xI n)).setCell ⟨w.heap.size+1,8,none⟩ (xS s)).setCell ⟨w.heap.size+1,9,none⟩ (xL va 0 vc)));have aC:=tS.o.bx.cE rfl;unfold uW at aC;obtain⟨⟨r0,r1,r2,r3,r4,r5,r6,r7,r8,r9⟩,GF,xQ⟩:=xy aC Ck;obtain⟨k0,k1,k2,k3,k4,k5,k6,k7,k8,k9⟩:=eQ tS.o.blk;obtain⟨z0,z1,z2,z3,z4,z5,z6,z7,z8,z9⟩:=eQ (tS.o.bx.cE rfl);obtain⟨g0,g1,g2,g3,g4,g5,g6,g7⟩:=Yp aC;have g8:=ag aC 8;have g9:=ag aC 9;have HF:=af (tS.o.fin (W:=W9) (n:=n) (a:=va) (cap:=vc) NU.o.1 NU.o.2.1 mC.o RL.o uh.o xQ);clear GF xQ aC;go_wp2_with fail;rw[<-Ck];clear Ck;exact Qae (v:= .agg #[xI 2,xS ⟨#[]⟩,xL none 0 0,xS cls,xS fl,xS o3,xI k,xI n,xS s,xL va 0 vc]) (by simp[results,results8,go_sem,r0,r1,r2,r3,r4,r5,r6,r7,r8,r9]) rfl HF.o
end
end Go.Proofs.YtccpcfcochffcaaGreatDoor
