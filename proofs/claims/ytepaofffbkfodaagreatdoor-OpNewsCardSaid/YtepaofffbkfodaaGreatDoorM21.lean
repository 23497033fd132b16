/- A part; no condition. -/
import Derived.Test.YtepaofffbkfodaaGreatDoorM20
set_option linter.all false
set_option maxHeartbeats 8000000
set_option maxRecDepth 100000
namespace Go.Proofs.YtepaofffbkfodaaGreatDoor
open Go.Proofs.Tryz
open Go.RowKit Go.Shelf
variable{t e:TypeId}{v1 v2 v3 a1 a2 a3:aA}{w W w':ax}{M:aV}{us vs l:List aJ}{ay:Int}{o:Obj}{f:aH}{K i cap base g b p:Nat}{a:fx}{s:aY}{x:aN}{c:aI}
def Eh {α:Type} [aD α]{l1 l2:List α}(hW:dk W w (xK #[v1,v2] t))(hb:aC w W)(h1:ab M w v1 l1)(h2:ab M w v2 l2):tP M W w [v1,v2] [l1,l2]:=by
 refine⟨rfl,(Qaa.1 hW).1,λi v hv=> ?_,λi v l hv hl=> ?_⟩
 .simp only[World.cell?,hW];simpa using hv
 .match i,hv,hl with
  |0,hv,hl=>cases hv;cases hl;exact h1.ae hb
  |1,hv,hl=>cases hv;cases hl;exact h2.ae hb
  |i+2,hv,hl=>simp at hv
def yd {α:Type} [aD α]{l1 l2 l3:List α}(hW:dk W w (xK #[v1,v2,v3] t))(hb:aC w W)(h1:ab M w v1 l1)(h2:ab M w v2 l2)(h3:ab M w v3 l3):tP M W w [v1,v2,v3] [l1,l2,l3]:=by
 refine⟨rfl,(Qaa.1 hW).1,λi v hv=> ?_,λi v l hv hl=> ?_⟩
 .simp only[World.cell?,hW];simpa using hv
 .match i,hv,hl with
  |0,hv,hl=>cases hv;cases hl;exact h1.ae hb
  |1,hv,hl=>cases hv;cases hl;exact h2.ae hb
  |2,hv,hl=>cases hv;cases hl;exact h3.ae hb
  |i+3,hv,hl=>simp at hv
def R4(M:aV)(w:ax)(hM:Bd M w)(c:aI)(fv:aA)(x:aN)(b:Bool)(g1 g2:aA)(p:Nat)(pre post:List aH)(f:aH)(ha:iI c x.field pre f post)(hk:x.an=2)(h8:c.ah.length<=8)
 (hp:bW w p (qE c.ai fv x pre.length b g1 g2))(hfs:ab M w fv c.ah):
 xG 294 #[xP p] w λv w'=>ab M w' v (cw c x).ah:=by
 have iy:p<w:=(Qaa.1 hp).1;have HW:=ag (cU hp);have q1:=HW.o.c1;have q2:=HW.o.ca;have hat:c.ah[pre.length]? =some f:=by rw[ha.eq];simp
 have bH:pre.length<c.ah.length:=(Qad.1 hat).1;have pL:=ag (show(cw c x).ah=[c.ah.take pre.length,c.ah.drop (pre.length+1)].flatten by
  rw[fA ha (by omega),ha.eq];simp[jb,hk]);obtain⟨a0,c0,rfl,cY,hmx,ho⟩:=hfs.aq;obtain⟨fb,off,rfl,_⟩:=ho (by omega);have⟨n,hn⟩:=jN (c.ah.length);have⟨i,hi⟩:=jN (pre.length);rw[hi]at bH pL q2;rw[hn]at bH q1 cY hfs h8;have I5:Hd (∀W t v1 v2,dk W w (xK #[v1,v2] t)->aC w W->ab M w v1 (c.ah.take i)->ab M w v2 (c.ah.drop (i+1))->_):=λW t v1 v2 h1 h2 h3 h4=>
  oZ M W (hM.ae h2) w 2 [v1,v2] [c.ah.take i,c.ah.drop (i+1)] (Eh h1 h2 h3 h4) rfl (by simp;omega) (by omega);have qL:=ag (hfs.upto hn (k:=i) (by omega));have hs2:=hfs.from_ hn (k:=i+1) (by omega);have s1:i<=c0:=by omega
 have s2:i+1<=n:=by omega
 have s3:i+1<=c0:=by omega
 have s5:(i:Int)<=(i:Int)+1:=by omega
 have s6:IntKind.i64.wrap ((i:Int)+1)=(i:Int)+1:=Qbe _ (by omega);have s7:(0:Int)<=(i:Int)+1:=by omega
 have s8:(i:Int)+1<=(n:Int):=by omega
 have s9:((i:Int)+1).toNat=i+1:=by omega
 have gn:=ag (show ab M w (xL (if c0=i+1 then some ⟨fb,off,none⟩else some ⟨fb,off+(i+1)*4,none⟩) (n-(i+1)) (c0-(i+1))) (c.ah.drop (i+1))by
  simpa [Addr.add,show aD.size aH=4 from rfl]using hs2);have⟨ap,hap⟩:=jN ((if c0=i+1 then some (⟨fb,off,none⟩:Addr)else some ⟨fb,off+(i+1)*4,none⟩));rw[hap]at gn;clear hfs ha hp hat ho hs2;go_enter func294,ntmps294;go_wp2_with fail;go_region_with(go_at_call 332;refine(I5.o _ _ _ _ (by first|exact Qbh w _|exact Qbh w.drew _) (by first|exact bU.drew|exact(Qbg _ w).drew.alloc bT _) qL.o gn.o).mono ?_;rintro e w1⟨_,rfl,hs,hb⟩;have HS:=ag hs;have HB:=ag (show aC w w1 by first|exact(bU.drew).trans (hb.mono (by simp))|exact((Qbg _ w).drew.alloc bT _).trans (hb.mono (by simp)));clear hs hb);all_goals
  go_wp2;go_ret;exact⟨_,rfl,by rw[pL.o];exact HS.o,HB.o⟩
def zo(h:Nat)(l:List aJ)(hl:l.length<=12)(hx:∀x∈l,xd h x)(M:aV)(w:ax)(v:aA)(hM:Bd M w)(hs:ab M w v l):xG 331 #[v] w λv' w'=>aS M w 44 w' v' l:=by
 cases h with
 |zero=>
  exact l8 l hl (λx hm=>by
   rw[show x.list=[]from hx x hm];exact kJ [] (by simp) λy hy=>by cases hy) M w v hM hs
 |succ h=>exact l8 l hl (λx hm=>nC h x.list (hx x hm).1 (hx x hm).2) M w v hM hs
def uS {fs:List aH}(h:bA fs ay vs)(hu:∀x∈us,x∈vs)(hl:us.length<=12)(M:aV)(w:ax)(v:aA)(hM:Bd M w)(hs:ab M w v us):xC 331 #[v] w (cm w λv' w'=>aS M w 44 w' v' us):=
 zo 1 us hl (λx hx=>by
  have⟨f,_,hv⟩:=fj h x (hu x hx);exact nB hv) M w v hM hs
def uT(M:aV)(w:ax)(hM:Bd M w)(c:aI)(vv:aA)(x:aN)(ay:Int)(p:Nat)(pre post:List aH)(f:aH)(vs:List aJ)(ha:iI c x.field pre f post)(hk:x.an=3\/x.an=6)(h8:c.ah.length<=8)
 (hv:bA c.ah ay vs)(hvs:ab M w vv vs):
 xG 298 #[xP p,vv] w λv w'=>∃us,gZ c x ay vs us/\ab M w' v us:=by
 have hl:vs.length<=12:=by rw[hv.1];omega
 have HC:=ag (lg hv (us:=vs) (λ_ h=>h) hl M w vv hM hvs);have HT:=ag (KP ha hk hv);obtain⟨a0,c0,rfl,_⟩:=hvs.aq;go_enter func298,ntmps298;go_wp2_with fail;refine(HC.o).mono ?_;rintro e w1⟨_,rfl,hs,hb⟩;obtain⟨a1,c1,rfl,_⟩:=hs.aq;have HS:=ag hs;have HB:=ag hb;go_wp2;go_ret;exact⟨_,rfl,⟨_,HT.o,HS.o⟩,HB.o⟩
def oB0(hb:Below (w.alloc o).heap.size (w.alloc o) w'):aC w w':=((Qbg _ w).alloc bT o).trans (hb.mono (by show w.heap.size<=(w.alloc o).heap.size;simp))
def Ei(M:aV)(w:ax)(hM:Bd M w)(c:aI)(fv vv:aA)(x:aN)(b:Bool)(g1 g2:aA)(ay:Int)(p:Nat)(pre post:List aH)(f:aH)(vs:List aJ)(ha:iI c x.field pre f post)(hk:x.an=2)(h8:c.ah.length<=8)
 (hp:bW w p (qE c.ai fv x pre.length b g1 g2))(hv:bA c.ah ay vs)(hvs:ab M w vv vs):
 xG 295 #[xP p,vv] w λv w'=>∃us,gZ c x ay vs us/\ab M w' v us:=by
 have iy:p<w:=(Qaa.1 hp).1;have HW:=ag (cU hp);have hat:c.ah[pre.length]? =some f:=by rw[ha.eq];simp
 have bH:pre.length<vs.length:=by rw[hv.1];exact(Qad.1 hat).1
 have h8v:vs.length<=8:=by rw[hv.1];exact h8
 have HT:=ag (KO ha hk hv);have lF:=ag hM;obtain⟨a0,c0,rfl,cY,hmx,ho⟩:=hvs.aq;obtain⟨fb,off,rfl,_⟩:=ho (by omega);have⟨n,hn⟩:=jN (vs.length);have⟨i,hi⟩:=jN (pre.length);rw[hi]at bH HT HW;rw[hn]at bH cY hvs h8v⊢;have hs1:=hvs.upto hn (k:=i) (by omega);have hs2:=hvs.from_ hn (k:=i+1) (by omega);have s1:i<=c0:=by omega
 have s2:i+1<=n:=by omega
 have s3:i+1<=c0:=by omega
 have s5:(i:Int)<=(i:Int)+1:=by omega
 have s6:IntKind.i64.wrap ((i:Int)+1)=(i:Int)+1:=Qbe _ (by omega);have s7:(0:Int)<=(i:Int)+1:=by omega
 have s8:(i:Int)+1<=(n:Int):=by omega
 have s9:((i:Int)+1).toNat=i+1:=by omega
 have qK:ab M w (xL (if c0=i+1 then some ⟨fb,off,none⟩else some ⟨fb,off+(i+1)*4,none⟩) (n-(i+1)) (c0-(i+1))) (vs.drop (i+1)):=by
  simpa [Addr.add,show aD.size aJ=4 from rfl]using hs2
 have⟨ap,hap⟩:=jN ((if c0=i+1 then some (⟨fb,off,none⟩:Addr)else some ⟨fb,off+(i+1)*4,none⟩));rw[hap]at qK;have ht1:∀y∈vs.take i,y∈vs:=λy h=>List.mem_of_mem_take h;have ht2:∀y∈vs.drop (i+1),y∈vs:=λy h=>List.mem_of_mem_drop h;have hz1:(vs.take i).length<=12:=by rw[Qdb];omega
 have hz2:(vs.drop (i+1)).length<=12:=by rw[List.length_drop];omega
 obtain⟨l1,hl1⟩:∃l,vs.take i=l:=⟨_,rfl⟩;obtain⟨l2,hl2⟩:∃l,vs.drop (i+1)=l:=⟨_,rfl⟩;rw[hl1]at hs1 ht1 hz1 HT;rw[hl2]at qK ht2 hz2 HT;have Wn:=gQ (w:=w) (λW hb=>lg hv ht1 hz1 M W _ (hM.ae hb) (hs1.ae hb));have Wo:=gQ (w:=w) (λW hb=>lg hv ht2 hz2 M W _ (hM.ae hb) (qK.ae hb));have I5:Hd (∀w2 W t v1 v2,Bd M w2->dk W w2 (xK #[v1,v2] t)->aC w2 W->ab M w2 v1 l1->ab M w2 v2 l2->_):=λw2 W t v1 v2 hM2 h1 h2 h3 h4=>
  sB M W (hM2.ae h2) w2 2 [v1,v2] [l1,l2] (Eh h1 h2 h3 h4) rfl (by simp;omega) (by omega);have dD:Hd (∀W,aC w W->bJ W p 10 i):=λW hb=>(HW.o.ae iy hb).ca;have q1:=(dD.o _ dS);have HJ:Hd (aC w w):=dS;have Kc:=ag (show [l1,l2].flatten=l1++l2 by simp);go_enter func295,ntmps295;go_upto_region 1 with fail;go_cut [4](λs4 wx=>Hd (ab M wx s4 (l1++l2)/\aC w wx));case first=>
  go_region_held3(λw'=>w'.cell? (p,10)=some (xI i))
   (with_reducible first|exact dD.o _ rh.o|exact dD.o _ rh.o.drew|exact dD.o _ HJ.o|exact dD.o _ HJ.o.drew|exact dD.o _ fI.o|exact dD.o _ fI.o.drew|exact dD.o _ dP.o|exact dD.o _ dP.o.drew|exact dD.o _ (dP.o.alloc dP.o.size _)|exact dD.o _ ((dP.o.alloc dP.o.size _).drew)|exact dD.o _ (dP.o.drew.alloc dP.o.size _))
   (first
     |(go_at_call 331;with_reducible refine(Wn.o _ (by with_reducible first|exact HJ.o|exact HJ.o.drew)).mono ?_
       rintro e wa⟨_,rfl,hs,hb⟩;obtain⟨a1,c1,rfl,_⟩:=hs.aq;have HSA:=ag hs;have fI:Hd (aC w wa):=(by with_reducible first|exact ag hb|exact ag (Hq hb));clear hb hs)
     |(go_at_call 331;with_reducible refine(Wo.o _ (by with_reducible first|exact fI.o|exact fI.o.drew)).mono ?_
       rintro e wb⟨_,rfl,hs,hb⟩;obtain⟨a2,c2,rfl,_⟩:=hs.aq;have S0:=ag hs;have CN:Hd (aC wa wb):=(by with_reducible first|exact ag hb|exact ag (Hq hb));have dP:Hd (aC w wb):=fI.o.trans (CN.o.mono fI.o.size);have Wp:=ag (HSA.o.ae CN.o);have HMb:=ag (lF.o.ae dP.o);clear hb hs)
     |(go_at_call 333;refine(I5.o wb _ _ _ _ HMb.o (by first|exact Qbh wb _|exact Qbh wb.drew _) (by first|with_reducible exact(Qbg _ wb).alloc bT _|exact bU.drew|exact(Qbg _ wb).drew.alloc bT _) Wp.o S0.o).mono ?_;rintro e w1⟨_,rfl,hs,hb⟩;have HS:=ag hs;have Q9:Hd (aC wb w1):=(by with_reducible first|exact ag (Hq hb)|exact ag (YM hb)|exact ag (YN hb)|exact ag (oB0 hb));have rh:Hd (aC w w1):=dP.o.trans (Q9.o.mono dP.o.size);clear hs hb));all_goals(go_wp2;go_meet)
  all_goals exact ag ⟨by rw[<-Kc.o];exact HS.o,rh.o⟩
 case rest=>
  have hs:=hcut.o.1.aq;obtain⟨sa,sc,rfl,_⟩:=hs;go_wp2;go_ret;exact⟨_,rfl,⟨_,HT.o,hcut.o.1⟩,hcut.o.2⟩
def Hr(M:aV)(w:ax)(hM:Bd M w)(c:aI)(fv vv:aA)(x:aN)(a:Int)(b:Bool)(g1 g2:aA)(ay:Int)(p:Nat)(vs:List aJ)(hk:x.an=1)(h8:c.ah.length<=8)(FN:aR x.type=true)
 (hp:bW w p (qE c.ai fv x a b g1 g2))(hg:jg M c ay x.type x.cX w g1)(hG:Gd w)(hv:bA c.ah ay vs)(hvs:ab M w vv vs):
 xG 292 #[xP p,vv] w λv w'=>∃us,gZ c x ay vs us/\ab M w' v us:=by
 have⟨i0,hi0,hz0,hz1,hz2⟩:=info_parts ie;have iy:p<w:=(Qaa.1 hp).1;have HW:=ag (cU hp);have h8v:vs.length<=8:=by rw[hv.1];exact h8
 have HT:=ag (λv(ht:lS c x.type ay x.cX vs v)=>N2 hk hv ht);obtain⟨gf,lb,rfl,eg,IW⟩:=hg;have Wn:=gQ (w:=w) (λW hb=>uS hv (us:=vs) (λ_ h=>h) (by omega) M W vv (hM.ae hb) (hvs.ae hb));have Wo:Hd (∀(N:aV)W,(∀i,M i->N i)->(∀i,N i->M i\/w.heap.size<=i)->Bd N W->aC w W->_):=λN W h1 h2 h3 hb=>IW FN N h1 h2 W (ao.az hb) vv vs (hvs.ev ⟨ao.az hb,h2⟩) hv h3 (hG.ae hb);have dD:Hd (∀W,aC w W->bJ W p 12 (.func (.func gf) #[] lb)):=λW hb=>(HW.o.ae iy hb).cc;obtain⟨a0,c0,rfl,cY,hmx,ho⟩:=hvs.aq;have q1:=(dD.o _ dS);have HJ:Hd (aC w w):=dS;have lF:=ag hM;go_enter func292,ntmps292;go_upto_region 1 with fail;go_cut [4](λs4 wx=>∃u,lS c x.type ay x.cX vs u/\Hd (ab M wx s4 (vs++[u])/\aC w wx));case first=>
  go_region_held3(λw'=>w'.cell? (p,12)=some (.func (.func gf) #[] lb))
   (with_reducible first|exact dD.o _ rh.o|exact dD.o _ rh.o.drew|exact dD.o _ HJ.o|exact dD.o _ HJ.o.drew|exact dD.o _ fI.o|exact dD.o _ fI.o.drew|exact dD.o _ dP.o|exact dD.o _ dP.o.drew|exact dD.o _ (dP.o.alloc dP.o.size _)|exact dD.o _ ((dP.o.alloc dP.o.size _).drew)|exact dD.o _ (dP.o.drew.alloc dP.o.size _))
   (first
     |(go_at_call 331;with_reducible refine(Wn.o _ (by with_reducible first|exact HJ.o|exact HJ.o.drew)).mono ?_
       rintro e wa⟨_,rfl,hs,hb⟩;obtain⟨a1,c1,rfl,_⟩:=hs.aq;have fI:Hd (aC w wa):=(by with_reducible first|exact ag hb|exact ag (Hq hb));have HA:=ag (hs.le (base':=w.heap.size) bT);have HBd:=ag (BE HA.o (lF.o.ae fI.o));have vL:Hd (∀i,M i->bu (xL a1 vs.length c1) M i):=λi h=> .inl h;have zA:Hd (∀i,bu (xL a1 vs.length c1) M i->M i\/w.heap.size<=i):=λi h=>h.imp_right λh=>(HA.o.cG i h).1;clear hb hs)
     |(refine(Wo.o (bu (xL a1 vs.length c1) M) _ vL.o zA.o HBd.o (by with_reducible first|exact fI.o|exact fI.o.drew)).mono ?_;rintro e wb⟨_,rfl,⟨⟨yk,yn,ys,yl⟩,hy,cs,rfl,hrep⟩,hb⟩;obtain⟨av,rfl,hsl,hss⟩:=eU.iff.1 hrep;obtain⟨ya,yc,rfl,_⟩:=hsl.aq;have CN:Hd (aC wa wb):=(by with_reducible first|exact ag hb|exact ag (Hq hb));have dP:Hd (aC w wb):=fI.o.trans (CN.o.mono fI.o.size);have HAb:=ag (HA.o.ae CN.o);have fq:=ag hrep;have HY:=ag hy;clear hb hrep hsl hss hy)
     |(refine dT (α:=aJ) rfl _ _ _ rfl M w 44 i0 _ 56 underlying42 hi0 hz0 hz1 hz2 rfl (by decide) (.slice a1 vs.length c1) vs rfl (HAb.o.alloc _) (λ_=>True) _ _ (.mk yk yn ys yl) rfl (cF _ _ _ _ rfl trivial) (aD.ev fq.o (Ev.az bU)) (by unfold maxLen;omega) (by omega) (by have:=dP.o.size;simp;omega) ?_;intro a2 c2 w2 bD dK bE;have dr:=ag bD;have rh:Hd (aC w w2):=(dP.o.alloc dP.o.size _).trans bE;clear bD dK bE));all_goals(go_wp2;go_meet)
  all_goals exact⟨_,HY.o,ag ⟨dr.o.slice lF.o,rh.o⟩⟩
 case rest=>
  obtain⟨u,ht,hc⟩:=hcut;have hs:=hc.o.1.aq;obtain⟨sa,sc,rfl,_⟩:=hs;go_wp2;go_ret;exact⟨_,rfl,⟨_,HT.o _ ht,hc.o.1⟩,hc.o.2⟩
def AB {g:aH}(h:bW w K (xK #[f.ai,f.type.an,f.type.of,xB f.indexed,g.ai,g.type.an,g.type.of,xB g.indexed] t))(hM:¬M K)(h1:f.ai.size<=maxLen)(h2:g.ai.size<=maxLen):ab M w (xL (K,0) 2 2) [f,g]:=by
 refine⟨[[xS f.ai,xI f.type.an,xI f.type.of,xB f.indexed],[xS g.ai,xI g.type.an,xI g.type.of,xB g.indexed]],⟨rfl,some ⟨K,0,none⟩,2,rfl,bT,by unfold maxLen;omega,λ_=>⟨K,0,rfl,hM,(Qaa.1 h).1,λj u hu=> ?_⟩⟩,rfl,λi cs x hc hx=> ?_⟩
 .simp only[World.cell?,h,Nat.zero_add];simpa using hu
 .match i,hc,hx with
  |0,hc,hx=>cases hc;cases hx;exact⟨rfl,h1⟩
  |1,hc,hx=>cases hc;cases hx;exact⟨rfl,h2⟩
  |i+2,hc,hx=>simp at hc
def O5(M:aV)(w:ax)(hM:Bd M w)(c:aI)(fv:aA)(x:aN)(b:Bool)(g1 g2:aA)(p:Nat)(pre post:List aH)(f:aH)(ha:iI c x.field pre f post)(hk:x.an=5)(MG:x.ai.size<=maxLen)(hx3:x.more.size<=maxLen)(h8:c.ah.length<=8)
 (hp:bW w p (qE c.ai fv x pre.length b g1 g2))(hfs:ab M w fv c.ah):
 xG 303 #[xP p] w λv w'=>ab M w' v (cw c x).ah:=by
 have iy:p<w:=(Qaa.1 hp).1;have HW:=ag (cU hp);have q1:=HW.o.c1;have q2:=HW.o.ca;have q4:=HW.o.c4;have q5:=HW.o.c5;have q6:=HW.o.c6;have q7:=HW.o.c7;have hat:c.ah[pre.length]? =some f:=by rw[ha.eq];simp
 have bH:pre.length<c.ah.length:=(Qad.1 hat).1;have pL:=ag (show(cw c x).ah=[c.ah.take pre.length,[⟨x.ai,x.type,false⟩,⟨x.more,x.type,false⟩],c.ah.drop (pre.length+1)].flatten by
  rw[fA ha (by omega),ha.eq];simp[jb,hk]);have eZ:Hd (x.ai.size<=maxLen/\x.more.size<=maxLen):=⟨MG,hx3⟩;have lF:=ag hM;obtain⟨a0,c0,rfl,cY,hmx,ho⟩:=hfs.aq;obtain⟨fb,off,rfl,_⟩:=ho (by omega);have⟨n,hn⟩:=jN (c.ah.length);have⟨i,hi⟩:=jN (pre.length);rw[hi]at bH pL q2 HW;rw[hn]at bH q1 cY hfs h8 HW;have I5:Hd (∀w2 W t v1 v2 v3,Bd M w2->dk W w2 (xK #[v1,v2,v3] t)->aC w2 W->ab M w2 v1 (c.ah.take i)->ab M w2 v2 [(⟨x.ai,x.type,false⟩:aH),⟨x.more,x.type,false⟩]->ab M w2 v3 (c.ah.drop (i+1))->_):=λw2 W t v1 v2 v3 hM2 h1 h2 h3 h4 h5=>
  oZ M W (hM2.ae h2) w2 3 [v1,v2,v3] [c.ah.take i,[⟨x.ai,x.type,false⟩,⟨x.more,x.type,false⟩],c.ah.drop (i+1)] (yd h1 h2 h3 h4 h5) rfl (by simp;omega) (by omega);have qL:=ag (hfs.upto hn (k:=i) (by omega));have hs2:=hfs.from_ hn (k:=i+1) (by omega);have s1:i<=c0:=by omega
 have s2:i+1<=n:=by omega
 have s3:i+1<=c0:=by omega
 have s5:(i:Int)<=(i:Int)+1:=by omega
 have s6:IntKind.i64.wrap ((i:Int)+1)=(i:Int)+1:=Qbe _ (by omega);have s7:(0:Int)<=(i:Int)+1:=by omega
 have s8:(i:Int)+1<=(n:Int):=by omega
 have s9:((i:Int)+1).toNat=i+1:=by omega
 have gn:=ag (show ab M w (xL (if c0=i+1 then some ⟨fb,off,none⟩else some ⟨fb,off+(i+1)*4,none⟩) (n-(i+1)) (c0-(i+1))) (c.ah.drop (i+1))by
  simpa [Addr.add,show aD.size aH=4 from rfl]using hs2);have⟨ap,hap⟩:=jN ((if c0=i+1 then some (⟨fb,off,none⟩:Addr)else some ⟨fb,off+(i+1)*4,none⟩));rw[hap]at gn;have dD:Hd (∀W,aC w W->bJ W p 1 (xL (fb,off) n c0)/\bJ W p 10 i):=λW hb=>by
  have h:=HW.o.ae iy hb;exact⟨h.c1,h.ca⟩
 clear hfs ha hp hat ho hs2 hM;go_enter func303,ntmps303;go_wp2_with fail;go_cut [3](λs3 wx=>∃K:Nat,s3=xL (K,0) 2 2/\Hd (ab M wx (xL (K,0) 2 2) [(⟨x.ai,x.type,false⟩:aH),⟨x.more,x.type,false⟩]/\aC w wx));case first=>
  have qW:Hd (¬M w):=λh=>by have:=lF.o _ h;omega
  go_region;all_goals(go_wp2;go_meet)
  all_goals exact⟨_,rfl,ag ⟨by first|exact AB (Qbh w _) qW.o eZ.o.1 eZ.o.2|exact AB (f:=⟨x.ai,x.type,false⟩) (g:=⟨x.more,x.type,false⟩) (Qbh w.drew _) qW.o eZ.o.1 eZ.o.2,by first|exact bU.drew|exact(Qbg _ w).drew.alloc bT _⟩⟩
 case rest=>
  obtain⟨K,rfl,HV⟩:=hcut;have⟨w2,hw2⟩:=bY (wc);subst hw2;have HSA:=ag (qL.o.ae HV.o.2);have S0:=ag (gn.o.ae HV.o.2);have Qc:=ag (lF.o.ae HV.o.2);have oy:Hd (∀W,aC w2 W->bJ W p 1 (xL (fb,off) n c0)/\bJ W p 10 i):=λW hb=>dD.o _ (HV.o.2.trans (hb.mono HV.o.2.size));have q1:=(oy.o _ dS).1;have q2:=(oy.o _ dS).2;have HJ:Hd (aC w2 w2):=dS;go_upto_region 2 with fail;go_cut [2](λs2 wx=>Hd (ab M wx s2 (cw c x).ah/\aC w2 wx));case first=>
   go_region_held3(λw'=>w'.cell? (p,1)=some (xL (fb,off) n c0)/\w'.cell? (p,10)=some (xI i))
    (with_reducible first|exact oy.o _ rh.o|exact oy.o _ rh.o.drew|exact oy.o _ HJ.o|exact oy.o _ HJ.o.drew|exact oy.o _ (HJ.o.alloc HJ.o.size _)|exact oy.o _ ((HJ.o.alloc HJ.o.size _).drew)|exact oy.o _ (HJ.o.drew.alloc HJ.o.size _))
    ((go_at_call 332;refine(I5.o w2 _ _ _ _ _ Qc.o (by first|exact Qbh w2 _|exact Qbh w2.drew _) (by first|exact bU.drew|exact(Qbg _ w2).drew.alloc bT _) HSA.o HV.o.1 S0.o).mono ?_;rintro e w1⟨_,rfl,hs,hb⟩;have HS:=ag hs;have rh:Hd (aC w2 w1):=(by with_reducible first|exact ag (Hq hb)|exact ag (YM hb)|exact ag (YN hb));clear hs hb));all_goals(go_wp2;go_meet)
   all_goals exact ag ⟨by rw[pL.o];exact HS.o,rh.o⟩
  case rest=>
   have hs:=hcut.o.1.aq;obtain⟨sa,sc,rfl,_⟩:=hs;go_wp2;go_ret;exact⟨_,rfl,hcut.o.1,HV.o.2.trans (hcut.o.2.mono HV.o.2.size)⟩
def O7 {a4 b1 b2 b3 b4:aA}{x1 x2:aJ}(h:bW w K (xK #[a1,a2,a3,a4,b1,b2,b3,b4] t))(hM:¬M K)(r1:aD.rep (α:=aJ) M w [a1,a2,a3,a4] x1)(r2:aD.rep (α:=aJ) M w [b1,b2,b3,b4] x2):ab M w (xL (K,0) 2 2) [x1,x2]:=by
 refine⟨[[a1,a2,a3,a4],[b1,b2,b3,b4]],⟨rfl,some ⟨K,0,none⟩,2,rfl,bT,by unfold maxLen;omega,λ_=>⟨K,0,rfl,hM,(Qaa.1 h).1,λj u hu=> ?_⟩⟩,rfl,λi cs x hc hx=> ?_⟩
 .simp only[World.cell?,h,Nat.zero_add];simpa using hu
 .match i,hc,hx with
  |0,hc,hx=>cases hc;cases hx;exact r1
  |1,hc,hx=>cases hc;cases hx;exact r2
  |i+2,hc,hx=>simp at hc
def BW(M:aV)(w:ax)(hM:Bd M w)(c:aI)(fv vv:aA)(x:aN)(b:Bool)(g1 g2:aA)(ay:Int)(p:Nat)(pre post:List aH)(f:aH)(vs:List aJ)(ha:iI c x.field pre f post)(hk:x.an=5)(h8:c.ah.length<=8)(FN:aR x.type=true)(hg:jg M c ay x.type x.cX w g1)(hg2:jg M c ay x.type x.bZ w g2)(hG:Gd w)
 (hp:bW w p (qE c.ai fv x pre.length b g1 g2))(hv:bA c.ah ay vs)(hvs:ab M w vv vs):
 xG 304 #[xP p,vv] w λv w'=>∃us,gZ c x ay vs us/\ab M w' v us:=by
 have iy:p<w:=(Qaa.1 hp).1;have HW:=ag (cU hp);have hat:c.ah[pre.length]? =some f:=by rw[ha.eq];simp
 have bH:pre.length<vs.length:=by rw[hv.1];exact(Qad.1 hat).1
 have h8v:vs.length<=8:=by rw[hv.1];exact h8
 have HT:Hd (∀u1 u2,lS c x.type ay x.cX vs u1->lS c x.type ay x.bZ vs u2->gZ c x ay vs (vs.take pre.length++u1::u2::vs.drop (pre.length+1))):=λu1 u2 h1 h2=>Gu ha hk hv h1 h2;obtain⟨gf,lb,rfl,eg,IW⟩:=hg;obtain⟨X0,X1,rfl,eg2,qah⟩:=hg2;have HCg:=gQ (w:=w) (λW hb=>IW FN M (λi h=>h) (λi h=> .inl h) W (ao.az hb) vv vs (hvs.ae hb) hv (hM.ae hb) (hG.ae hb));have HCh:=gQ (w:=w) (λW hb=>qah FN M (λi h=>h) (λi h=> .inl h) W (ao.az hb) vv vs (hvs.ae hb) hv (hM.ae hb) (hG.ae hb));have qW:Hd (∀W,aC w W->¬M W):=λW hb h=>by have:=hM _ h;have:=hb.size;omega
 have lF:=ag hM;obtain⟨a0,c0,rfl,cY,hmx,ho⟩:=hvs.aq;obtain⟨fb,off,rfl,_⟩:=ho (by omega);have⟨n,hn⟩:=jN (vs.length);have⟨i,hi⟩:=jN (pre.length);rw[hi]at bH HT HW;rw[hn]at bH cY hvs h8v HCg HCh⊢;have hs1:=hvs.upto hn (k:=i) (by omega);have hs2:=hvs.from_ hn (k:=i+1) (by omega);have s1:i<=c0:=by omega
 have s2:i+1<=n:=by omega
 have s3:i+1<=c0:=by omega
 have s5:(i:Int)<=(i:Int)+1:=by omega
 have s6:IntKind.i64.wrap ((i:Int)+1)=(i:Int)+1:=Qbe _ (by omega);have s7:(0:Int)<=(i:Int)+1:=by omega
 have s8:(i:Int)+1<=(n:Int):=by omega
 have s9:((i:Int)+1).toNat=i+1:=by omega
 have qK:ab M w (xL (if c0=i+1 then some ⟨fb,off,none⟩else some ⟨fb,off+(i+1)*4,none⟩) (n-(i+1)) (c0-(i+1))) (vs.drop (i+1)):=by
  simpa [Addr.add,show aD.size aJ=4 from rfl]using hs2
 have⟨ap,hap⟩:=jN ((if c0=i+1 then some (⟨fb,off,none⟩:Addr)else some ⟨fb,off+(i+1)*4,none⟩));rw[hap]at qK;have ht1:∀y∈vs.take i,y∈vs:=λy h=>List.mem_of_mem_take h;have ht2:∀y∈vs.drop (i+1),y∈vs:=λy h=>List.mem_of_mem_drop h;have hz1:(vs.take i).length<=12:=by rw[Qdb];omega
 have hz2:(vs.drop (i+1)).length<=12:=by rw[List.length_drop];omega
 obtain⟨l1,hl1⟩:∃l,vs.take i=l:=⟨_,rfl⟩;obtain⟨l2,hl2⟩:∃l,vs.drop (i+1)=l:=⟨_,rfl⟩;rw[hl1]at hs1 ht1 hz1 HT;rw[hl2]at qK ht2 hz2 HT;have Wn:=gQ (w:=w) (λW hb=>lg hv ht1 hz1 M W _ (hM.ae hb) (hs1.ae hb));have Wo:=gQ (w:=w) (λW hb=>lg hv ht2 hz2 M W _ (hM.ae hb) (qK.ae hb));have I5:Hd (∀u1 u2 w2 W t v1 v2 v3,Bd M w2->dk W w2 (xK #[v1,v2,v3] t)->aC w2 W->ab M w2 v1 l1->ab M w2 v2 [u1,u2]->ab M w2 v3 l2->_):=λu1 u2 w2 W t v1 v2 v3 hM2 h1 h2 h3 h4 h5=>
  sB M W (hM2.ae h2) w2 3 [v1,v2,v3] [l1,[u1,u2],l2] (yd h1 h2 h3 h4 h5) rfl (by simp;omega) (by omega);have dD:Hd (∀W,aC w W->bJ W p 10 i/\bJ W p 12 (.func (.func gf) #[] lb)/\bJ W p 13 (.func (.func X0) #[] X1)):=λW hb=>⟨(HW.o.ae iy hb).ca,(HW.o.ae iy hb).cc,(HW.o.ae iy hb).cd⟩;have q1:=(dD.o _ dS).1;have q2:=(dD.o _ dS).2.1;have q3:=(dD.o _ dS).2.2;have HJ:Hd (aC w w):=dS;have Kc:Hd (∀u1 u2:aJ,[l1,[u1,u2],l2].flatten=l1++u1::u2::l2):=λu1 u2=>by simp
 clear hvs ha hp hat ho hs1 hs2 qK hM hv ht1 ht2 hl1 hl2 hz1 hz2 IW qah hG;go_enter func304,ntmps304;go_upto_region 1 with fail;go_cut [5](λs5 wx=>∃(K:Nat)(u1 u2:aJ),s5=xL (K,0) 2 2/\Hd (lS c x.type ay x.cX vs u1/\lS c x.type ay x.bZ vs u2)/\Hd (ab M wx (xL (K,0) 2 2) [u1,u2]/\aC w wx));case first=>
  go_region_held3(λw'=>w'.cell? (p,12)=some (.func (.func gf) #[] lb)/\w'.cell? (p,13)=some (.func (.func X0) #[] X1))
   (with_reducible first|exact(dD.o _ HJ.o).2|exact(dD.o _ HJ.o.drew).2|exact(dD.o _ fI.o).2|exact(dD.o _ fI.o.drew).2|exact(dD.o _ dP.o).2|exact(dD.o _ dP.o.drew).2|exact(dD.o _ (dP.o.alloc dP.o.size _)).2|exact(dD.o _ ((dP.o.alloc dP.o.size _).drew)).2|exact(dD.o _ (dP.o.drew.alloc dP.o.size _)).2)
   (first
     |(with_reducible refine(HCg.o _ (by with_reducible first|exact HJ.o|exact HJ.o.drew)).mono ?_
       rintro e wa⟨_,rfl,⟨⟨yk,yn,ys,yl⟩,hy,cs,rfl,hrep⟩,hb⟩;obtain⟨av,rfl,hsl,hss⟩:=eU.iff.1 hrep;obtain⟨ya,yc,rfl,_⟩:=hsl.aq;have fI:Hd (aC w wa):=(by with_reducible first|exact ag hb|exact ag (Hq hb));have fq:=ag hrep;have HY:=ag hy;clear hb hrep hsl hss hy)
     |(with_reducible refine(HCh.o _ (by with_reducible first|exact fI.o|exact fI.o.drew)).mono ?_
       rintro e wb⟨_,rfl,⟨⟨zk,zn,zs,zl⟩,hy,cs,rfl,hrep⟩,hb⟩;obtain⟨av,rfl,hsl,hss⟩:=eU.iff.1 hrep;obtain⟨za,zc,rfl,_⟩:=hsl.aq;have CN:Hd (aC wa wb):=(by with_reducible first|exact ag hb|exact ag (Hq hb));have dP:Hd (aC w wb):=fI.o.trans (CN.o.mono fI.o.size);have qai:=ag (aD.ev fq.o (Ev.az CN.o));have qdr:=ag hrep;have HZ:=ag hy;clear hb hrep hsl hss hy));all_goals(go_wp2;go_meet)
  all_goals exact⟨_,_,_,rfl,ag ⟨HY.o,HZ.o⟩,ag ⟨O7 (Qbh wb _) (qW.o _ dP.o) (aD.ev qai.o (Ev.az bU)) (aD.ev qdr.o (Ev.az bU)),dP.o.alloc dP.o.size _⟩⟩
 case rest=>
  obtain⟨K,u1,u2,rfl,HU,HV⟩:=hcut;have⟨w2,hw2⟩:=bY (wc);subst hw2;have HJ:Hd (aC w w2):=HV.o.2;have q1:=(dD.o _ HJ.o).1;go_upto_region 2 with fail;go_cut [4](λs4 wx=>Hd (ab M wx s4 (l1++u1::u2::l2)/\aC w wx));case first=>
   go_region_held3(λw'=>w'.cell? (p,10)=some (xI i))
    (with_reducible first|exact(dD.o _ rh.o).1|exact(dD.o _ rh.o.drew).1|exact(dD.o _ HJ.o).1|exact(dD.o _ HJ.o.drew).1|exact(dD.o _ fI.o).1|exact(dD.o _ fI.o.drew).1|exact(dD.o _ dP.o).1|exact(dD.o _ dP.o.drew).1|exact(dD.o _ (dP.o.alloc dP.o.size _)).1|exact(dD.o _ ((dP.o.alloc dP.o.size _).drew)).1|exact(dD.o _ (dP.o.drew.alloc dP.o.size _)).1)
    (first
      |(go_at_call 331;with_reducible refine(Wn.o _ (by with_reducible first|exact HJ.o|exact HJ.o.drew)).mono ?_
        rintro e wa⟨_,rfl,hs,hb⟩;obtain⟨a1,c1,rfl,_⟩:=hs.aq;have HSA:=ag hs;have H2A:Hd (aC w2 wa):=(by with_reducible first|exact ag hb|exact ag (Hq hb));have fI:Hd (aC w wa):=HJ.o.trans (H2A.o.mono HJ.o.size);clear hb hs)
      |(go_at_call 331;with_reducible refine(Wo.o _ (by with_reducible first|exact fI.o|exact fI.o.drew)).mono ?_
        rintro e wb⟨_,rfl,hs,hb⟩;obtain⟨a2,c2,rfl,_⟩:=hs.aq;have S0:=ag hs;have CN:Hd (aC wa wb):=(by with_reducible first|exact ag hb|exact ag (Hq hb));have dP:Hd (aC w wb):=fI.o.trans (CN.o.mono fI.o.size);have Wp:=ag (HSA.o.ae CN.o);have HVb:=ag ((HV.o.1.ae H2A.o).ae CN.o);have HMb:=ag (lF.o.ae dP.o);clear hb hs)
      |(go_at_call 333;refine(I5.o u1 u2 wb _ _ _ _ _ HMb.o (by first|exact Qbh wb _|exact Qbh wb.drew _) (by first|with_reducible exact(Qbg _ wb).alloc bT _|exact bU.drew|exact(Qbg _ wb).drew.alloc bT _) Wp.o HVb.o S0.o).mono ?_;rintro e w1⟨_,rfl,hs,hb⟩;have HS:=ag hs;have Q9:Hd (aC wb w1):=(by with_reducible first|exact ag (Hq hb)|exact ag (YM hb)|exact ag (YN hb)|exact ag (oB0 hb));have rh:Hd (aC w w1):=dP.o.trans (Q9.o.mono dP.o.size);clear hs hb));all_goals(go_wp2;go_meet)
   all_goals exact ag ⟨by rw[<-Kc.o];exact HS.o,rh.o⟩
  case rest=>
   have hs:=hcut.o.1.aq;obtain⟨sa,sc,rfl,_⟩:=hs;go_wp2;go_ret;exact⟨_,rfl,⟨_,HT.o _ _ HU.o.1 HU.o.2,hcut.o.1⟩,hcut.o.2⟩
def JK {n:Nat}{xs:List aJ}(h:aS M base e w (xL a n cap) xs){x:aJ}(hx:xs[i]? =some x):
 ∃g c0 c1 c2 c3,a=some ⟨g,0,none⟩/\base<=g/\g<w.heap.size/\(w.cell? (g,i*4)=some c0/\w.cell? (g,i*4+1)=some c1/\w.cell? (g,i*4+2)=some c2/\w.cell? (g,i*4+3)=some c3)/\∀j,w.frozen? ⟨g,j,none⟩=false:=by
 obtain⟨css,h1,h2,h3⟩:=h;have vZ:=(Qad.1 hx).1;have⟨cs,hcs⟩:=eG css i (by omega);have hlen:∀(k:Nat)(c:List Value),css[k]? =some c->c.length=4:=λk c hc=>by
  have⟨z,hz⟩:=eG xs k (by rw[<-h2];exact(Qad.1 hc).1);exact aD.len (h3 k c z hc hz)
 obtain⟨hl,hv|⟨g,cap',cur,hv,hg,hh,hn,hm,hs,SQ⟩⟩:=h1
 .have:=hv.2;omega
 .injection hv with ha hn' hc';have hgl:=(Qaa.1 hh).1;have G:∀(j:Nat)(u:Value),cs[j]? =some u->w.cell? (g,i*4+j)=some u:=λj u hj=>by
   have h4:=iF hlen i cs j u hcs hj;rw[<-SQ]at h4;have h5:cur.toList[i*4+j]? =some u:=by
    rw[List.getElem?_take]at h4;split at h4
    .exact h4
    .cases h4
   simp only[World.cell?,hh];simpa using h5
  obtain⟨k,n,s,l⟩:=x;obtain⟨lv,rfl,_⟩:=eU.iff.1 (h3 i cs _ hcs hx);exact⟨g,_,_,_,_,ha,hg,hgl,⟨G 0 _ rfl,G 1 _ rfl,G 2 _ rfl,G 3 _ rfl⟩,λj=>aj hh j⟩
theorem aS.val {n:Nat}{xs:List aJ}(h:aS M base e w (xL (g,0) n cap) xs)(hi:i<xs.length){k m:Int}{ca:Nat}
 (hl:ab (bu (xL (g,0) n cap) M) w (xL a l.length ca) l)(hs:s.size<=maxLen):
 aS M base e ((((w.setCell (g,i*4) k).setCell (g,i*4+1) m).setCell (g,i*4+2) s).setCell (g,i*4+3) (xL a l.length ca)) (xL (g,0) n cap) (xs.set i (.mk k m s l)):=by
 have⟨⟨k0,m0,s0,l0⟩,hx⟩:=eG xs i hi;have Ba:∀y:aJ,(xs.set i y)[i]? =some y:=λy=>List.getElem?_set_self hi;have A1:=aS.cell h hx (j:=0) (by decide) k (y:= .mk k m0 s0 l0) (λcs W hr _=>by
  obtain⟨lv,rfl,h1,h2⟩:=eU.iff.1 hr;exact eU.iff.2 ⟨lv,rfl,h1,h2⟩);have A2:=aS.cell A1 (Ba _) (j:=1) (by decide) m (y:= .mk k m s0 l0) (λcs W hr _=>by
  obtain⟨lv,rfl,h1,h2⟩:=eU.iff.1 hr;exact eU.iff.2 ⟨lv,rfl,h1,h2⟩);rw[List.set_set]at A2;have A3:=aS.cell A2 (Ba _) (j:=2) (by decide) s (y:= .mk k m s l0) (λcs W hr _=>by
  obtain⟨lv,rfl,h1,h2⟩:=eU.iff.1 hr;exact eU.iff.2 ⟨lv,rfl,h1,hs⟩);rw[List.set_set]at A3;have Q3:=hl.ev ((((Ev.refl _ _).setCell (p:=⟨g,i*4,none⟩) (.inl (.inr rfl)) k).setCell (p:=⟨g,i*4+1,none⟩) (.inl (.inr rfl)) m).setCell (p:=⟨g,i*4+2,none⟩) (.inl (.inr rfl)) s);have A4:=aS.cell A3 (Ba _) (j:=3) (by decide) (xL a l.length ca) (y:= .mk k m s l) (λcs W hr hE=>by
  obtain⟨lv,rfl,h1,h2⟩:=eU.iff.1 hr;exact eU.iff.2 ⟨_,rfl,Q3.ev hE,h2⟩);rw[List.set_set]at A4;exact A4
def Ej(M:aV)(w:ax)(hM:Bd M w)(c:aI)(fv vv:aA)(x:aN)(b:Bool)(g1 g2:aA)(ay:Int)(p:Nat)(pre post:List aH)(f:aH)(vs:List aJ)(ha:iI c x.field pre f post)(hk:x.an=4)(h8:c.ah.length<=8)(FN:aR x.type=true)
 (hg:jg M c ay x.type x.cX w g1)(hG:Gd w)(hp:bW w p (qE c.ai fv x pre.length b g1 g2))(hv:bA c.ah ay vs)(hvs:ab M w vv vs):
 xG 301 #[xP p,vv] w λv w'=>∃us,gZ c x ay vs us/\ab M w' v us:=by
 have iy:p<w:=(Qaa.1 hp).1;have HW:=ag (cU hp);have hat:c.ah[pre.length]? =some f:=by rw[ha.eq];simp
 have bH:pre.length<vs.length:=by rw[hv.1];exact(Qad.1 hat).1
 have h8v:vs.length<=8:=by rw[hv.1];exact h8
 have HT:Hd (∀v,lS c x.type ay x.cX vs v->gZ c x ay vs (vs.set pre.length v)):=λv h1=>by
  rw[List.set_eq_take_append_cons_drop,if_pos bH];exact KQ ha hk hv h1
 obtain⟨gf,lb,rfl,eg,IW⟩:=hg;have Wn:=ag (uS hv (us:=vs) (λ_ h=>h) (by omega) M w vv hM hvs);have Wo:Hd (∀(N:aV)W,(∀i,M i->N i)->(∀i,N i->M i\/w.heap.size<=i)->Bd N W->aC w W->_):=λN W h1 h2 h3 hb=>IW FN N h1 h2 W (ao.az hb) vv vs (hvs.ev ⟨ao.az hb,h2⟩) hv h3 (hG.ae hb);have dD:Hd (∀W,aC w W->bJ W p 10 pre.length/\bJ W p 12 (.func (.func gf) #[] lb)):=λW hb=>⟨(HW.o.ae iy hb).ca,(HW.o.ae iy hb).cc⟩;have⟨y0,hy0⟩:=eG vs pre.length bH;have HY0:=ag hy0;have lF:=ag hM;have⟨i,hi⟩:=jN (pre.length);rw[hi]at bH HT dD HY0;obtain⟨a0,c0,rfl,cY,hmx,ho⟩:=hvs.aq;go_enter func301,ntmps301;go_wp2_with fail;refine(Wn.o).mono ?_;rintro e wa⟨_,rfl,hs,hb⟩;obtain⟨a1,c1,rfl,_⟩:=hs.aq;have HA:=ag hs;have fI:=ag hb;obtain⟨g,_,_,_,_,rfl,hgw,_⟩:=JK hs HY0.o;have HBd:=ag (BE HA.o (lF.o.ae fI.o));have vL:Hd (∀i,M i->bu (xL (g,0) vs.length c1) M i):=λi h=> .inl h;have zA:Hd (∀i,bu (xL (g,0) vs.length c1) M i->M i\/w.heap.size<=i):=λi h=>h.imp_right λh=>(HA.o.cG i h).1;have q1:=(dD.o _ fI.o).1;have q2:=(dD.o _ fI.o).2;go_upto_region 2 with fail;go_region_law(first
  |(try go_simp
    go_loud(refine(Wo.o (bu (xL (g,0) vs.length c1) M) wa.drew vL.o zA.o HBd.o fI.o.drew).mono ?_);rintro e wb⟨_,rfl,⟨⟨yk,yn,ys,yl⟩,hy,cs,rfl,hrep⟩,hb⟩;obtain⟨av,rfl,hsl,hss⟩:=eU.iff.1 hrep;obtain⟨ya,yc,rfl,_⟩:=hsl.aq;have CN:Hd (aC wa wb):=(by with_reducible first|exact ag hb|exact ag (Hq hb));have dP:Hd (aC w wb):=fI.o.trans (CN.o.mono fI.o.size);have HAb:=ag (HA.o.ae CN.o);have gO:=ag hsl;have q8:=ag hss;have HY:=ag hy;have k1:=(dD.o _ dP.o).1;have k2:=(dD.o _ dP.o).2;have⟨gb,v0,v1,v2,v3,hge,_,_,⟨z0,z1,z2,z3⟩,hfr⟩:=JK HAb.o HY0.o;obtain rfl:g=gb:=by injection hge with hge;injection hge
    have f0:=hfr (i*4);have f1:=hfr (i*4+1);have f2:=hfr (i*4+2);have f3:=hfr (i*4+3);clear hb hrep hsl hss hy hfr));all_goals
  go_wp2;go_ret;exact⟨_,rfl,⟨_,HT.o _ HY.o,(aS.val HAb.o bH gO.o q8.o).slice lF.o⟩,(((dP.o.setCell (p:=⟨g,i*4,none⟩) hgw _).setCell (p:=⟨g,i*4+1,none⟩) hgw _).setCell (p:=⟨g,i*4+2,none⟩) hgw _).setCell (p:=⟨g,i*4+3,none⟩) hgw _⟩
def vC(k:Int):Nat:=if k=1 then 291 else if k=2 then 294 else if k=3 then 297 else if k=4 then 300 else if k=5 then 303 else 306
def sF(k:Int):Nat:=if k=1 then 292 else if k=2 then 295 else if k=3 then 298 else if k=4 then 301 else if k=5 then 304 else 298
def AD(h:pZ w b p){k:Int}(hk:k=1\/k=2\/k=3\/k=4\/k=5\/k=6):(Instr.lookup 343 (.map (some b)) k false).run prog w= .ok (jx p (zm k) (vC k) (sF k)) w:=by
 obtain⟨es,clk,h0,h1,h2,h3,h4,h5,h6⟩:=h;rcases hk with rfl|rfl|rfl|rfl|rfl|rfl
 .exact kQ h0 _ _ h1
 .exact kQ h0 _ _ h2
 .exact kQ h0 _ _ h3
 .exact kQ h0 _ _ h4
 .exact kQ h0 _ _ h5
 .exact kQ h0 _ _ h6
def Ek(hb:jo c x=true)(hk:x.an≠1):hasB c x.field=true:=by
 unfold jo at hb;rw[if_neg hk]at hb;repeat'(split at hb)
 all_goals simp_all
def Hs(M:aV)(w:ax)(hM:Bd M w)(c:aI)(hc:cN c)(fv:aA)(x:aN)(hx:qA c x)(hb:jo c x=true)(g1 g2:aA)(p:Nat)
 (hp:bW w p (qE c.ai fv x (qq c x) (hasB c x.field) g1 g2))(hfs:ab M w fv c.ah):
 xC (vC x.an) #[xP p] w (cm w λv w'=>ab M w' v (cw c x).ah):=by
 have h8:=((bC c).1 hc.right).2.1;have J0:c.ah.length<=8:=by omega
 by_cases h1:x.an=1
 .rw[h1];exact UX M w hM c fv x _ _ _ _ p h1 hx.s2 J0 hp hfs
 .have hh:=Ek hb h1;have⟨pre,f,post,ha⟩:=ny hc.right hh;rw[hh,show qq c x=(pre.length:Int)by unfold qq;rw[ha.at_,if_neg (by omega)]]at hp;have hk:x.an=2\/x.an=3\/x.an=4\/x.an=5\/x.an=6:=by have:=hx.sh;simp only[nu]at this;omega
  rcases hk with hk|hk|hk|hk|hk<;>rw[hk]
  .exact R4 M w hM c fv x _ _ _ p pre post f ha hk J0 hp hfs
  .exact Lx M w hM c fv x _ _ _ p pre post f ha hk hx.s2 J0 hp hfs
  .exact OZ M w hM c fv x _ _ _ p pre post f ha hk J0 hp hfs
  .exact O5 M w hM c fv x _ _ _ p pre post f ha hk hx.s2 hx.s3 J0 hp hfs
  .exact Ly M w hM c fv x _ _ _ p pre post f ha hk J0 hp hfs
def O8(M:aV)(w:ax)(hM:Bd M w)(c:aI)(hc:cN c)(fv vv:aA)(x:aN)(hx:qA c x)(hb:jo c x=true)(g1 g2:aA)(ay:Int)(p:Nat)(vs:List aJ)
 (hg:jg M c ay x.type x.cX w g1)(hg2:jg M c ay x.type x.bZ w g2)(hG:Gd w)
 (hp:bW w p (qE c.ai fv x (qq c x) (hasB c x.field) g1 g2))(hv:bA c.ah ay vs)(hvs:ab M w vv vs):
 xC (sF x.an) #[xP p,vv] w (cm w λv w'=>∃us,gZ c x ay vs us/\ab M w' v us):=by
 have h8:=((bC c).1 hc.right).2.1;have J0:c.ah.length<=8:=by omega
 by_cases h1:x.an=1
 .rw[h1];exact Hr M w hM c fv vv x _ _ _ _ ay p vs h1 J0 (hx.type (.inl h1)) hp hg hG hv hvs
 .have hh:=Ek hb h1;have⟨pre,f,post,ha⟩:=ny hc.right hh;rw[hh,show qq c x=(pre.length:Int)by unfold qq;rw[ha.at_,if_neg (by omega)]]at hp;have hk:x.an=2\/x.an=3\/x.an=4\/x.an=5\/x.an=6:=by have:=hx.sh;simp only[nu]at this;omega
  rcases hk with hk|hk|hk|hk|hk<;>rw[hk]
  .exact Ei M w hM c fv vv x _ _ _ ay p pre post f vs ha hk J0 hp hv hvs
  .exact uT M w hM c vv x ay p pre post f vs ha (.inl hk) J0 hv hvs
  .exact Ej M w hM c fv vv x _ _ _ ay p pre post f vs ha hk J0 (hx.type (.inr (.inl hk))) hg hG hp hv hvs
  .exact BW M w hM c fv vv x _ _ _ ay p pre post f vs ha hk J0 (hx.type (.inr (.inr hk))) hg hg2 hG hp hv hvs
  .exact uT M w hM c vv x ay p pre post f vs ha (.inr hk) J0 hv hvs
end Go.Proofs.YtepaofffbkfodaaGreatDoor
