/- A part of OpReads's proof; no condition. -/
import Derived.Test.YtepaofffbkfodaaGreatDoorM26
set_option linter.all false
set_option maxHeartbeats 8000000
set_option maxRecDepth 100000
namespace Go.Proofs.YtepaofffbkfodaaGreatDoor
open Go.Proofs.Tryz
open Go.RowKit Go.Shelf
variable{t e:TypeId}{v1 v2 v3 a1 a2 a3:an}{w W w':aj}{M:aN}{us vs l:List aA}{many:Int}{o:Obj}{f:az}{K i cap base g b p:Nat}{a:fA}{s:aM}{x:aC}{c:ax}
def Ez {α:Type} [au α]{l1 l2:List α}(hW:di W w (xK #[v1,v2] t))(hb:aq w W)(h1:ab M w v1 l1)(h2:ab M w v2 l2):uq M W w.heap.size [v1,v2] [l1,l2]:=by
 refine⟨rfl,(Qaa.1 hW).1,λi v hv=> ?_,λi v l hv hl=> ?_⟩
 .simp only[World.cell?,hW];simpa using hv
 .match i,hv,hl with
  |0,hv,hl=>cases hv;cases hl;exact h1.below hb
  |1,hv,hl=>cases hv;cases hl;exact h2.below hb
  |i+2,hv,hl=>simp at hv
def yh {α:Type} [au α]{l1 l2 l3:List α}(hW:di W w (xK #[v1,v2,v3] t))(hb:aq w W)(h1:ab M w v1 l1)(h2:ab M w v2 l2)(h3:ab M w v3 l3):uq M W w.heap.size [v1,v2,v3] [l1,l2,l3]:=by
 refine⟨rfl,(Qaa.1 hW).1,λi v hv=> ?_,λi v l hv hl=> ?_⟩
 .simp only[World.cell?,hW];simpa using hv
 .match i,hv,hl with
  |0,hv,hl=>cases hv;cases hl;exact h1.below hb
  |1,hv,hl=>cases hv;cases hl;exact h2.below hb
  |2,hv,hl=>cases hv;cases hl;exact h3.below hb
  |i+3,hv,hl=>simp at hv
def SN(M:aN)(w:aj)(hM:Bd M w)(c:ax)(fv:an)(x:aC)(b:Bool)(g1 g2:an)(p:Nat)(pre post:List az)(f:az)(ha:iA c x.field pre f post)(hk:x.kind=2)(h8:c.fields.length<=8)
 (hp:bR w p (qR c.name fv x pre.length b g1 g2))(cq:ab M w fv c.fields):
 xG 294 #[xP p] w λv w'=>ab M w' v (bZ c x).fields:=by
 have ij:p<w.heap.size:=(Qaa.1 hp).1;have HW:=af (cN hp);have q1:=HW.o.c1;have q2:=HW.o.ca;have ru:c.fields[pre.length]? =some f:=by rw[ha.eq];simp
 have bu:pre.length<c.fields.length:=(Qad.1 ru).1;have qp:=af (show(bZ c x).fields=[c.fields.take pre.length,c.fields.drop (pre.length+1)].flatten by
  rw[fh ha (by omega),ha.eq];simp[iQ,hk]);obtain⟨a0,c0,rfl,cV,lL,ho⟩:=cq.open_;obtain⟨fb,off,rfl,_⟩:=ho (by omega);obtain⟨n,hn⟩:=jO (c.fields.length);obtain⟨i,hi⟩:=jO (pre.length);rw[hi]at bu qp q2;rw[hn]at bu q1 cV cq h8;have Jy:Hd (∀W t v1 v2,di W w (xK #[v1,v2] t)->aq w W->ab M w v1 (c.fields.take i)->ab M w v2 (c.fields.drop (i+1))->_):=λW t v1 v2 h1 h2 h3 h4=>
  pd M W (hM.below h2) w.heap.size 2 [v1,v2] [c.fields.take i,c.fields.drop (i+1)] (Ez h1 h2 h3 h4) rfl (by simp;omega) (by omega);have qH:=af (cq.upto hn (k:=i) (by omega));have j6:=cq.from_ hn (k:=i+1) (by omega);have s1:i<=c0:=by omega
 have s2:i+1<=n:=by omega
 have s3:i+1<=c0:=by omega
 have s5:(i:Int)<=(i:Int)+1:=by omega
 have s6:IntKind.i64.wrap ((i:Int)+1)=(i:Int)+1:=Qbe _ (by omega);have s7:(0:Int)<=(i:Int)+1:=by omega
 have s8:(i:Int)+1<=(n:Int):=by omega
 have s9:((i:Int)+1).toNat=i+1:=by omega
 have gE:=af (show ab M w (xL (if c0=i+1 then some ⟨fb,off,none⟩else some ⟨fb,off+(i+1)*4,none⟩) (n-(i+1)) (c0-(i+1))) (c.fields.drop (i+1))by
  simpa [Addr.add,show au.size az=4 from rfl]using j6);obtain⟨ap,RP⟩:=jO ((if c0=i+1 then some (⟨fb,off,none⟩:Addr)else some ⟨fb,off+(i+1)*4,none⟩));rw[RP]at gE;clear cq ha hp ru ho j6;go_enter func294,ntmps294;go_wp2_with fail;go_region_with(go_at_call 332;refine(Jy.o _ _ _ _ (by first|exact Qbh w _|exact Qbh w.drew _) (by first|exact bM.drew|exact(Qbg _ w).drew.alloc bN _) qH.o gE.o).mono ?_;rintro e w1⟨_,rfl,hs,hb⟩;have HS:=af hs;have HB:=af (show aq w w1 by first|exact(bM.drew).trans (hb.mono (by simp))|exact((Qbg _ w).drew.alloc bN _).trans (hb.mono (by simp)));clear hs hb);all_goals
  go_wp2;go_ret;exact⟨_,rfl,by rw[qp.o];exact HS.o,HB.o⟩
def zA(h:Nat)(l:List aA)(hl:l.length<=12)(hx:∀x∈l,xx h x)(M:aN)(w:aj)(v:an)(hM:Bd M w)(hs:ab M w v l):xG 331 #[v] w λv' w'=>aK M w.heap.size 44 w' v' l:=by
 cases h with
 |zero=>
  exact lQ l hl (λx hm=>by
   rw[show x.list=[]from hx x hm];exact kA [] (by simp) λy hy=>by cases hy) M w v hM hs
 |succ h=>exact lQ l hl (λx hm=>ny h x.list (hx x hm).1 (hx x hm).2) M w v hM hs
def vd {fs:List az}(h:bh fs many vs)(hu:∀x∈us,x∈vs)(hl:us.length<=12)(M:aN)(w:aj)(v:an)(hM:Bd M w)(hs:ab M w v us):xC 331 #[v] w (cg w λv' w'=>aK M w.heap.size 44 w' v' us):=
 zA 1 us hl (λx hx=>by
  obtain⟨f,_,hv⟩:=eT h x (hu x hx);exact nv hv) M w v hM hs
def ve(M:aN)(w:aj)(hM:Bd M w)(c:ax)(vv:an)(x:aC)(many:Int)(p:Nat)(pre post:List az)(f:az)(vs:List aA)(ha:iA c x.field pre f post)(hk:x.kind=3\/x.kind=6)(h8:c.fields.length<=8)
 (hv:bh c.fields many vs)(dA:ab M w vv vs):
 xG 298 #[xP p,vv] w λv w'=>∃us,gP c x many vs us/\ab M w' v us:=by
 have hl:vs.length<=12:=by rw[hv.1];omega
 have HC:=af (kP hv (us:=vs) (λ_ h=>h) hl M w vv hM dA);have HT:=af (Lx ha hk hv);obtain⟨a0,c0,rfl,_⟩:=dA.open_;go_enter func298,ntmps298;go_wp2_with fail;refine(HC.o).mono ?_;rintro e w1⟨_,rfl,hs,hb⟩;obtain⟨a1,c1,rfl,_⟩:=hs.open_;have HS:=af hs;have HB:=af hb;go_wp2;go_ret;exact⟨_,rfl,⟨_,HT.o,HS.o⟩,HB.o⟩
def oB0(hb:Below (w.alloc o).heap.size (w.alloc o) w'):aq w w':=((Qbg _ w).alloc bN o).trans (hb.mono (by show w.heap.size<=(w.alloc o).heap.size;simp))
def EA(M:aN)(w:aj)(hM:Bd M w)(c:ax)(fv vv:an)(x:aC)(b:Bool)(g1 g2:an)(many:Int)(p:Nat)(pre post:List az)(f:az)(vs:List aA)(ha:iA c x.field pre f post)(hk:x.kind=2)(h8:c.fields.length<=8)
 (hp:bR w p (qR c.name fv x pre.length b g1 g2))(hv:bh c.fields many vs)(dA:ab M w vv vs):
 xG 295 #[xP p,vv] w λv w'=>∃us,gP c x many vs us/\ab M w' v us:=by
 have ij:p<w.heap.size:=(Qaa.1 hp).1;have HW:=af (cN hp);have ru:c.fields[pre.length]? =some f:=by rw[ha.eq];simp
 have bu:pre.length<vs.length:=by rw[hv.1];exact(Qad.1 ru).1
 have h8v:vs.length<=8:=by rw[hv.1];exact h8
 have HT:=af (Lw ha hk hv);have lM:=af hM;obtain⟨a0,c0,rfl,cV,lL,ho⟩:=dA.open_;obtain⟨fb,off,rfl,_⟩:=ho (by omega);obtain⟨n,hn⟩:=jO (vs.length);obtain⟨i,hi⟩:=jO (pre.length);rw[hi]at bu HT HW;rw[hn]at bu cV dA h8v⊢;have fu:=dA.upto hn (k:=i) (by omega);have j6:=dA.from_ hn (k:=i+1) (by omega);have s1:i<=c0:=by omega
 have s2:i+1<=n:=by omega
 have s3:i+1<=c0:=by omega
 have s5:(i:Int)<=(i:Int)+1:=by omega
 have s6:IntKind.i64.wrap ((i:Int)+1)=(i:Int)+1:=Qbe _ (by omega);have s7:(0:Int)<=(i:Int)+1:=by omega
 have s8:(i:Int)+1<=(n:Int):=by omega
 have s9:((i:Int)+1).toNat=i+1:=by omega
 have qX:ab M w (xL (if c0=i+1 then some ⟨fb,off,none⟩else some ⟨fb,off+(i+1)*4,none⟩) (n-(i+1)) (c0-(i+1))) (vs.drop (i+1)):=by
  simpa [Addr.add,show au.size aA=4 from rfl]using j6
 obtain⟨ap,RP⟩:=jO ((if c0=i+1 then some (⟨fb,off,none⟩:Addr)else some ⟨fb,off+(i+1)*4,none⟩));rw[RP]at qX;have CW:∀y∈vs.take i,y∈vs:=λy h=>List.mem_of_mem_take h;have CX:∀y∈vs.drop (i+1),y∈vs:=λy h=>List.mem_of_mem_drop h;have dO:(vs.take i).length<=12:=by rw[Qdb];omega
 have er:(vs.drop (i+1)).length<=12:=by rw[List.length_drop];omega
 obtain⟨l1,Ct⟩:∃l,vs.take i=l:=⟨_,rfl⟩;obtain⟨l2,Bh⟩:∃l,vs.drop (i+1)=l:=⟨_,rfl⟩;rw[Ct]at fu CW dO HT;rw[Bh]at qX CX er HT;have Xm:=gG (w:=w) (λW hb=>kP hv CW dO M W _ (hM.below hb) (fu.below hb));have Xn:=gG (w:=w) (λW hb=>kP hv CX er M W _ (hM.below hb) (qX.below hb));have Jy:Hd (∀w2 W t v1 v2,Bd M w2->di W w2 (xK #[v1,v2] t)->aq w2 W->ab M w2 v1 l1->ab M w2 v2 l2->_):=λw2 W t v1 v2 hM2 h1 h2 h3 h4=>
  sJ M W (hM2.below h2) w2.heap.size 2 [v1,v2] [l1,l2] (Ez h1 h2 h3 h4) rfl (by simp;omega) (by omega);have dr:Hd (∀W,aq w W->bt W p 10 (xI i)):=λW hb=>(HW.o.below ij hb).ca;have q1:=(dr.o _ dQ);have HJ:Hd (aq w w):=dQ;have KR:=af (show [l1,l2].flatten=l1++l2 by simp);go_enter func295,ntmps295;go_upto_region 1 with fail;go_cut [4](λs4 wx=>Hd (ab M wx s4 (l1++l2)/\aq w wx));case first=>
  go_region_held3(λw'=>w'.cell? ⟨p,10,none⟩=some (xI i))
   (with_reducible first|exact dr.o _ rG.o|exact dr.o _ rG.o.drew|exact dr.o _ HJ.o|exact dr.o _ HJ.o.drew|exact dr.o _ fx.o|exact dr.o _ fx.o.drew|exact dr.o _ dE.o|exact dr.o _ dE.o.drew|exact dr.o _ (dE.o.alloc dE.o.size _)|exact dr.o _ ((dE.o.alloc dE.o.size _).drew)|exact dr.o _ (dE.o.drew.alloc dE.o.size _))
   (first
     |(go_at_call 331;with_reducible refine(Xm.o _ (by with_reducible first|exact HJ.o|exact HJ.o.drew)).mono ?_
       rintro e wa⟨_,rfl,hs,hb⟩;obtain⟨a1,c1,rfl,_⟩:=hs.open_;have HSA:=af hs;have fx:Hd (aq w wa):=(by with_reducible first|exact af hb|exact af (It hb));clear hb hs)
     |(go_at_call 331;with_reducible refine(Xn.o _ (by with_reducible first|exact fx.o|exact fx.o.drew)).mono ?_
       rintro e wb⟨_,rfl,hs,hb⟩;obtain⟨a2,c2,rfl,_⟩:=hs.open_;have TN:=af hs;have Jz:Hd (aq wa wb):=(by with_reducible first|exact af hb|exact af (It hb));have dE:Hd (aq w wb):=fx.o.trans (Jz.o.mono fx.o.size);have Xo:=af (HSA.o.below Jz.o);have HMb:=af (lM.o.below dE.o);clear hb hs)
     |(go_at_call 333;refine(Jy.o wb _ _ _ _ HMb.o (by first|exact Qbh wb _|exact Qbh wb.drew _) (by first|with_reducible exact(Qbg _ wb).alloc bN _|exact bM.drew|exact(Qbg _ wb).drew.alloc bN _) Xo.o TN.o).mono ?_;rintro e w1⟨_,rfl,hs,hb⟩;have HS:=af hs;have HBC:Hd (aq wb w1):=(by with_reducible first|exact af (It hb)|exact af (Zy hb)|exact af (Zz hb)|exact af (oB0 hb));have rG:Hd (aq w w1):=dE.o.trans (HBC.o.mono dE.o.size);clear hs hb));all_goals(go_wp2;go_meet)
  all_goals exact af ⟨by rw[<-KR.o];exact HS.o,rG.o⟩
 case rest=>
  have hs:=hcut.o.1.open_;obtain⟨sa,sc,rfl,_⟩:=hs;go_wp2;go_ret;exact⟨_,rfl,⟨_,HT.o,hcut.o.1⟩,hcut.o.2⟩
def Iu(M:aN)(w:aj)(hM:Bd M w)(c:ax)(fv vv:an)(x:aC)(a:Int)(b:Bool)(g1 g2:an)(many:Int)(p:Nat)(vs:List aA)(hk:x.kind=1)(h8:c.fields.length<=8)(Ge:aG x.type=true)
 (hp:bR w p (qR c.name fv x a b g1 g2))(hg:iW M c many x.type x.expr w g1)(hG:Gd w)(hv:bh c.fields many vs)(dA:ab M w vv vs):
 xG 292 #[xP p,vv] w λv w'=>∃us,gP c x many vs us/\ab M w' v us:=by
 obtain⟨i0,ed,ej,dO,er⟩:=info_parts gY;have ij:p<w.heap.size:=(Qaa.1 hp).1;have HW:=af (cN hp);have h8v:vs.length<=8:=by rw[hv.1];exact h8
 have HT:=af (λv(ht:lB c x.type many x.expr vs v)=>OH hk hv ht);obtain⟨gf,lb,rfl,eg,Jr⟩:=hg;have Xm:=gG (w:=w) (λW hb=>vd hv (us:=vs) (λ_ h=>h) (by omega) M W vv (hM.below hb) (dA.below hb));have Xn:Hd (∀(N:aN)W,(∀i,M i->N i)->(∀i,N i->M i\/w.heap.size<=i)->Bd N W->aq w W->_):=λN W h1 h2 h3 hb=>Jr Ge N h1 h2 W (ai.ao hb) vv vs (dA.ev ⟨ai.ao hb,h2⟩) hv h3 (hG.below hb);have dr:Hd (∀W,aq w W->bt W p 12 (.func (.func gf) #[] lb)):=λW hb=>(HW.o.below ij hb).cc;obtain⟨a0,c0,rfl,cV,lL,ho⟩:=dA.open_;have q1:=(dr.o _ dQ);have HJ:Hd (aq w w):=dQ;have lM:=af hM;go_enter func292,ntmps292;go_upto_region 1 with fail;go_cut [4](λs4 wx=>∃u,lB c x.type many x.expr vs u/\Hd (ab M wx s4 (vs++[u])/\aq w wx));case first=>
  go_region_held3(λw'=>w'.cell? ⟨p,12,none⟩=some (.func (.func gf) #[] lb))
   (with_reducible first|exact dr.o _ rG.o|exact dr.o _ rG.o.drew|exact dr.o _ HJ.o|exact dr.o _ HJ.o.drew|exact dr.o _ fx.o|exact dr.o _ fx.o.drew|exact dr.o _ dE.o|exact dr.o _ dE.o.drew|exact dr.o _ (dE.o.alloc dE.o.size _)|exact dr.o _ ((dE.o.alloc dE.o.size _).drew)|exact dr.o _ (dE.o.drew.alloc dE.o.size _))
   (first
     |(go_at_call 331;with_reducible refine(Xm.o _ (by with_reducible first|exact HJ.o|exact HJ.o.drew)).mono ?_
       rintro e wa⟨_,rfl,hs,hb⟩;obtain⟨a1,c1,rfl,_⟩:=hs.open_;have fx:Hd (aq w wa):=(by with_reducible first|exact af hb|exact af (It hb));have HA:=af (hs.le (base':=w.heap.size) bN);have HBd:=af (BL HA.o (lM.o.below fx.o));have vP:Hd (∀i,M i->bg (xL a1 vs.length c1) M i):=λi h=> .inl h;have zL:Hd (∀i,bg (xL a1 vs.length c1) M i->M i\/w.heap.size<=i):=λi h=>h.imp_right λh=>(HA.o.cJ i h).1;clear hb hs)
     |(refine(Xn.o (bg (xL a1 vs.length c1) M) _ vP.o zL.o HBd.o (by with_reducible first|exact fx.o|exact fx.o.drew)).mono ?_;rintro e wb⟨_,rfl,⟨⟨yk,yn,ys,yl⟩,hy,cs,rfl,bV⟩,hb⟩;obtain⟨av,rfl,bI,ke⟩:=eZ.iff.1 bV;obtain⟨ya,yc,rfl,_⟩:=bI.open_;have Jz:Hd (aq wa wb):=(by with_reducible first|exact af hb|exact af (It hb));have dE:Hd (aq w wb):=fx.o.trans (Jz.o.mono fx.o.size);have HAb:=af (HA.o.below Jz.o);have eX:=af bV;have HY:=af hy;clear hb bV bI ke hy)
     |(refine dJ (α:=aA) rfl _ _ _ rfl M w.heap.size 44 i0 _ 56 underlying42 ed ej dO er rfl (by decide) (.slice a1 vs.length c1) vs rfl (HAb.o.alloc _) (λ_=>True) _ _ (.mk yk yn ys yl) rfl (cD _ _ _ _ rfl trivial) (au.ev eX.o (Ev.ao bM)) (by unfold maxLen;omega) (by omega) (by have:=dE.o.size;simp;omega) ?_;intro a2 c2 w2 bj dz bC;have dh:=af bj;have rG:Hd (aq w w2):=(dE.o.alloc dE.o.size _).trans bC;clear bj dz bC));all_goals(go_wp2;go_meet)
  all_goals exact⟨_,HY.o,af ⟨dh.o.slice lM.o,rG.o⟩⟩
 case rest=>
  obtain⟨u,ht,hc⟩:=hcut;have hs:=hc.o.1.open_;obtain⟨sa,sc,rfl,_⟩:=hs;go_wp2;go_ret;exact⟨_,rfl,⟨_,HT.o _ ht,hc.o.1⟩,hc.o.2⟩
def AQ {g:az}(h:bR w K (xK #[xS f.name,xI f.type.kind,xI f.type.of,xB f.indexed,xS g.name,xI g.type.kind,xI g.type.of,xB g.indexed] t))(hM:¬M K)(h1:f.name.size<=maxLen)(h2:g.name.size<=maxLen):ab M w (xL (some ⟨K,0,none⟩) 2 2) [f,g]:=by
 refine⟨[[xS f.name,xI f.type.kind,xI f.type.of,xB f.indexed],[xS g.name,xI g.type.kind,xI g.type.of,xB g.indexed]],⟨rfl,some ⟨K,0,none⟩,2,rfl,bN,by unfold maxLen;omega,λ_=>⟨K,0,rfl,hM,(Qaa.1 h).1,λj u hu=> ?_⟩⟩,rfl,λi cs x hc hx=> ?_⟩
 .simp only[World.cell?,h,Nat.zero_add];simpa using hu
 .match i,hc,hx with
  |0,hc,hx=>cases hc;cases hx;exact⟨rfl,h1⟩
  |1,hc,hx=>cases hc;cases hx;exact⟨rfl,h2⟩
  |i+2,hc,hx=>simp at hc
def PI(M:aN)(w:aj)(hM:Bd M w)(c:ax)(fv:an)(x:aC)(b:Bool)(g1 g2:an)(p:Nat)(pre post:List az)(f:az)(ha:iA c x.field pre f post)(hk:x.kind=5)(Nd:x.name.size<=maxLen)(hx3:x.more.size<=maxLen)(h8:c.fields.length<=8)
 (hp:bR w p (qR c.name fv x pre.length b g1 g2))(cq:ab M w fv c.fields):
 xG 303 #[xP p] w λv w'=>ab M w' v (bZ c x).fields:=by
 have ij:p<w.heap.size:=(Qaa.1 hp).1;have HW:=af (cN hp);have q1:=HW.o.c1;have q2:=HW.o.ca;have q4:=HW.o.c4;have q5:=HW.o.c5;have q6:=HW.o.c6;have q7:=HW.o.c7;have ru:c.fields[pre.length]? =some f:=by rw[ha.eq];simp
 have bu:pre.length<c.fields.length:=(Qad.1 ru).1;have qp:=af (show(bZ c x).fields=[c.fields.take pre.length,[⟨x.name,x.type,false⟩,⟨x.more,x.type,false⟩],c.fields.drop (pre.length+1)].flatten by
  rw[fh ha (by omega),ha.eq];simp[iQ,hk]);have fU:Hd (x.name.size<=maxLen/\x.more.size<=maxLen):=⟨Nd,hx3⟩;have lM:=af hM;obtain⟨a0,c0,rfl,cV,lL,ho⟩:=cq.open_;obtain⟨fb,off,rfl,_⟩:=ho (by omega);obtain⟨n,hn⟩:=jO (c.fields.length);obtain⟨i,hi⟩:=jO (pre.length);rw[hi]at bu qp q2 HW;rw[hn]at bu q1 cV cq h8 HW;have Jy:Hd (∀w2 W t v1 v2 v3,Bd M w2->di W w2 (xK #[v1,v2,v3] t)->aq w2 W->ab M w2 v1 (c.fields.take i)->ab M w2 v2 [(⟨x.name,x.type,false⟩:az),⟨x.more,x.type,false⟩]->ab M w2 v3 (c.fields.drop (i+1))->_):=λw2 W t v1 v2 v3 hM2 h1 h2 h3 h4 h5=>
  pd M W (hM2.below h2) w2.heap.size 3 [v1,v2,v3] [c.fields.take i,[⟨x.name,x.type,false⟩,⟨x.more,x.type,false⟩],c.fields.drop (i+1)] (yh h1 h2 h3 h4 h5) rfl (by simp;omega) (by omega);have qH:=af (cq.upto hn (k:=i) (by omega));have j6:=cq.from_ hn (k:=i+1) (by omega);have s1:i<=c0:=by omega
 have s2:i+1<=n:=by omega
 have s3:i+1<=c0:=by omega
 have s5:(i:Int)<=(i:Int)+1:=by omega
 have s6:IntKind.i64.wrap ((i:Int)+1)=(i:Int)+1:=Qbe _ (by omega);have s7:(0:Int)<=(i:Int)+1:=by omega
 have s8:(i:Int)+1<=(n:Int):=by omega
 have s9:((i:Int)+1).toNat=i+1:=by omega
 have gE:=af (show ab M w (xL (if c0=i+1 then some ⟨fb,off,none⟩else some ⟨fb,off+(i+1)*4,none⟩) (n-(i+1)) (c0-(i+1))) (c.fields.drop (i+1))by
  simpa [Addr.add,show au.size az=4 from rfl]using j6);obtain⟨ap,RP⟩:=jO ((if c0=i+1 then some (⟨fb,off,none⟩:Addr)else some ⟨fb,off+(i+1)*4,none⟩));rw[RP]at gE;have dr:Hd (∀W,aq w W->bt W p 1 (xL (some ⟨fb,off,none⟩) n c0)/\bt W p 10 (xI i)):=λW hb=>by
  have h:=HW.o.below ij hb;exact⟨h.c1,h.ca⟩
 clear cq ha hp ru ho j6 hM;go_enter func303,ntmps303;go_wp2_with fail;go_cut [3](λs3 wx=>∃K:Nat,s3=xL (some ⟨K,0,none⟩) 2 2/\Hd (ab M wx (xL (some ⟨K,0,none⟩) 2 2) [(⟨x.name,x.type,false⟩:az),⟨x.more,x.type,false⟩]/\aq w wx));case first=>
  have tl:Hd (¬M w.heap.size):=λh=>by have:=lM.o _ h;omega
  go_region;all_goals(go_wp2;go_meet)
  all_goals exact⟨_,rfl,af ⟨by first|exact AQ (Qbh w _) tl.o fU.o.1 fU.o.2|exact AQ (f:=⟨x.name,x.type,false⟩) (g:=⟨x.more,x.type,false⟩) (Qbh w.drew _) tl.o fU.o.1 fU.o.2,by first|exact bM.drew|exact(Qbg _ w).drew.alloc bN _⟩⟩
 case rest=>
  obtain⟨K,rfl,HV⟩:=hcut;obtain⟨w2,nK⟩:=bS (wc);subst nK;have HSA:=af (qH.o.below HV.o.2);have TN:=af (gE.o.below HV.o.2);have Jk:=af (lM.o.below HV.o.2);have ot:Hd (∀W,aq w2 W->bt W p 1 (xL (some ⟨fb,off,none⟩) n c0)/\bt W p 10 (xI i)):=λW hb=>dr.o _ (HV.o.2.trans (hb.mono HV.o.2.size));have q1:=(ot.o _ dQ).1;have q2:=(ot.o _ dQ).2;have HJ:Hd (aq w2 w2):=dQ;go_upto_region 2 with fail;go_cut [2](λs2 wx=>Hd (ab M wx s2 (bZ c x).fields/\aq w2 wx));case first=>
   go_region_held3(λw'=>w'.cell? ⟨p,1,none⟩=some (xL (some ⟨fb,off,none⟩) n c0)/\w'.cell? ⟨p,10,none⟩=some (xI i))
    (with_reducible first|exact ot.o _ rG.o|exact ot.o _ rG.o.drew|exact ot.o _ HJ.o|exact ot.o _ HJ.o.drew|exact ot.o _ (HJ.o.alloc HJ.o.size _)|exact ot.o _ ((HJ.o.alloc HJ.o.size _).drew)|exact ot.o _ (HJ.o.drew.alloc HJ.o.size _))
    ((go_at_call 332;refine(Jy.o w2 _ _ _ _ _ Jk.o (by first|exact Qbh w2 _|exact Qbh w2.drew _) (by first|exact bM.drew|exact(Qbg _ w2).drew.alloc bN _) HSA.o HV.o.1 TN.o).mono ?_;rintro e w1⟨_,rfl,hs,hb⟩;have HS:=af hs;have rG:Hd (aq w2 w1):=(by with_reducible first|exact af (It hb)|exact af (Zy hb)|exact af (Zz hb));clear hs hb));all_goals(go_wp2;go_meet)
   all_goals exact af ⟨by rw[qp.o];exact HS.o,rG.o⟩
  case rest=>
   have hs:=hcut.o.1.open_;obtain⟨sa,sc,rfl,_⟩:=hs;go_wp2;go_ret;exact⟨_,rfl,hcut.o.1,HV.o.2.trans (hcut.o.2.mono HV.o.2.size)⟩
def PJ {a4 b1 b2 b3 b4:an}{x1 x2:aA}(h:bR w K (xK #[a1,a2,a3,a4,b1,b2,b3,b4] t))(hM:¬M K)(r1:au.rep (α:=aA) M w [a1,a2,a3,a4] x1)(r2:au.rep (α:=aA) M w [b1,b2,b3,b4] x2):ab M w (xL (some ⟨K,0,none⟩) 2 2) [x1,x2]:=by
 refine⟨[[a1,a2,a3,a4],[b1,b2,b3,b4]],⟨rfl,some ⟨K,0,none⟩,2,rfl,bN,by unfold maxLen;omega,λ_=>⟨K,0,rfl,hM,(Qaa.1 h).1,λj u hu=> ?_⟩⟩,rfl,λi cs x hc hx=> ?_⟩
 .simp only[World.cell?,h,Nat.zero_add];simpa using hu
 .match i,hc,hx with
  |0,hc,hx=>cases hc;cases hx;exact r1
  |1,hc,hx=>cases hc;cases hx;exact r2
  |i+2,hc,hx=>simp at hc
def B7(M:aN)(w:aj)(hM:Bd M w)(c:ax)(fv vv:an)(x:aC)(b:Bool)(g1 g2:an)(many:Int)(p:Nat)(pre post:List az)(f:az)(vs:List aA)(ha:iA c x.field pre f post)(hk:x.kind=5)(h8:c.fields.length<=8)(Ge:aG x.type=true)(hg:iW M c many x.type x.expr w g1)(RM:iW M c many x.type x.other w g2)(hG:Gd w)
 (hp:bR w p (qR c.name fv x pre.length b g1 g2))(hv:bh c.fields many vs)(dA:ab M w vv vs):
 xG 304 #[xP p,vv] w λv w'=>∃us,gP c x many vs us/\ab M w' v us:=by
 have ij:p<w.heap.size:=(Qaa.1 hp).1;have HW:=af (cN hp);have ru:c.fields[pre.length]? =some f:=by rw[ha.eq];simp
 have bu:pre.length<vs.length:=by rw[hv.1];exact(Qad.1 ru).1
 have h8v:vs.length<=8:=by rw[hv.1];exact h8
 have HT:Hd (∀u1 u2,lB c x.type many x.expr vs u1->lB c x.type many x.other vs u2->gP c x many vs (vs.take pre.length++u1::u2::vs.drop (pre.length+1))):=λu1 u2 h1 h2=>GZ ha hk hv h1 h2;obtain⟨gf,lb,rfl,eg,Jr⟩:=hg;obtain⟨YM,YN,rfl,eg2,qbh⟩:=RM;have HCg:=gG (w:=w) (λW hb=>Jr Ge M (λi h=>h) (λi h=> .inl h) W (ai.ao hb) vv vs (dA.below hb) hv (hM.below hb) (hG.below hb));have HCh:=gG (w:=w) (λW hb=>qbh Ge M (λi h=>h) (λi h=> .inl h) W (ai.ao hb) vv vs (dA.below hb) hv (hM.below hb) (hG.below hb));have tl:Hd (∀W,aq w W->¬M W.heap.size):=λW hb h=>by have:=hM _ h;have:=hb.size;omega
 have lM:=af hM;obtain⟨a0,c0,rfl,cV,lL,ho⟩:=dA.open_;obtain⟨fb,off,rfl,_⟩:=ho (by omega);obtain⟨n,hn⟩:=jO (vs.length);obtain⟨i,hi⟩:=jO (pre.length);rw[hi]at bu HT HW;rw[hn]at bu cV dA h8v HCg HCh⊢;have fu:=dA.upto hn (k:=i) (by omega);have j6:=dA.from_ hn (k:=i+1) (by omega);have s1:i<=c0:=by omega
 have s2:i+1<=n:=by omega
 have s3:i+1<=c0:=by omega
 have s5:(i:Int)<=(i:Int)+1:=by omega
 have s6:IntKind.i64.wrap ((i:Int)+1)=(i:Int)+1:=Qbe _ (by omega);have s7:(0:Int)<=(i:Int)+1:=by omega
 have s8:(i:Int)+1<=(n:Int):=by omega
 have s9:((i:Int)+1).toNat=i+1:=by omega
 have qX:ab M w (xL (if c0=i+1 then some ⟨fb,off,none⟩else some ⟨fb,off+(i+1)*4,none⟩) (n-(i+1)) (c0-(i+1))) (vs.drop (i+1)):=by
  simpa [Addr.add,show au.size aA=4 from rfl]using j6
 obtain⟨ap,RP⟩:=jO ((if c0=i+1 then some (⟨fb,off,none⟩:Addr)else some ⟨fb,off+(i+1)*4,none⟩));rw[RP]at qX;have CW:∀y∈vs.take i,y∈vs:=λy h=>List.mem_of_mem_take h;have CX:∀y∈vs.drop (i+1),y∈vs:=λy h=>List.mem_of_mem_drop h;have dO:(vs.take i).length<=12:=by rw[Qdb];omega
 have er:(vs.drop (i+1)).length<=12:=by rw[List.length_drop];omega
 obtain⟨l1,Ct⟩:∃l,vs.take i=l:=⟨_,rfl⟩;obtain⟨l2,Bh⟩:∃l,vs.drop (i+1)=l:=⟨_,rfl⟩;rw[Ct]at fu CW dO HT;rw[Bh]at qX CX er HT;have Xm:=gG (w:=w) (λW hb=>kP hv CW dO M W _ (hM.below hb) (fu.below hb));have Xn:=gG (w:=w) (λW hb=>kP hv CX er M W _ (hM.below hb) (qX.below hb));have Jy:Hd (∀u1 u2 w2 W t v1 v2 v3,Bd M w2->di W w2 (xK #[v1,v2,v3] t)->aq w2 W->ab M w2 v1 l1->ab M w2 v2 [u1,u2]->ab M w2 v3 l2->_):=λu1 u2 w2 W t v1 v2 v3 hM2 h1 h2 h3 h4 h5=>
  sJ M W (hM2.below h2) w2.heap.size 3 [v1,v2,v3] [l1,[u1,u2],l2] (yh h1 h2 h3 h4 h5) rfl (by simp;omega) (by omega);have dr:Hd (∀W,aq w W->bt W p 10 (xI i)/\bt W p 12 (.func (.func gf) #[] lb)/\bt W p 13 (.func (.func YM) #[] YN)):=λW hb=>⟨(HW.o.below ij hb).ca,(HW.o.below ij hb).cc,(HW.o.below ij hb).cd⟩;have q1:=(dr.o _ dQ).1;have q2:=(dr.o _ dQ).2.1;have q3:=(dr.o _ dQ).2.2;have HJ:Hd (aq w w):=dQ;have KR:Hd (∀u1 u2:aA,[l1,[u1,u2],l2].flatten=l1++u1::u2::l2):=λu1 u2=>by simp
 clear dA ha hp ru ho fu j6 qX hM hv CW CX Ct Bh dO er Jr qbh hG;go_enter func304,ntmps304;go_upto_region 1 with fail;go_cut [5](λs5 wx=>∃(K:Nat)(u1 u2:aA),s5=xL (some ⟨K,0,none⟩) 2 2/\Hd (lB c x.type many x.expr vs u1/\lB c x.type many x.other vs u2)/\Hd (ab M wx (xL (some ⟨K,0,none⟩) 2 2) [u1,u2]/\aq w wx));case first=>
  go_region_held3(λw'=>w'.cell? ⟨p,12,none⟩=some (.func (.func gf) #[] lb)/\w'.cell? ⟨p,13,none⟩=some (.func (.func YM) #[] YN))
   (with_reducible first|exact(dr.o _ HJ.o).2|exact(dr.o _ HJ.o.drew).2|exact(dr.o _ fx.o).2|exact(dr.o _ fx.o.drew).2|exact(dr.o _ dE.o).2|exact(dr.o _ dE.o.drew).2|exact(dr.o _ (dE.o.alloc dE.o.size _)).2|exact(dr.o _ ((dE.o.alloc dE.o.size _).drew)).2|exact(dr.o _ (dE.o.drew.alloc dE.o.size _)).2)
   (first
     |(with_reducible refine(HCg.o _ (by with_reducible first|exact HJ.o|exact HJ.o.drew)).mono ?_
       rintro e wa⟨_,rfl,⟨⟨yk,yn,ys,yl⟩,hy,cs,rfl,bV⟩,hb⟩;obtain⟨av,rfl,bI,ke⟩:=eZ.iff.1 bV;obtain⟨ya,yc,rfl,_⟩:=bI.open_;have fx:Hd (aq w wa):=(by with_reducible first|exact af hb|exact af (It hb));have eX:=af bV;have HY:=af hy;clear hb bV bI ke hy)
     |(with_reducible refine(HCh.o _ (by with_reducible first|exact fx.o|exact fx.o.drew)).mono ?_
       rintro e wb⟨_,rfl,⟨⟨zk,zn,zs,zl⟩,hy,cs,rfl,bV⟩,hb⟩;obtain⟨av,rfl,bI,ke⟩:=eZ.iff.1 bV;obtain⟨za,zc,rfl,_⟩:=bI.open_;have Jz:Hd (aq wa wb):=(by with_reducible first|exact af hb|exact af (It hb));have dE:Hd (aq w wb):=fx.o.trans (Jz.o.mono fx.o.size);have qbi:=af (au.ev eX.o (Ev.ao Jz.o));have qej:=af bV;have HZ:=af hy;clear hb bV bI ke hy));all_goals(go_wp2;go_meet)
  all_goals exact⟨_,_,_,rfl,af ⟨HY.o,HZ.o⟩,af ⟨PJ (Qbh wb _) (tl.o _ dE.o) (au.ev qbi.o (Ev.ao bM)) (au.ev qej.o (Ev.ao bM)),dE.o.alloc dE.o.size _⟩⟩
 case rest=>
  obtain⟨K,u1,u2,rfl,HU,HV⟩:=hcut;obtain⟨w2,nK⟩:=bS (wc);subst nK;have HJ:Hd (aq w w2):=HV.o.2;have q1:=(dr.o _ HJ.o).1;go_upto_region 2 with fail;go_cut [4](λs4 wx=>Hd (ab M wx s4 (l1++u1::u2::l2)/\aq w wx));case first=>
   go_region_held3(λw'=>w'.cell? ⟨p,10,none⟩=some (xI i))
    (with_reducible first|exact(dr.o _ rG.o).1|exact(dr.o _ rG.o.drew).1|exact(dr.o _ HJ.o).1|exact(dr.o _ HJ.o.drew).1|exact(dr.o _ fx.o).1|exact(dr.o _ fx.o.drew).1|exact(dr.o _ dE.o).1|exact(dr.o _ dE.o.drew).1|exact(dr.o _ (dE.o.alloc dE.o.size _)).1|exact(dr.o _ ((dE.o.alloc dE.o.size _).drew)).1|exact(dr.o _ (dE.o.drew.alloc dE.o.size _)).1)
    (first
      |(go_at_call 331;with_reducible refine(Xm.o _ (by with_reducible first|exact HJ.o|exact HJ.o.drew)).mono ?_
        rintro e wa⟨_,rfl,hs,hb⟩;obtain⟨a1,c1,rfl,_⟩:=hs.open_;have HSA:=af hs;have H2A:Hd (aq w2 wa):=(by with_reducible first|exact af hb|exact af (It hb));have fx:Hd (aq w wa):=HJ.o.trans (H2A.o.mono HJ.o.size);clear hb hs)
      |(go_at_call 331;with_reducible refine(Xn.o _ (by with_reducible first|exact fx.o|exact fx.o.drew)).mono ?_
        rintro e wb⟨_,rfl,hs,hb⟩;obtain⟨a2,c2,rfl,_⟩:=hs.open_;have TN:=af hs;have Jz:Hd (aq wa wb):=(by with_reducible first|exact af hb|exact af (It hb));have dE:Hd (aq w wb):=fx.o.trans (Jz.o.mono fx.o.size);have Xo:=af (HSA.o.below Jz.o);have HVb:=af ((HV.o.1.below H2A.o).below Jz.o);have HMb:=af (lM.o.below dE.o);clear hb hs)
      |(go_at_call 333;refine(Jy.o u1 u2 wb _ _ _ _ _ HMb.o (by first|exact Qbh wb _|exact Qbh wb.drew _) (by first|with_reducible exact(Qbg _ wb).alloc bN _|exact bM.drew|exact(Qbg _ wb).drew.alloc bN _) Xo.o HVb.o TN.o).mono ?_;rintro e w1⟨_,rfl,hs,hb⟩;have HS:=af hs;have HBC:Hd (aq wb w1):=(by with_reducible first|exact af (It hb)|exact af (Zy hb)|exact af (Zz hb)|exact af (oB0 hb));have rG:Hd (aq w w1):=dE.o.trans (HBC.o.mono dE.o.size);clear hs hb));all_goals(go_wp2;go_meet)
   all_goals exact af ⟨by rw[<-KR.o];exact HS.o,rG.o⟩
  case rest=>
   have hs:=hcut.o.1.open_;obtain⟨sa,sc,rfl,_⟩:=hs;go_wp2;go_ret;exact⟨_,rfl,⟨_,HT.o _ _ HU.o.1 HU.o.2,hcut.o.1⟩,hcut.o.2⟩
def Kh {n:Nat}{xs:List aA}(h:aK M base e w (xL a n cap) xs){x:aA}(hx:xs[i]? =some x):
 ∃g c0 c1 c2 c3,a=some ⟨g,0,none⟩/\base<=g/\g<w.heap.size/\(w.cell? ⟨g,i*4,none⟩=some c0/\w.cell? ⟨g,i*4+1,none⟩=some c1/\w.cell? ⟨g,i*4+2,none⟩=some c2/\w.cell? ⟨g,i*4+3,none⟩=some c3)/\∀j,w.frozen? ⟨g,j,none⟩=false:=by
 obtain⟨css,h1,h2,h3⟩:=h;have ze:=(Qad.1 hx).1;obtain⟨cs,bJ⟩:=eB css i (by omega);have hlen:∀(k:Nat)(c:List Value),css[k]? =some c->c.length=4:=λk c hc=>by
  obtain⟨z,hz⟩:=eB xs k (by rw[<-h2];exact(Qad.1 hc).1);exact au.len (h3 k c z hc hz)
 obtain⟨hl,hv|⟨g,ig,cur,hv,hg,hh,hn,hm,hs,TE⟩⟩:=h1
 .have:=hv.2;omega
 .injection hv with ha hn' hc';have yV:=(Qaa.1 hh).1;have G:∀(j:Nat)(u:Value),cs[j]? =some u->w.cell? ⟨g,i*4+j,none⟩=some u:=λj u hj=>by
   have h4:=iu hlen i cs j u bJ hj;rw[<-TE]at h4;have h5:cur.toList[i*4+j]? =some u:=by
    rw[List.getElem?_take]at h4;split at h4
    .exact h4
    .cases h4
   simp only[World.cell?,hh];simpa using h5
  obtain⟨k,n,s,l⟩:=x;obtain⟨lv,rfl,_⟩:=eZ.iff.1 (h3 i cs _ bJ hx);exact⟨g,_,_,_,_,ha,hg,yV,⟨G 0 _ rfl,G 1 _ rfl,G 2 _ rfl,G 3 _ rfl⟩,λj=>ag hh j⟩
theorem aK.val {n:Nat}{xs:List aA}(h:aK M base e w (xL (some ⟨g,0,none⟩) n cap) xs)(hi:i<xs.length){k m:Int}{ca:Nat}
 (hl:ab (bg (xL (some ⟨g,0,none⟩) n cap) M) w (xL a l.length ca) l)(hs:s.size<=maxLen):
 aK M base e ((((w.setCell ⟨g,i*4,none⟩ (xI k)).setCell ⟨g,i*4+1,none⟩ (xI m)).setCell ⟨g,i*4+2,none⟩ (xS s)).setCell ⟨g,i*4+3,none⟩ (xL a l.length ca)) (xL (some ⟨g,0,none⟩) n cap) (xs.set i (.mk k m s l)):=by
 obtain⟨⟨k0,m0,s0,l0⟩,hx⟩:=eB xs i hi;have Bn:∀y:aA,(xs.set i y)[i]? =some y:=λy=>List.getElem?_set_self hi;have A1:=aK.cell h hx (j:=0) (by decide) (xI k) (y:= .mk k m0 s0 l0) (λcs W hr _=>by
  obtain⟨lv,rfl,h1,h2⟩:=eZ.iff.1 hr;exact eZ.iff.2 ⟨lv,rfl,h1,h2⟩);have A2:=aK.cell A1 (Bn _) (j:=1) (by decide) (xI m) (y:= .mk k m s0 l0) (λcs W hr _=>by
  obtain⟨lv,rfl,h1,h2⟩:=eZ.iff.1 hr;exact eZ.iff.2 ⟨lv,rfl,h1,h2⟩);rw[List.set_set]at A2;have A3:=aK.cell A2 (Bn _) (j:=2) (by decide) (xS s) (y:= .mk k m s l0) (λcs W hr _=>by
  obtain⟨lv,rfl,h1,h2⟩:=eZ.iff.1 hr;exact eZ.iff.2 ⟨lv,rfl,h1,hs⟩);rw[List.set_set]at A3;have RO:=hl.ev ((((Ev.refl _ _).setCell (p:=⟨g,i*4,none⟩) (.inl (.inr rfl)) (xI k)).setCell (p:=⟨g,i*4+1,none⟩) (.inl (.inr rfl)) (xI m)).setCell (p:=⟨g,i*4+2,none⟩) (.inl (.inr rfl)) (xS s));have A4:=aK.cell A3 (Bn _) (j:=3) (by decide) (xL a l.length ca) (y:= .mk k m s l) (λcs W hr hE=>by
  obtain⟨lv,rfl,h1,h2⟩:=eZ.iff.1 hr;exact eZ.iff.2 ⟨_,rfl,RO.ev hE,h2⟩);rw[List.set_set]at A4;exact A4
def EB(M:aN)(w:aj)(hM:Bd M w)(c:ax)(fv vv:an)(x:aC)(b:Bool)(g1 g2:an)(many:Int)(p:Nat)(pre post:List az)(f:az)(vs:List aA)(ha:iA c x.field pre f post)(hk:x.kind=4)(h8:c.fields.length<=8)(Ge:aG x.type=true)
 (hg:iW M c many x.type x.expr w g1)(hG:Gd w)(hp:bR w p (qR c.name fv x pre.length b g1 g2))(hv:bh c.fields many vs)(dA:ab M w vv vs):
 xG 301 #[xP p,vv] w λv w'=>∃us,gP c x many vs us/\ab M w' v us:=by
 have ij:p<w.heap.size:=(Qaa.1 hp).1;have HW:=af (cN hp);have ru:c.fields[pre.length]? =some f:=by rw[ha.eq];simp
 have bu:pre.length<vs.length:=by rw[hv.1];exact(Qad.1 ru).1
 have h8v:vs.length<=8:=by rw[hv.1];exact h8
 have HT:Hd (∀v,lB c x.type many x.expr vs v->gP c x many vs (vs.set pre.length v)):=λv h1=>by
  rw[List.set_eq_take_append_cons_drop,if_pos bu];exact Ly ha hk hv h1
 obtain⟨gf,lb,rfl,eg,Jr⟩:=hg;have Xm:=af (vd hv (us:=vs) (λ_ h=>h) (by omega) M w vv hM dA);have Xn:Hd (∀(N:aN)W,(∀i,M i->N i)->(∀i,N i->M i\/w.heap.size<=i)->Bd N W->aq w W->_):=λN W h1 h2 h3 hb=>Jr Ge N h1 h2 W (ai.ao hb) vv vs (dA.ev ⟨ai.ao hb,h2⟩) hv h3 (hG.below hb);have dr:Hd (∀W,aq w W->bt W p 10 (xI pre.length)/\bt W p 12 (.func (.func gf) #[] lb)):=λW hb=>⟨(HW.o.below ij hb).ca,(HW.o.below ij hb).cc⟩;obtain⟨y0,hy0⟩:=eB vs pre.length bu;have HY0:=af hy0;have lM:=af hM;obtain⟨i,hi⟩:=jO (pre.length);rw[hi]at bu HT dr HY0;obtain⟨a0,c0,rfl,cV,lL,ho⟩:=dA.open_;go_enter func301,ntmps301;go_wp2_with fail;refine(Xm.o).mono ?_;rintro e wa⟨_,rfl,hs,hb⟩;obtain⟨a1,c1,rfl,_⟩:=hs.open_;have HA:=af hs;have fx:=af hb;obtain⟨g,_,_,_,_,rfl,hgw,_⟩:=Kh hs HY0.o;have HBd:=af (BL HA.o (lM.o.below fx.o));have vP:Hd (∀i,M i->bg (xL (some ⟨g,0,none⟩) vs.length c1) M i):=λi h=> .inl h;have zL:Hd (∀i,bg (xL (some ⟨g,0,none⟩) vs.length c1) M i->M i\/w.heap.size<=i):=λi h=>h.imp_right λh=>(HA.o.cJ i h).1;have q1:=(dr.o _ fx.o).1;have q2:=(dr.o _ fx.o).2;go_upto_region 2 with fail;go_region_law(first
  |(try go_simp
    go_loud(refine(Xn.o (bg (xL (some ⟨g,0,none⟩) vs.length c1) M) wa.drew vP.o zL.o HBd.o fx.o.drew).mono ?_);rintro e wb⟨_,rfl,⟨⟨yk,yn,ys,yl⟩,hy,cs,rfl,bV⟩,hb⟩;obtain⟨av,rfl,bI,ke⟩:=eZ.iff.1 bV;obtain⟨ya,yc,rfl,_⟩:=bI.open_;have Jz:Hd (aq wa wb):=(by with_reducible first|exact af hb|exact af (It hb));have dE:Hd (aq w wb):=fx.o.trans (Jz.o.mono fx.o.size);have HAb:=af (HA.o.below Jz.o);have gp:=af bI;have rB:=af ke;have HY:=af hy;have k1:=(dr.o _ dE.o).1;have k2:=(dr.o _ dE.o).2;obtain⟨gb,v0,v1,v2,v3,KE,_,_,⟨z0,z1,z2,z3⟩,tH⟩:=Kh HAb.o HY0.o;obtain rfl:g=gb:=by injection KE with KE;injection KE
    have f0:=tH (i*4);have f1:=tH (i*4+1);have f2:=tH (i*4+2);have f3:=tH (i*4+3);clear hb bV bI ke hy tH));all_goals
  go_wp2;go_ret;exact⟨_,rfl,⟨_,HT.o _ HY.o,(aK.val HAb.o bu gp.o rB.o).slice lM.o⟩,(((dE.o.setCell (p:=⟨g,i*4,none⟩) hgw _).setCell (p:=⟨g,i*4+1,none⟩) hgw _).setCell (p:=⟨g,i*4+2,none⟩) hgw _).setCell (p:=⟨g,i*4+3,none⟩) hgw _⟩
def vE(k:Int):Nat:=if k=1 then 291 else if k=2 then 294 else if k=3 then 297 else if k=4 then 300 else if k=5 then 303 else 306
def sP(k:Int):Nat:=if k=1 then 292 else if k=2 then 295 else if k=3 then 298 else if k=4 then 301 else if k=5 then 304 else 298
def AR(h:pY w b p){k:Int}(hk:k=1\/k=2\/k=3\/k=4\/k=5\/k=6):(Instr.lookup 343 (.map (some b)) (xI k) false).run prog w= .ok (jd p (zz k) (vE k) (sP k)) w:=by
 obtain⟨es,clk,h0,h1,h2,h3,h4,h5,h6⟩:=h;rcases hk with rfl|rfl|rfl|rfl|rfl|rfl
 .exact kG h0 _ _ h1
 .exact kG h0 _ _ h2
 .exact kG h0 _ _ h3
 .exact kG h0 _ _ h4
 .exact kG h0 _ _ h5
 .exact kG h0 _ _ h6
def EC(hb:iZ c x=true)(hk:x.kind≠1):hasB c x.field=true:=by
 unfold iZ at hb;rw[if_neg hk]at hb;repeat'(split at hb)
 all_goals simp_all
def Iv(M:aN)(w:aj)(hM:Bd M w)(c:ax)(hc:cG c)(fv:an)(x:aC)(hx:qM c x)(hb:iZ c x=true)(g1 g2:an)(p:Nat)
 (hp:bR w p (qR c.name fv x (qB c x) (hasB c x.field) g1 g2))(cq:ab M w fv c.fields):
 xC (vE x.kind) #[xP p] w (cg w λv w'=>ab M w' v (bZ c x).fields):=by
 have h8:=((bo c).1 hc.right).2.1;have Kw:c.fields.length<=8:=by omega
 by_cases h1:x.kind=1
 .rw[h1];exact VE M w hM c fv x _ _ _ _ p h1 hx.s2 Kw hp cq
 .have hh:=EC hb h1;obtain⟨pre,f,post,ha⟩:=nr hc.right hh;rw[hh,show qB c x=(pre.length:Int)by unfold qB;rw[ha.at_,if_neg (by omega)]]at hp;have hk:x.kind=2\/x.kind=3\/x.kind=4\/x.kind=5\/x.kind=6:=by have:=hx.sh;simp only[np]at this;omega
  rcases hk with hk|hk|hk|hk|hk<;>rw[hk]
  .exact SN M w hM c fv x _ _ _ p pre post f ha hk Kw hp cq
  .exact Md M w hM c fv x _ _ _ p pre post f ha hk hx.s2 Kw hp cq
  .exact PB M w hM c fv x _ _ _ p pre post f ha hk Kw hp cq
  .exact PI M w hM c fv x _ _ _ p pre post f ha hk hx.s2 hx.s3 Kw hp cq
  .exact Me M w hM c fv x _ _ _ p pre post f ha hk Kw hp cq
def PK(M:aN)(w:aj)(hM:Bd M w)(c:ax)(hc:cG c)(fv vv:an)(x:aC)(hx:qM c x)(hb:iZ c x=true)(g1 g2:an)(many:Int)(p:Nat)(vs:List aA)
 (hg:iW M c many x.type x.expr w g1)(RM:iW M c many x.type x.other w g2)(hG:Gd w)
 (hp:bR w p (qR c.name fv x (qB c x) (hasB c x.field) g1 g2))(hv:bh c.fields many vs)(dA:ab M w vv vs):
 xC (sP x.kind) #[xP p,vv] w (cg w λv w'=>∃us,gP c x many vs us/\ab M w' v us):=by
 have h8:=((bo c).1 hc.right).2.1;have Kw:c.fields.length<=8:=by omega
 by_cases h1:x.kind=1
 .rw[h1];exact Iu M w hM c fv vv x _ _ _ _ many p vs h1 Kw (hx.type (.inl h1)) hp hg hG hv dA
 .have hh:=EC hb h1;obtain⟨pre,f,post,ha⟩:=nr hc.right hh;rw[hh,show qB c x=(pre.length:Int)by unfold qB;rw[ha.at_,if_neg (by omega)]]at hp;have hk:x.kind=2\/x.kind=3\/x.kind=4\/x.kind=5\/x.kind=6:=by have:=hx.sh;simp only[np]at this;omega
  rcases hk with hk|hk|hk|hk|hk<;>rw[hk]
  .exact EA M w hM c fv vv x _ _ _ many p pre post f vs ha hk Kw hp hv dA
  .exact ve M w hM c vv x many p pre post f vs ha (.inl hk) Kw hv dA
  .exact EB M w hM c fv vv x _ _ _ many p pre post f vs ha hk Kw (hx.type (.inr (.inl hk))) hg hG hp hv dA
  .exact B7 M w hM c fv vv x _ _ _ many p pre post f vs ha hk Kw (hx.type (.inr (.inr hk))) hg RM hG hp hv dA
  .exact ve M w hM c vv x many p pre post f vs ha (.inr hk) Kw hv dA
end Go.Proofs.YtepaofffbkfodaaGreatDoor
