/- a part; no condition -/
import Derived.Test.YtepaofffbkfodaaGreatDoorM36
set_option linter.all false
set_option maxHeartbeats 8000000
set_option maxRecDepth 100000
namespace Go.Proofs.YtepaofffbkfodaaGreatDoor
open Go.Proofs.Tryz
open Go.RowKit Go.Shelf
variable{clk b i K base g k:Nat}{w w' W W' W1 w1 w0 wr w2:aj}{v fv cv:an}{M M' F:aN}{o0 o:Obj}{id:Int}{t:TypeId}
abbrev YA:Obj:=xK #[xI 1,xI 3,xS ⟨#[]⟩,xL none 0 0] 44
abbrev YB(p:Nat):Obj:=xK #[xI 1,xI 0,xS ⟨#[99]⟩,xS ⟨#[]⟩,xI 0,xI 0,xS ⟨#[]⟩,xL none 0 0,xL (some ⟨p,0,none⟩) 1 1,xS ⟨#[]⟩,xL none 0 0,xI 0,xS ⟨#[]⟩,xS ⟨#[]⟩,xS ⟨#[]⟩,xI 0,xI 0,xS ⟨#[]⟩,xS ⟨#[]⟩,xI 3,xI (-1),xS ⟨#[]⟩,xS ⟨#[104,111,109,101]⟩,xI 0,xI 0,xS ⟨#[]⟩,xL none 0 0,xL none 0 0,xS ⟨#[]⟩,xL none 0 0,xI 0,xS ⟨#[]⟩,xS ⟨#[]⟩,xS ⟨#[]⟩,xI 0,xI 0,xS ⟨#[]⟩,xS ⟨#[]⟩] 53
abbrev Cn(f:Nat):an:= .agg #[.func (.func f) #[] #[]]
def ic {es:List (Int×an×Nat)}(h:bD dC w b es clk)(x:Int)(v:an)(hv:aZ es x=none):∃w',(Instr.mapUpdate 105 (.map (some b)) (xI x) v).run prog w= .ok () w'/\bD dC w' b (es++[(x,v,clk)]) (clk+1)/\ai (λi=>i=b) w w':=by
 obtain⟨h1,h2⟩:=bD.insert dC (.int .i64) oY (P:=prog) underlying105 underlying3 ey h x v hv;exact⟨_,h1,h2,(ai.refl (λi=>i=b) w).putObj (.inl rfl) _⟩
def jM(w:aj)(b:Nat):Prop:=∃es clk,bD dC w b es clk/\aZ es 1=some (Cn 65)/\aZ es 3=some (Cn 67)/\aZ es 5=some (Cn 69)/\aZ es 7=some (Cn 71)/\aZ es 8=some (Cn 72)
theorem jM.same(h:jM w b)(hb:w'.heap[b]? =w.heap[b]?):jM w' b:=by
 obtain⟨es,clk,h1,h2⟩:=h;exact⟨es,clk,hb.trans h1,h2⟩
theorem jM.lt(h:jM w b):b<w.heap.size:=by
 obtain⟨es,clk,h1,-⟩:=h;exact(Qaa.1 h1).1
theorem jM.look(h:jM w b){k:Int}{F:Nat}(hk:(k=1/\F=65)\/(k=3/\F=67)\/(k=5/\F=69)\/(k=7/\F=71)\/(k=8/\F=72)):(Instr.lookup 105 (.map (some b)) (xI k) false).run prog w= .ok (Cn F) w:=by
 obtain⟨es,clk,h1,h2,h3,h4,h5,h6⟩:=h;rcases hk with⟨rfl,rfl⟩|⟨rfl,rfl⟩|⟨rfl,rfl⟩|⟨rfl,rfl⟩|⟨rfl,rfl⟩
 .exact bD.ye dC underlying105 dW ey h1 1 _ h2
 .exact bD.ye dC underlying105 dW ey h1 3 _ h3
 .exact bD.ye dC underlying105 dW ey h1 5 _ h4
 .exact bD.ye dC underlying105 dW ey h1 7 _ h5
 .exact bD.ye dC underlying105 dW ey h1 8 _ h6
def Fc(w:aj):xC 29 #[] w λe w'=>∃b,e=xR (.map (some b))/\jM w' b/\w.heap.size<=b/\aq w w':=by
 have h0:bD dC (w.alloc (.map #[] 0)) w.heap.size [] 0:=(MapKept.heap_alloc w _).1;obtain⟨w0,uF⟩:=bS (w.alloc (.map #[] 0));rw[<-uF]at h0;obtain⟨w1,e1,h1,o1⟩:=ic h0 1 (Cn 65) rfl;obtain⟨w2,e2,h2,o2⟩:=ic h1 2 (Cn 66) rfl;obtain⟨w3,e3,h3,o3⟩:=ic h2 3 (Cn 67) rfl;obtain⟨w4,e4,h4,o4⟩:=ic h3 4 (Cn 68) rfl;obtain⟨w5,e5,h5,o5⟩:=ic h4 5 (Cn 69) rfl;obtain⟨w6,e6,h6,o6⟩:=ic h5 6 (Cn 70) rfl;obtain⟨w7,e7,h7,o7⟩:=ic h6 7 (Cn 71) rfl;obtain⟨w8,e8,h8,o8⟩:=ic h7 8 (Cn 72) rfl;obtain⟨w9,e9,h9,o9⟩:=ic h8 9 (Cn 74) rfl;obtain⟨tK,Tm,KQ,Q2⟩:=ic h9 10 (Cn 75) rfl;have HO:Hd (aq w tK):=((((ai.refl xF w).alloc (.map #[] 0)).cO (uF▸(((((((((o1.trans o2).trans o3).trans o4).trans o5).trans o6).trans o7).trans o8).trans o9).trans Q2)) (λi hi bu=>by subst hi;omega)).below);have HM:Hd (jM tK w.heap.size):=⟨_,_,KQ,rfl,rfl,rfl,rfl,rfl⟩;clear h0 h1 h2 h3 h4 h5 h6 h7 h8 h9 KQ o1 o2 o3 o4 o5 o6 o7 o8 o9 Q2;unfold Cn at e1 e2 e3 e4 e5 e6 e7 e8 e9 Tm;have wj:=eQ 105 w;rw[<-uF]at wj;clear uF;go_enter func29,ntmps29;go_wp2;go_ret;exact⟨_,rfl,HM.o,bN,HO.o⟩
def Bc(x:aX)(M:aN)(w:aj)(hM:Bd M w)(lv ov rv qv:an)(ja:ab M w lv x.lines)(kq:ab M w ov x.objs)(iM:ab M w rv x.roots)(reach:List Int)(hq:ab xF w qv reach)(uI:x.objs.length<=1000)(hlr:reach.length<=1000)(news:Int):
 xC 28 #[.agg #[lv,ov,rv,xI x.next],qv,xI news] w λe w'=>∃p:tB,e=xR (xP p.T)/\p.ov=ov/\p.rv=rv/\(∀z,w'.heap.size<=z->IU M z p)/\(∀i,lI p i->w.heap.size<=i)/\(∀W,Below w'.heap.size w' W->lV ⟨x.lines,x.next,reach,news,0,[],[],[],[]⟩ M W.heap.size p W)/\aq w w':=by
 have HM:=af hM;have No:=af ja;have HO:Hd (∀i o,x.objs[i]? =some o->_):=λi o ho=>jq kq ho;have HQ:Hd (∀i n,reach[i]? =some n->_):=λi n hn=>mA hq hn;obtain⟨la,lc,rfl,-⟩:=ja.open_;obtain⟨oa,oc,rfl,YX,hom,-⟩:=kq.open_;obtain⟨ra,rc,rfl,-⟩:=iM.open_;obtain⟨qa,qc,rfl,T2,XW,-⟩:=hq.open_;clear ja kq iM hq hM;generalize rF:x.lines.length=m1 at*;generalize CR:x.objs.length=m2 at*;generalize Ns:x.roots.length=m3 at*;generalize hm4:reach.length=m4 at*;generalize tJ:x.next=nx at*;have zJ:=af rF;clear rF;have Jk:=af CR;clear CR;have HM3:=af Ns;clear Ns;have HM4:=af hm4;clear hm4;have uK:=af tJ;clear tJ;have oF:=λW=>eQ 96 W;have ou:=λW=>eQ 113 W;have Bm:=λW=>eQ 114 W;have oy:=λW=>eQ 115 W;have qfh:∀(a1 a2 a3:fA)(l1 l2 l3 c1 c2 c3:Nat)(n:Int)(mb:Nat)(W:aj),(Instr.build 112 #[(0, .agg #[xL a1 l1 c1,xL a2 l2 c2,xL a3 l3 c3,xI n]),(1, .map (some mb))]).run prog W= .ok (.agg #[xL a1 l1 c1,xL a2 l2 c2,xL a3 l3 c3,xI n, .map (some mb)]) W:=λ_ _ _ _ _ _ _ _ _ _ _ W=>run_build W _ _ _ (by kernel_rfl);have qfi:∀(a1 a2 a3:fA)(l1 l2 l3 c1 c2 c3:Nat)(n nw:Int)(mb b3 b4 b5 b6 b9:Nat)(W:aj),(Instr.build 117 #[(0, .agg #[xL a1 l1 c1,xL a2 l2 c2,xL a3 l3 c3,xI n, .map (some mb)]),(1,xI nw),(3, .map (some b3)),(4, .map (some b4)),(5, .map (some b5)),(6, .map (some b6)),(9, .map (some b9))]).run prog W= .ok (.agg #[xL a1 l1 c1,xL a2 l2 c2,xL a3 l3 c3,xI n, .map (some mb),xI nw,xI 0, .map (some b3), .map (some b4), .map (some b5), .map (some b6),xL none 0 0,xL none 0 0, .map (some b9)]) W:=λ_ _ _ _ _ _ _ _ _ _ _ _ _ _ _ _ _ W=>run_build W _ _ _ (by kernel_rfl);have bW:=af (Bx.eD w (cw (xL la m1 lc) (xL oa m2 oc) (xL ra m3 rc) nx));obtain⟨a0,a1,a2,a3⟩:=ae (bW.o.bG rfl);go_enter func28,ntmps28;go_upto_region 2 with fail;obtain⟨p,hp⟩:=bS ((⟨w.heap.size+1+1+1+1+1+1+1,w.heap.size+1,w.heap.size+1+1,w.heap.size+1+1+1,w.heap.size+1+1+1+1,w.heap.size+1+1+1+1+1,w.heap.size+1+1+1+1+1+1,xL oa m2 oc,xL ra m3 rc⟩:tB));obtain⟨W1,bT⟩:=bS ((((((((w.alloc (xK #[xL la m1 lc,xL oa m2 oc,xL ra m3 rc,xI nx] 35)).alloc (.map #[] 0)).alloc (.map #[] 0)).alloc (.map #[] 0)).alloc (.map #[] 0)).alloc (.map #[] 0)).alloc (.map #[] 0)).alloc (xK #[xL la m1 lc,xL oa m2 oc,xL ra m3 rc,xI nx, .map (some (w.heap.size+1)),xI news,xI 0, .map (some (w.heap.size+1+1)), .map (some (w.heap.size+1+1+1)), .map (some (w.heap.size+1+1+1+1)), .map (some (w.heap.size+1+1+1+1+1)),xL none 0 0,xL none 0 0, .map (some (w.heap.size+1+1+1+1+1+1))] 117));have HB:=af (show Bx w [cw (xL la m1 lc) (xL oa m2 oc) (xL ra m3 rc) nx, .map #[] 0, .map #[] 0, .map #[] 0, .map #[] 0, .map #[] 0, .map #[] 0,E6 p (xL la m1 lc) nx news 0 (xL none 0 0) (xL none 0 0)] W1 by
  rw[bT,hp];exact((((Bx.GO w _ _ _ _ _).snoc (by simp) _).snoc (by simp) _).snoc (by simp) _));rw[<-bT];clear bT a0 a1 a2 a3 oF ou Bm oy qfh qfi bW;have uG:=af (show p.T=w.heap.size+7/\p.rb=w.heap.size+1/\p.mo=w.heap.size+2/\p.ml=w.heap.size+3/\p.mr=w.heap.size+4/\p.ms=w.heap.size+5/\p.sb=w.heap.size+6 by rw[hp];exact⟨rfl,rfl,rfl,rfl,rfl,rfl,rfl⟩);have HPV:=af (show p.ov=xL oa m2 oc/\p.rv=xL ra m3 rc by rw[hp];exact⟨rfl,rfl⟩);have q7:w.heap.size+1+1+1+1+1+1+1=p.T:=by rw[hp]
 have q6:w.heap.size+1+1+1+1+1+1=p.sb:=by rw[hp]
 have q5:w.heap.size+1+1+1+1+1=p.ms:=by rw[hp]
 have q4:w.heap.size+1+1+1+1=p.mr:=by rw[hp]
 have q3:w.heap.size+1+1+1=p.ml:=by rw[hp]
 have q2:w.heap.size+1+1=p.mo:=by rw[hp]
 have q1:w.heap.size+1=p.rb:=by rw[hp]
 rw[q7,q6,q5,q4,q3,q2,q1];clear q1 q2 q3 q4 q5 q6 q7 hp;have Jv:=af (show bR W1 p.T (E6 p (xL la m1 lc) nx news 0 (xL none 0 0) (xL none 0 0))by rw[uG.o.1];exact HB.o.at_ 7 rfl);have HRB:=af (show bR W1 p.rb (.map #[] 0)by rw[uG.o.2.1];exact HB.o.at_ 1 rfl);have Bk:=af (show bR W1 p.mo (.map #[] 0)by rw[uG.o.2.2.1];exact HB.o.at_ 2 rfl);have QH:=af (show bR W1 p.ml (.map #[] 0)by rw[uG.o.2.2.2.1];exact HB.o.at_ 3 rfl);have FH:=af (show bR W1 p.mr (.map #[] 0)by rw[uG.o.2.2.2.2.1];exact HB.o.at_ 4 rfl);have HMS:=af (show bR W1 p.ms (.map #[] 0)by rw[uG.o.2.2.2.2.2.1];exact HB.o.at_ 5 rfl);have TN:=af (show bR W1 p.sb (.map #[] 0)by rw[uG.o.2.2.2.2.2.2];exact HB.o.at_ 6 rfl);have uB:Hd (di W1 w (cw (xL la m1 lc) (xL oa m2 oc) (xL ra m3 rc) nx)):=HB.o.bG rfl;have N2:Hd (w.heap.size+8<=W1.heap.size):=HB.o.bF;have qfj:gj dC W1 p.rb (reach.take 0):=by rw[List.take_zero];exact gj.at_ HRB.o
 have Jj:Hd (gj dC W1 p.rb (reach.take 0)/\ai (λk=>k=p.rb) W1 W1):=⟨qfj,ai.refl _ _⟩;clear qfj;go_wp2;go_loopg [9,25]m4(λgg _ iv wr=>∃i:Nat,gg=m4-i/\i<=m4/\iv=xI i/\Hd (gj dC wr p.rb (reach.take i)/\ai (λk=>k=p.rb) W1 wr));case atStart=>exact⟨0,rfl,Qbf _,rfl,Jj⟩
 case round=>
  obtain⟨i,rfl,hi,rfl,HS⟩:=hrel;rename World=>wr;have Ab:Hd (aq w wr):=aS HB.o.1 HB.o.1.size HS.o.2 (λk hk=>by have hk:k=p.rb:=hk;have:=uG.o;omega);by_cases bu:i<m4
  .obtain⟨nn,yU⟩:=eB reach i (by have:=HM4.o;omega);obtain⟨b,off,cap,hv,cR,l8⟩:=HQ.o i nn yU;obtain⟨rfl,rfl⟩:=iB hv;have c0:=l8 wr Ab.o;obtain⟨-,-,c4,-⟩:=ec ((HS.o.2.block p.T (by have:=uG.o;have:=N2.o;omega) (by have:=uG.o;omega)).trans Jv.o);obtain⟨w2,T3,j6,nZ⟩:=MK HS.o.1 nn;have HN:Hd (gj dC w2 p.rb (reach.take (i+1))/\ai (λk=>k=p.rb) W1 w2):=⟨by rw[Qbb,yU];exact j6,HS.o.2.trans nZ⟩;clear hv cR l8 j6 nZ yU;go_wp2;go_roundg(m4-(i+1));case measure=>omega
   case rel=>exact⟨i+1,rfl,by omega,by go_num,HN⟩
  .obtain rfl:i=m4:=by omega
   obtain⟨-,a1,-,-⟩:=ae ((HS.o.2.block w.heap.size (by have:=N2.o;omega) (by have:=uG.o;omega)).trans uB.o);have HSR:=af (show gj dC wr p.rb reach by
    have h1:=HS.o.1;rw[Qah (by rw[HM4.o];exact bN)]at h1;exact h1);have JD:Hd ((∃l,fW (λk=>M k\/k=p.ml) wr p.ml l)/\gj dC wr p.rb reach/\ai (λk=>k=p.rb\/k=p.ml) W1 wr):=⟨⟨[],fW.at_ ((HS.o.2.block p.ml (by have:=uG.o;have:=N2.o;omega) (by have:=uG.o;omega)).trans QH.o)⟩,HSR.o,HS.o.2.mono λk hk=> .inl hk⟩;clear HS HSR;go_wp2;go_loopg [11,39]m2(λgg _ iv wq=>∃j:Nat,gg=m2-j/\j<=m2/\iv=xI j/\Hd ((∃l,fW (λk=>M k\/k=p.ml) wq p.ml l)/\gj dC wq p.rb reach/\ai (λk=>k=p.rb\/k=p.ml) W1 wq));case atStart=>exact⟨0,rfl,Qbf _,rfl,JD⟩
   case round=>
    obtain⟨j,rfl,hj,rfl,HS⟩:=hrel;rename World=>wq;have TY:Hd (aq w wq):=aS HB.o.1 HB.o.1.size HS.o.2.2 (λk hk=>by have hk:k=p.rb\/k=p.ml:=hk;have:=uG.o;omega);by_cases bu:j<m2
    .obtain⟨o,ho⟩:=eB x.objs j (by have:=Jk.o;omega);obtain⟨b,off,cap,va,vc,hv,cR,dA,l8⟩:=HO.o j o ho;obtain⟨rfl,rfl⟩:=iB hv;obtain⟨c0,c1,c2,c3⟩:=l8 wq TY.o;obtain⟨⟨l,Nz⟩,Y6,jx⟩:=HS.o;have zj:=af dA;clear hv cR l8 dA;go_upto_region 10 with fail;obtain⟨W6,nY⟩:=bS (wq.alloc (dV o (xL va o.aR.length vc)));have qt:=af (show aq wq W6 by rw[nY];exact bM);have C3:=af (show di W6 wq (dV o (xL va o.aR.length vc))by rw[nY];exact Qbh wq _);unfold dV at nY;rw[<-nY];clear nY c0 c1 c2 c3;have hvE:∀V,aq wq V->ab (λk=>M k\/k=p.ml) V (xL va o.aR.length vc) o.aR:=λV hb=>zj.o.ev ⟨ai.ao (TY.o.trans (hb.mono TY.o.size)),λk hk=>hk.imp_right λe=>by have:=uG.o;omega⟩;obtain⟨wa,ea,ma,na⟩:=(Nz.below qt.o).put (o:=o) (vv:=xL va o.aR.length vc) (.inr rfl) (hvE _ qt.o);obtain⟨wb,eb,mb,nb⟩:=(Nz.below qt.o.drew).put (o:=o) (vv:=xL va o.aR.length vc) (.inr rfl) (hvE _ qt.o.drew);have tJ:∀V V2,aq wq V->ai (λk=>k=p.ml) V V2->gj dC V2 p.rb reach/\ai (λk=>k=p.rb\/k=p.ml) W1 V2:=λV V2 hb h2=>⟨Y6.same ((h2.block _ (Qde Y6.lt hb.size) (by have:=uG.o;omega)).trans (hb.block _ Y6.lt)),(jx.trans (ai.ao hb)).trans (h2.mono λk hk=> .inr hk)⟩;have HNA:=af (And.intro (Exists.intro _ ma) (tJ _ _ qt.o na));have HNB:=af (And.intro (Exists.intro _ mb) (tJ _ _ qt.o.drew nb));obtain⟨x0,x1,x2,x3⟩:=ae C3.o;have Y5:=(qt.o.block p.T (by have:=uG.o;have:=N2.o;have:=jx.size;omega)).trans ((jx.block p.T (by have:=uG.o;have:=N2.o;omega) (by have:=uG.o;omega)).trans Jv.o);have y8:bt W6 p.T 8 (.map (some p.ml)):=by unfold E6 at Y5;simp[World.cell?,Y5]
     dsimp only[rh]at ea eb;clear Nz Y6 jx hvE ma na mb nb tJ Y5;go_region_law fail;all_goals
      clear x0 x1 x2 x3 y8 ea eb;go_wp2;go_roundg(m2-(j+1));case measure=>omega
      case rel=>first|exact⟨j+1,rfl,by omega,by go_num,HNB⟩|exact⟨j+1,rfl,by omega,by go_num,HNA⟩
    .obtain rfl:j=m2:=by omega
     go_wp2;go_ret;obtain⟨-,Y6,jx⟩:=HS.o;have hP:=uG.o;have hz:=N2.o;have hzq:=jx.size;have qb6:∀k,k<W1.heap.size->k≠p.rb->k≠p.ml->wq.heap[k]? =W1.heap[k]? :=λk hk h1 h2=>jx.block k hk (λhh=>hh.elim h1 h2);have hS:∀k,lI p k->w.heap.size+1<=k/\k<=w.heap.size+7:=λk hk=>by
      unfold lI at hk;omega
     refine⟨p,rfl,HPV.o.1,HPV.o.2,λz hzz=>⟨λk hk=>by have:=hS k hk;omega,λk hk=>by have:=HM.o k hk;omega,?_⟩,λk hk=>by have:=hS k hk;omega,λW hb=> ?_,TY.o⟩
     .obtain⟨e1,e2,e3,e4,e5,e6,e7⟩:=hP;rw[e1,e2,e3,e4,e5,e6,e7];simp
     .have hE:Ev M w (bg (xL none 0 0) (qD M p)) wq:=⟨ai.ao TY.o,λk hk=>by
       rcases hk with(hk|hk)|hk
       .exact .inl hk
       .right;have:=hS k hk;omega
       .cases hk⟩;have ou:∀k,k<W1.heap.size->k≠p.rb->k≠p.ml->W.heap[k]? =W1.heap[k]? :=λk hk h1 h2=>(hb.block k (by omega)).trans (qb6 k hk h1 h2);refine⟨⟨xL la m1 lc,xL none 0 0,xL none 0 0,?_,(No.o.ev hE).below hb,ab.nil _ _,aK.nil _ _ _ _,fW.at_ ((ou _ (by omega) (by omega) (by omega)).trans Bk.o)⟩,Y6.same (hb.block _ Y6.lt),ia.at_ ((ou _ (by omega) (by omega) (by omega)).trans FH.o),(ou _ (by omega) (by omega) (by omega)).trans HMS.o,gj.at_ ((ou _ (by omega) (by omega) (by omega)).trans TN.o),bN⟩;exact(ou _ (by omega) (by omega) (by omega)).trans Jv.o
section
attribute [local go_sem]Oper.semAt_some
def Be:aA->Prop| .mk k _ _ l=>k≠3/\k≠4/\l=[]
def I2(k n:Int)(s:aM)(a:fA)(c:Nat)(hk:k≠3/\k≠4)(y:an)(w:aj):xC 135 #[.agg #[xI k,xI n,xS s,xL a 0 c],y] w (cr (xB true) w):=by
 have h3:(k==3)=false:=by simpa using hk.1
 have h4:(k==4)=false:=by simpa using hk.2
 have HX:=af (Bx.eD w (eN k n s (xL a 0 c)));clear hk;go_enter func135,ntmps135;go_upto_region 1 with fail;obtain⟨W1,bT⟩:=bS (w.alloc (eN k n s (xL a 0 c)));rw[<-bT]at HX;unfold eN at bT;rw[<-bT];clear bT;obtain⟨c0,c1,c2,c3⟩:=ae (HX.o.bG rfl);go_wp2;go_loopg [6,22]0(λgg _ iv wr=>gg=0/\iv=xI 0/\wr=W1);case atStart=>exact⟨rfl,rfl,rfl⟩
 case round=>
  obtain⟨rfl,rfl,rfl⟩:=hrel;go_wp2;go_ret;exact⟨rfl,HX.o.1⟩
def lX(a:fA)(n c:Nat)(w:aj):xC 64 #[xL a n c] w λe w'=>e=xR (.func (.func 134) #[] #[xP w.heap.size])/\w.alloc (xK #[xL a n c] 42)=w':=by
 have CA:∀(fn:Fn)(first cap:Array an)(w:aj),(Instr.makeFunc fn first cap).run prog w= .ok (.func fn first cap) w:=λ_ _ _ _=>rfl;go_enter func64,ntmps64;go_wp2;go_ret;exact⟨rfl,rfl⟩
def MO(vs:List aA)(T4:∀v∈vs,Be v)(M:aN)(p:Nat)(w0 w:aj)(hw:aq w0 w)(vv:an)(dA:ab M w0 vv vs)(hp:bR w p (xK #[vv] 42)):
 G9 (β:=Nat) prog 134 #[xP p] w xF 0 0 (λ_ _ _ _=>False) (λ_=>True):=by
 intro J Jx W hz hb hJ UF hY h0;have HJ:=af hJ;have CU:=hw.size;have ij:p<w.heap.size:=(Qaa.1 hp).1;have hp0:bt W p 0 vv:=one_cell ((hb.block p ij).trans hp);have jN:Hd (aq w0 W):=hw.trans (hb.mono CU);have HC:Hd (∀(i:Nat)(k n:Int)(s:aM)(ll:List aA),vs[i]? =some (.mk k n s ll)->_):=λi k n s ll hx=>dy dA hx;have HNR:=af T4;have Ty:=af h0;obtain⟨a,bQ,rfl,cV,lL,_⟩:=dA.open_;generalize hn:vs.length=n at*;have eF:=af hn;refine callsIn_of_wp func134 rfl trivial ?_ rfl;simp only[ntmps134,List.size_toArray,Qcc,Qcd,Nat.reduceAdd,Nat.reduceSub,Array.replicate_succ,Array.replicate_zero,List.push_toArray,List.append_toArray,List.nil_append,List.cons_append];gi_wp2_with fail;gi_loopw [4,7](λ_ k wr=>∃i:Nat,k=xI i/\i<=n/\Hd (J 0 wr)/\Hd (aq w0 wr))(λ_ k _=>n-(intOf k).toNat);case atStart=>exact⟨0,rfl,Qbf _,Ty,jN⟩
 case round=>
  obtain⟨i,rfl,hi,QY,HB⟩:=hrel;by_cases bu:i<n
  .obtain⟨⟨xk,xn,xs,xl⟩,hx⟩:=eB vs i (by rw[eF.o];exact bu);obtain⟨b,off,cap,a',c',hv,cR,bI,ke,ay⟩:=HC.o i xk xn xs xl hx;obtain⟨rfl,rfl⟩:=iB hv;obtain⟨⟨g0,g1,g2,g3⟩,_⟩:=ay wr HB.o;obtain⟨Bm,oy,rfl⟩:xk≠3/\xk≠4/\xl=[]:=HNR.o _ (Qaf hx);have br:=af (I2 xk xn xs a' c' ⟨Bm,oy⟩ (.func (.yield (w.heap.size+1)) #[] #[]) (wr.alloc (xK #[xI xk,xI xn,xS xs,xL a' 0 c'] 44)));dsimp only[List.length_nil]at g3;gi_wp2_with fail;refine⟨trivial,rfl,(callsIn_wide.2 br.o).mono ?_⟩;rintro e W3⟨rfl,bP⟩;have eA:aq wr W3:=bM.trans (bP.mono (by simp));have UG:Hd (J 0 W3):=HJ.o 0 wr W3 QY.o (ai.ao eA);have bO:Hd (aq w0 W3):=HB.o.trans (eA.mono HB.o.size);gi_wp2_with fail;go_roundw;case rel=>exact⟨i+1,by go_num,by omega,UG,bO⟩
   case measure=>simp[intOf];omega
  .obtain rfl:i=n:=by omega
   gi_wp2_with fail;refine bodyPost_end (results_none rfl _ _ _) rfl ?_;exact⟨⟨_,rfl⟩, .inl ⟨0,trivial,QY.o⟩⟩
def I3(vs:List aA)(T4:∀v∈vs,Be v)(M:aN)(p:Nat)(w0 w:aj)(hw:aq w0 w)(vv:an)(dA:ab M w0 vv vs)(hp:bR w p (xK #[vv] 42)){g:Operand}{ps:Array Tmp}{assign body:Code}{Q:Exit->Act->aj->Prop}{a:Act}
 (hg:a.eval g= .func (.func 134) #[] #[xP p])(hdone:∀W,aq w W->di W w (.deferred (some []))->Q .normal {a with defers:=Vn w::a.defers} W):(Code.rangeFunc g ps assign body).wp prog Q a w:=by
 refine wpIn_wide.1 (pV hg (enters_of func134 (by kernel_rfl) rfl) xF 0 0 (λ_ _ _ _=>False) (λ_=>True) (MO vs T4 M p w0 w hw vv dA hp) (λi args i' W h=>h.elim) (λi hi=>hi.elim)
  (λ(_:Nat)W=>aq w W) (λ_ _=>False) (λi A B h ho=>aS h h.size ho (λj hj=>hj.1)) (λc A B h _=>h) dQ ?hround ?hdone ?hstop);case hstop=>intro c W h;exact h.elim
 case hround=>intro l s args s' W _ h;exact h.elim
 case hdone=>exactλs W _ hb hd=>hdone W hb hd
end
structure pF where
 kind:Int
 id:Int
 cls:aM
 name:aM
 aR:List aA
 dfn:ax
abbrev SX(o:pF)(vv df:an):List an:=[xI o.kind,xI o.id,xS o.cls,xS o.name,xI 0,xI 0,xS ⟨#[]⟩,xL none 0 0,vv,xS o.dfn.name,df,xI 0,xS ⟨#[]⟩,xS ⟨#[]⟩,xS ⟨#[]⟩,xI 0,xI 0,xS ⟨#[]⟩,xS ⟨#[]⟩]
def yC(o:pF)(vv df:an):Prop:=(o.aR=[]->vv=xL none 0 0)/\(o.dfn.fields=[]->df=xL none 0 0)
instance:au pF where
 size:=19
 rep:=λM w cs o=>∃vv df,cs=SX o vv df/\ab M w vv o.aR/\ab M w df o.dfn.fields/\yC o vv df
 len:=λ⟨_,_,h,_⟩=>by rw[h];rfl
 flat:=λ⟨_,_,h,h1,h2,_⟩u hu=>by
  rw[h]at hu;simp at hu;rcases hu with rfl|rfl|rfl|rfl|rfl|rfl|rfl|rfl|rfl|rfl|rfl|rfl|rfl|rfl|rfl|rfl|rfl|rfl|rfl;all_goals first|rfl|exact eK h1|exact eK h2
 ev:=λ⟨vv,fv,h,h1,h2,h3⟩k=>⟨vv,fv,h,h1.ev k,h2.ev k,h3⟩
def Co {l:List pF}(h:ab M w v l){r:pF}(hr:l[i]? =some r):∃b off cap vv fv,v=xL (some ⟨b,off,none⟩) l.length cap/\ab M w vv r.aR/\ab M w fv r.dfn.fields/\yC r vv fv/\∀W,aq w W->W.rangeAt b (off+i*19) (SX r vv fv):=by
 obtain⟨a,cap,rfl,hl,_,hc⟩:=h.open_;have hk:=(Qad.1 hr).1;obtain⟨b,off,rfl,_,hb,aL⟩:=hc (by omega);obtain⟨cs,⟨vv,fv,rfl,hs,hf,T5⟩,bJ⟩:=aL i _ hr;refine⟨b,off,cap,vv,fv,rfl,hs,hf,T5,λW hB j u hu=> ?_⟩;exact(hB.cell (p:=⟨b,off+i*19+j,none⟩) hb).trans (bJ j u hu)
def eL {ops:Array Oper}{rest:List Oper}{op:Oper}{a:Act}{Q:Exit->Act->aj->Prop}(hw:Region.wanted op (yielded ops a.tmps)=true)(x:Operand)(ho:op.op= .load 53 x)(b o:Nat)(hx:a.eval x= .pointer (some ⟨b,o,none⟩)){r:pF}{vv:an}(h:w.rangeAt b o (SX r vv fv))
 (hk:wpList prog ops Q rest (a.put op.dst (A6 r.kind r.id r.cls r.name vv r.dfn.name fv)) w):wpList prog ops Q (op::rest) a w:=
 wpList_step λK hK=>by rw[if_pos hw];exact wp_load_mid 53 x ho b o hx _ _ h underlying53 rfl ir (hK _ _ hk)
def I4:Obj:=eG 0 0 ⟨#[]⟩ ⟨#[]⟩ (xL none 0 0) ⟨#[]⟩ (xL none 0 0)
def mM(wr:aj):(wr.alloc I4).there wr.heap.size 0 19:=mL (Qbh wr I4) (by simp)
def kJ(wr:aj)(k id:Int)(c n:aM)(vv:an)(dn:aM)(df:an):((wr.alloc I4).setCells wr.heap.size 0 [xI k,xI id,xS c,xS n,xI 0,xI 0,xS ⟨#[]⟩,xL none 0 0,vv,xS dn,df,xI 0,xS ⟨#[]⟩,xS ⟨#[]⟩,xS ⟨#[]⟩,xI 0,xI 0,xS ⟨#[]⟩,xS ⟨#[]⟩]).heap[wr.heap.size]? =some (eG k id c n vv dn df)/\aq wr ((wr.alloc I4).setCells wr.heap.size 0 [xI k,xI id,xS c,xS n,xI 0,xI 0,xS ⟨#[]⟩,xL none 0 0,vv,xS dn,df,xI 0,xS ⟨#[]⟩,xS ⟨#[]⟩,xS ⟨#[]⟩,xI 0,xI 0,xS ⟨#[]⟩,xS ⟨#[]⟩]):=by
 have h0:(wr.alloc I4).heap[wr.heap.size]? =some I4:=Qbh wr I4;refine⟨qU h0 rfl,?_⟩;have ho:=kU wr.heap.size [xI k,xI id,xS c,xS n,xI 0,xI 0,xS ⟨#[]⟩,xL none 0 0,vv,xS dn,df,xI 0,xS ⟨#[]⟩,xS ⟨#[]⟩,xS ⟨#[]⟩,xI 0,xI 0,xS ⟨#[]⟩,xS ⟨#[]⟩] 0 (ai.refl _ (wr.alloc I4));exact aS ((Qbg _ wr).alloc bN I4) (by simp) ho (λi hi=>by have hi:i=wr.heap.size:=hi;omega)
def madeOf(l:List pF):Nat:=(l.filter (λo=>decide (o.kind=1))).length
def Bf {l:List pF}{o:pF}(h:l[i]? =some o):madeOf (l.take (i+1))=madeOf (l.take i)+(if o.kind=1 then 1 else 0):=by
 unfold madeOf;rw[Qbb,h,List.filter_append,Qda];by_cases hk:o.kind=1<;>simp[hk]
def Kq(l:List pF):madeOf l<=l.length:=List.length_filter_le _ _
def sY(l:List pF)(i:Nat):madeOf (l.take i)<=l.length:=Qcg (Kq _) (by simp;omega)
def pG(M:aN)(w:aj)(o:pF):Prop:=∀(W:aj)(vv df:an),aq w W->ab M W vv o.aR->ab M W df o.dfn.fields->yC o vv df->xC 15 #[A6 o.kind o.id o.cls o.name vv o.dfn.name df] W (cr (xB true) W)
def V5(r:Nat):Deferred:={target:= .collected r,args:= #[]}
structure Rx(w:aj)(o0:Obj)(K:Nat)(m:Int)(ds:List Deferred)(W:aj):Prop where
 bx:Bx w [o0] W
 cnt:W.heap[K]? =some (de 3 (xI m))
 marks:∃rs:List Nat,ds=rs.map V5/\rs.Nodup/\∀r∈rs,K<r/\W.heap[r]? =some (.deferred (some []))
theorem Rx.below {m:Int}{ds:List Deferred}(h:Rx w o0 K m ds W)(hb:aq W W'):Rx w o0 K m ds W':=by
 obtain⟨rs,h1,h2,h3⟩:=h.marks;exact⟨h.bx.below hb,(hb.block _ (Qaa.1 h.cnt).1).trans h.cnt,rs,h1,h2,λr hr=>⟨(h3 r hr).1,(hb.block _ (Qaa.1 (h3 r hr).2).1).trans (h3 r hr).2⟩⟩
theorem Rx.mark {m:Int}{ds:List Deferred}(h:Rx w o0 K m ds W)(hb:aq W W')(hd:W'.heap[W.heap.size]? =some (.deferred (some []))):Rx w o0 K m (Vn W::ds) W':=by
 have h':=h.below hb;obtain⟨rs,h1,h2,h3⟩:=h.marks;obtain⟨rs',h1',h2',h3'⟩:=h'.marks;have e:rs'=rs:=by
  have h9:rs'.map V5=rs.map V5:=by rw[<-h1',h1]
  have qfk:∀(a b:List Nat),a.map V5=b.map V5->a=b:=λa=>by
   induction a with
   |nil=>intro b hb;cases b with
    |nil=>rfl
    |cons x y=>simp at hb
   |cons x y ih=>intro b hb;cases b with
    |nil=>simp at hb
    |cons x' y'=>
     rw[List.map_cons,List.map_cons,List.cons.injEq]at hb;have:x=x':=by have:=hb.1;unfold V5 at this;simpa using this
     rw[this,ih y' hb.2]
  exact qfk _ _ h9
 have hK:=(Qaa.1 h.cnt).1;refine⟨h'.bx,h'.cnt,W.heap.size::rs,by rw[List.map_cons,<-h1];rfl,List.nodup_cons.2 ⟨λhr=> ?_,h2⟩,λr hr=> ?_⟩
 .have:=(Qaa.1 (h3 _ hr).2).1;omega
 .rcases Qdf.1 hr with rfl|hr
  .exact⟨hK,hd⟩
  .exact h3' r (by rw[e];exact hr)
theorem sZ {F:Fence}{n:Nat}{P:Program}{fn:Func}{tmps:Array an}{R:Ending->aj->Prop}(hv:∀W,(results fn tmps).run P W= .ok v W){z:Nat}:∀{rs:List Nat}{W:aj},rs.Nodup->(∀r∈rs,z<=r/\bR W r (.deferred (some [])))->z<=W.heap.size->(∀W',Below z W W'->R (xR v) W')->LeavesInM F n P fn tmps R (rs.map V5) .returning W
 |[],W,_,_,_,hR=>⟨v,hv W,hR W dQ⟩
 |r::rs,W,hn,hr,hz,hR=>by
  have h1:=hr r List.mem_cons_self;refine⟨by simp, .inl ⟨r,_,rfl,run_takeDeferred h1.2,?_⟩⟩;have ho:ai (λi=>i=r) W (W.putObj r (.deferred none)):=(ai.refl (λi=>i=r) W).putObj (.inl rfl) _;have hb:Below z W (W.putObj r (.deferred none)):=aS (Qbg _ W) hz ho (λi hi=>by have hi:i=r:=hi;omega);refine sZ hv (List.nodup_cons.1 hn).2 (λq hq=>⟨(hr q (List.mem_cons_of_mem _ hq)).1,?_⟩) (Qcg hz hb.size) (λW' l6=>hR W' (hb.trans l6));have hq2:=(hr q (List.mem_cons_of_mem _ hq)).2;have hne:q≠r:=λe=>(List.nodup_cons.1 hn).1 (by rw[<-e];exact hq);exact(ho.block q (Qaa.1 hq2).1 hne).trans hq2
def Qc(w:aj):ab xF (w.alloc (xK iH 44)) (xL (some ⟨w.heap.size,0,none⟩) 1 1) [aA.mk 0 0 ⟨#[]⟩ []]:=by
 refine⟨[[xI 0,xI 0,xS ⟨#[]⟩,xL none 0 0]],(cD w iH 44 4 rfl (F:=λi=>¬False) (λh=>h)),rfl,λi cs x hc hx=> ?_⟩;cases i with
 |succ i=>simp at hx
 |zero=>
  simp at hc hx;subst hc;subst hx;exact eZ.iff.2 ⟨_,rfl,ab.nil _ _,jH⟩
def Kr(nx:Int)(tJ:0<=nx/\nx<=200000)(l:List pF)(hl:l.length<=20)(M:aN)(w:aj)(lv ov rv qv:an)(ja:∃a n c,lv=xL a n c)(kq:∃a n c,ov=xL a n c)(iM:∃a n c,rv=xL a n c)(hq:ab M w qv l)(hR:∀o∈l,pG M w o)(wu:madeOf l=0\/nx+madeOf l-1<=100000)(hid:∀o∈l,-(madeOf l:Int)<=o.id/\o.id<=100000)(T4:∀o∈l,∀v∈o.aR,Be v):
 xC 27 #[.agg #[lv,ov,rv,xI nx],qv] w (cr (xI (madeOf l)) w):=by
 have zf:Hd (∀W,aq w W->∀i r,l[i]? =some r->_):=λW hb i r hr=>Co (hq.below hb) hr;have KC:=af hR;have XZ:=af hid;have HNR:=af T4;have US:=af wu;have QH:=af (sY l);obtain⟨la,m1,lc,rfl⟩:=ja;obtain⟨oa,m2,oc,rfl⟩:=kq;obtain⟨ra,m3,rc,rfl⟩:=iM;obtain⟨qa,qc,rfl,T2,XW,-⟩:=hq.open_;have CQ:=af (kI 170);clear hq hR hid T4 wu;generalize hn:l.length=n at*;have tz:=af hn;clear hn;have bW:=af (Bx.eD w (cw (xL la m1 lc) (xL oa m2 oc) (xL ra m3 rc) nx));have hle:((n:Int)<=20):=by omega
 refine callsIn_wide.1 (callsIn_of_wp_marks (n:=0) func27 rfl trivial (wpIn_wide.2 ?_) rfl);simp only[ntmps27,List.size_toArray,Qcc,Qcd,Nat.reduceAdd,Nat.reduceSub,Array.replicate_succ,Array.replicate_zero,List.push_toArray,List.append_toArray,List.nil_append,List.cons_append];go_upto_region 1 with fail;obtain⟨W0,vT⟩:=bS (w.alloc (cw (xL la m1 lc) (xL oa m2 oc) (xL ra m3 rc) nx));rw[<-vT]at bW;unfold cw at vT;rw[<-vT];clear vT;go_wp2_with fail;refine(CQ.o _).mono ?_;rintro e T6⟨rfl,rfl⟩;go_upto_region 3 with fail;obtain⟨W1,bT⟩:=bS (T6.alloc (de 3 (xI 0)));have aY:=af (show Bx w [cw (xL la m1 lc) (xL oa m2 oc) (xL ra m3 rc) nx] W1 by rw[bT];exact bW.o.alloc _);have fL:=af (show di W1 T6 (de 3 (xI 0))by rw[bT];exact Qbh T6 _);have KP:Hd (w.heap.size+1<=T6.heap.size):=bW.o.bF;unfold de at bT;rw[<-bT];clear bT;generalize hKK:T6.heap.size=K at*;have fL:=af (show bR W1 K (de 3 (xI 0))by first|exact fL.o|(rw[<-hKK];exact fL.o));clear hKK;have gM:Hd (Bx w [cw (xL la m1 lc) (xL oa m2 oc) (xL ra m3 rc) nx] W1/\bR W1 K (de 3 (xI (madeOf (l.take 0):Int)))):=⟨aY.o,fL.o⟩;go_wp2;go_loopg [7,18]n(λgg _ iv wr=>∃i:Nat,gg=n-i/\i<=n/\iv=xI i/\Hd (Bx w [cw (xL la m1 lc) (xL oa m2 oc) (xL ra m3 rc) nx] wr/\bR wr K (de 3 (xI (madeOf (l.take i):Int)))));case atStart=>exact⟨0,rfl,Qbf _,rfl,gM⟩
 case round=>
  obtain⟨i,rfl,hi,rfl,HS⟩:=hrel;rename World=>wr;by_cases bu:i<n
  .obtain⟨o,ho⟩:=eB l i (by have:=tz.o;omega);obtain⟨b,off,cap,vv,df,C2,kZ,CS,T5,JE⟩:=zf.o wr HS.o.1.1 i o ho;obtain⟨rfl,rfl⟩:=iB C2;have NB:=af (JE wr dQ);have N0:=gG (w:=wr) (λW hb=>KC.o o (Qaf ho) W vv df (HS.o.1.1.trans (hb.mono HS.o.1.1.size)) (kZ.below hb) (CS.below hb) T5);have hmt:=Bf ho;obtain⟨va,vc,rfl,-⟩:=kZ.open_;obtain⟨da,dc,rfl,-⟩:=CS.open_;have HMT:=af hmt;have Ti:=QH.o i;clear C2 kZ CS T5 JE hmt;generalize o.aR.length=vn at*;generalize o.dfn.fields.length=dn at*;have yY:=kJ wr o.kind o.id o.cls o.name (xL va vn vc) o.dfn.name (xL da dn dc);have tD:=mM wr;unfold I4 eG at yY tD;have zZ:=af yY;have ry:=af tD;clear yY tD;go_upto_region 5 with fail;iterate 4 go_step
   refine eL rfl (.tmp 20) rfl b (off+i*19) rfl NB.o ?_;iterate 3 go_step
   refine wpList_store_mid ?_ 53 (.tmp 7) (.tmp 21) ?_ wr.heap.size 0 #[xI o.kind,xI o.id,xS o.cls,xS o.name,xI 0,xI 0,xS ⟨#[]⟩,xL none 0 0,xL va vn vc,xS o.dfn.name,xL da dn dc,xI 0,xS ⟨#[]⟩,xS ⟨#[]⟩,xS ⟨#[]⟩,xI 0,xI 0,xS ⟨#[]⟩,xS ⟨#[]⟩] ?_ ?_ ?_ ?_ ?_ ?_
   .exact rfl
   .exact rfl
   .exact rfl
   .exact rfl
   .exact ry.o
   .exact ir
   .simp[Value.oneCell']
   obtain⟨W3,fw⟩:=bS ((wr.alloc (xK #[xI 0,xI 0,xS ⟨#[]⟩,xS ⟨#[]⟩,xI 0,xI 0,xS ⟨#[]⟩,xL none 0 0,xL none 0 0,xS ⟨#[]⟩,xL none 0 0,xI 0,xS ⟨#[]⟩,xS ⟨#[]⟩,xS ⟨#[]⟩,xI 0,xI 0,xS ⟨#[]⟩,xS ⟨#[]⟩] 53)).setCells wr.heap.size 0 #[xI o.kind,xI o.id,xS o.cls,xS o.name,xI 0,xI 0,xS ⟨#[]⟩,xL none 0 0,xL va vn vc,xS o.dfn.name,xL da dn dc,xI 0,xS ⟨#[]⟩,xS ⟨#[]⟩,xS ⟨#[]⟩,xI 0,xI 0,xS ⟨#[]⟩,xS ⟨#[]⟩].toList);have lq:=af (show di W3 wr (eG o.kind o.id o.cls o.name (xL va vn vc) o.dfn.name (xL da dn dc))by rw[fw];exact zZ.o.1);have bO:=af (show aq wr W3 by rw[fw];exact zZ.o.2);rw[<-fw];clear fw;go_upto_region 6 with fail;go_wp2_with(refine cQ rfl (.tmp 7) rfl wr.heap.size rfl lq.o ?_);refine(N0.o _ bO.o).mono ?_;rintro e w5⟨rfl,jg⟩;have oq:Hd (di w5 wr (eG o.kind o.id o.cls o.name (xL va vn vc) o.dfn.name (xL da dn dc))):=(jg.block _ (Qaa.1 lq.o).1).trans lq.o;have kK:Hd (aq wr w5):=bO.o.trans (jg.mono bO.o.size);have Nx:Hd (bR w5 K (de 3 (xI (madeOf (l.take i):Int)))):=(kK.o.block _ (Qaa.1 HS.o.2).1).trans HS.o.2;have mT:=af (HS.o.1.below kK.o);clear jg;go_wp2_with fail;refine(CQ.o _).mono ?_;rintro e w6⟨rfl,rfl⟩;have k0:=(bB oq.o).c0;by_cases hk:o.kind=1
   .have Jk:=af (show(madeOf (l.take (i+1)):Int)=(madeOf (l.take i):Int)+1 by have:=HMT.o;rw[if_pos hk]at this;omega);rw[hk]at k0;have HHK:=af hk;clear hk;have g0:bt w6 K 0 (xI (madeOf (l.take i):Int)):=by have h:=Nx.o;unfold de at h;simp[World.cell?,h]
    have f0:w6.frozen? ⟨K,0,none⟩=false:=by have h:=Nx.o;unfold de at h;exact ag h 0
    have hmb:(madeOf (l.take i):Int)<=20:=by omega
    have hmc:(0:Int)<=(madeOf (l.take i):Int):=by omega
    have F3:Hd (Bx w [cw (xL la m1 lc) (xL oa m2 oc) (xL ra m3 rc) nx] (w6.setCell ⟨K,0,none⟩ (xI ((madeOf (l.take i):Int)+1)))/\(w6.setCell ⟨K,0,none⟩ (xI ((madeOf (l.take i):Int)+1))).heap[K]? =some (de 3 (xI (madeOf (l.take (i+1)):Int)))):=⟨mT.o.only ((ai.refl (λj=>j=K) w6).setCell (.inl rfl) _) (λj hj=>by have hj:j=K:=hj;have:=KP.o;simp;omega),by
     rw[Jk.o];have h:=Nx.o;unfold de at h⊢;have:=Qca w6 K 0 _ _ (xI ((madeOf (l.take i):Int)+1)) h;simpa using this⟩;generalize(madeOf (l.take i):Int)=md at*;go_wp2;go_roundg(n-(i+1));case measure=>omega
    case rel=>exact⟨i+1,rfl,by omega,by go_num,by first|exact F3|(simpa [Qbe _ (show _ by omega)]using F3)⟩
   .have Jk:=af (show madeOf (l.take (i+1))=madeOf (l.take i)by have:=HMT.o;rw[if_neg hk]at this;omega);have F3:Hd (Bx w [cw (xL la m1 lc) (xL oa m2 oc) (xL ra m3 rc) nx] w6/\bR w6 K (de 3 (xI (madeOf (l.take (i+1)):Int)))):=⟨mT.o,by rw[Jk.o];exact Nx.o⟩;go_wp2;go_roundg(n-(i+1));case measure=>omega
    case rel=>exact⟨i+1,rfl,by omega,by go_num,F3⟩
  .obtain rfl:i=n:=by omega
   have HMN:=af (show(madeOf (l.take i):Int)=(madeOf l:Int)/\madeOf l<=i by
    have h1:=QH.o i;rw[Qah (by rw[tz.o];exact bN)]at h1⊢;exact⟨rfl,h1⟩);have Ti:(madeOf l:Int)<=20:=by have:=HMN.o.2;omega
   have X0:(0:Int)<=(madeOf l:Int):=by omega
   have wi:=af (show bR wr K (de 3 (xI (madeOf l:Int)))by rw[<-HMN.o.1];exact HS.o.2);have Cz:=af HS.o.1;have wu:=US.o;obtain⟨m,hm⟩:=jO ((madeOf l:Int));rw[hm]at Ti X0 wi wu;have g0:bt wr K 0 (xI m):=by have h:=wi.o;unfold de at h;simp[World.cell?,h]
   obtain⟨-,-,-,b3⟩:=ae (Cz.o.bG rfl);have qfl:m=0\/nx+m-1<=100000:=by rcases wu with h|h<;>omega
   have yX:=af hm;clear wu HS hm;go_upto_region 10 with fail;go_cut [41]from 31 to 75(λ_ wx=>wx=wr);case first=>
    by_cases Tx:m=0
    .subst Tx;go_wp2_with fail;go_at_call 63;refine(CQ.o _).mono ?_;rintro e w6⟨rfl,rfl⟩;go_wp2;go_meet;exact rfl
    .have hme:(m==0)=false:=by simpa using Tx
     have qfm:nx+m-1<=100000:=by omega
     clear qfl;go_wp2_with fail;go_at_call 63;refine(CQ.o _).mono ?_;rintro e w6⟨rfl,rfl⟩;go_wp2;go_meet;exact rfl
   case rest=>
    obtain⟨_,rfl⟩:=hcut;go_wp2_with fail;have JD:Hd (Rx w (cw (xL la m1 lc) (xL oa m2 oc) (xL ra m3 rc) nx) K m [] wr):=⟨Cz.o,wi.o,[],rfl,List.nodup_nil,λr hr=>by cases hr⟩;refine wp_loop_ghost_k (λk a W=>∃(j:Nat)(ds:List Deferred)(s9 Ww Wx iv u45 u46 u47 u48 u49 u50 u51 u52 u53 u54 u55 u56 u57 u58 u59 u60 u61 u62 u63 u64 u65 u66 u67 u68 u69 u70 u71 u72 u73:an),k=i-j/\j<=i/\iv=xI (j:Int)/\a={tmps:= #[.agg #[xL la m1 lc,xL oa m2 oc,xL ra m3 rc,xI nx],xL qa i qc,xP w.heap.size,undef,xI 0,xP K,undef,u7,undef,s9,Ww,Wx,xL qa i qc,xI (i:Int),xB true, .tuple #[],xL qa i qc,xI (i:Int),xI (i:Int),xB false,u20,u21,u22,u23,u24,u25,u26,u27,u28,u29,u30,u31,u32,u33,u34,u35,u36,u37,u38,u39,u40,u41,xL qa i qc,xI (i:Int),iv,u45,u46,u47,u48,u49,u50,u51,u52,u53,u54,u55,u56,u57,u58,u59,u60,u61,u62,u63,u64,u65,u66,u67,u68,u69,u70,u71,u72,u73,u74],defers:=ds}/\Hd (Rx w (cw (xL la m1 lc) (xL oa m2 oc) (xL ra m3 rc) nx) K m ds W)) i ⟨0,[],_,_,_,_,_,_,_,_,_,_,_,_,_,_,_,_,_,_,_,_,_,_,_,_,_,_,_,_,_,_,_,_,_,rfl,Qbf _,rfl,rfl,JD⟩ ?_;rintro gk a2 wq⟨j,ds,s9,Ww,Wx,iv,u45,u46,u47,u48,u49,u50,u51,u52,u53,u54,u55,u56,u57,u58,u59,u60,u61,u62,u63,u64,u65,u66,u67,u68,u69,u70,u71,u72,u73,rfl,hj,rfl,rfl,HS⟩J2 K2 hJ2 hK2;by_cases bu:j<i
    .dsimp only;have hlq:=HS.o.bx.1;obtain⟨o,ho⟩:=eB l j (by have:=tz.o;omega);obtain⟨b,off,cap,vv,df,C2,kZ,CS,-,JE⟩:=zf.o wq hlq j o ho;obtain⟨rfl,rfl⟩:=iB C2;have NB:=af (JE wq dQ);have HVV:=af kZ;have HNV:Hd (∀v∈o.aR,Be v):=HNR.o o (Qaf ho);have TW: -m<=o.id/\o.id<=100000:=by have h:=XZ.o o (Qaf ho);have h2:=yX.o;rw[h2]at h;exact h
     obtain⟨va,vc,rfl,-⟩:=kZ.open_;obtain⟨da,dc,rfl,-⟩:=CS.open_;clear C2 kZ CS JE ho hlq;obtain⟨KE,yV⟩:=TW;generalize hvn:o.aR.length=vn at*;have HVN:=af hvn;clear hvn;generalize o.dfn.fields.length=dn at*;have yY:=kJ wq o.kind o.id o.cls o.name (xL va vn vc) o.dfn.name (xL da dn dc);have tD:=mM wq;unfold I4 eG at yY tD;have zZ:=af yY;have ry:=af tD;clear yY tD;go_upto_region 13 with fail;iterate 4 go_step
     refine eL rfl (.tmp 46) rfl b (off+j*19) rfl NB.o ?_;iterate 3 go_step
     refine wpList_store_mid ?_ 53 (.tmp 9) (.tmp 47) ?_ wq.heap.size 0 #[xI o.kind,xI o.id,xS o.cls,xS o.name,xI 0,xI 0,xS ⟨#[]⟩,xL none 0 0,xL va vn vc,xS o.dfn.name,xL da dn dc,xI 0,xS ⟨#[]⟩,xS ⟨#[]⟩,xS ⟨#[]⟩,xI 0,xI 0,xS ⟨#[]⟩,xS ⟨#[]⟩] ?_ ?_ ?_ ?_ ?_ ?_
     .exact rfl
     .exact rfl
     .exact rfl
     .exact rfl
     .exact ry.o
     .exact ir
     .simp[Value.oneCell']
     obtain⟨W3,fw⟩:=bS ((wq.alloc (xK #[xI 0,xI 0,xS ⟨#[]⟩,xS ⟨#[]⟩,xI 0,xI 0,xS ⟨#[]⟩,xL none 0 0,xL none 0 0,xS ⟨#[]⟩,xL none 0 0,xI 0,xS ⟨#[]⟩,xS ⟨#[]⟩,xS ⟨#[]⟩,xI 0,xI 0,xS ⟨#[]⟩,xS ⟨#[]⟩] 53)).setCells wq.heap.size 0 #[xI o.kind,xI o.id,xS o.cls,xS o.name,xI 0,xI 0,xS ⟨#[]⟩,xL none 0 0,xL va vn vc,xS o.dfn.name,xL da dn dc,xI 0,xS ⟨#[]⟩,xS ⟨#[]⟩,xS ⟨#[]⟩,xI 0,xI 0,xS ⟨#[]⟩,xS ⟨#[]⟩].toList);have lq:=af (show di W3 wq (eG o.kind o.id o.cls o.name (xL va vn vc) o.dfn.name (xL da dn dc))by rw[fw];exact zZ.o.1);have bO:=af (show aq wq W3 by rw[fw];exact zZ.o.2);rw[<-fw];clear fw;obtain⟨k0,k1,k2,k3,k4,k5,k6,k7,k8,k9,k10,-,-,-,-,-,-,-,-⟩:=bB lq.o;have jC:=af (HS.o.below bO.o);have cK:bt W3 K 0 (xI m):=by have h:=jC.o.cnt;unfold de at h;simp[World.cell?,h]
     go_upto_region 14 with fail;go_wp2_with fail;go_at_call 63;refine(CQ.o _).mono ?_;rintro e w6⟨rfl,rfl⟩;go_wp2_with fail;refine(lX _ 1 1 _).mono ?_;rintro e w8⟨rfl,rfl⟩;obtain⟨W4,j8⟩:=bS ((w6.alloc (xK #[xI 0,xI 0,xS ⟨#[]⟩,xL none 0 0] 44)).alloc (xK #[xL (some ⟨w6.heap.size,0,none⟩) 1 1] 42));have dI:=af (show aq w6 W4 by rw[j8];exact bM.alloc (by simp) _);have NU:=af (show bR W4 (w6.heap.size+1) (xK #[xL (some ⟨w6.heap.size,0,none⟩) 1 1] 42)by rw[j8];have:=Qbh (w6.alloc (xK #[xI 0,xI 0,xS ⟨#[]⟩,xL none 0 0] 44)) (xK #[xL (some ⟨w6.heap.size,0,none⟩) 1 1] 42);simpa using this);have Xt:=af (show ab xF W4 (xL (some ⟨w6.heap.size,0,none⟩) 1 1) [aA.mk 0 0 ⟨#[]⟩ []]by rw[j8];exact(Qc w6).below bM);rw[<-j8];clear j8 k0 k1 k2 k3 k4 k5 k6 k7 k8 k9 k10 cK;have qG:=af (jC.o.below dI.o);go_wp2_with fail;refine I3 [aA.mk 0 0 ⟨#[]⟩ []] (λv hv=>by rw[List.mem_singleton.1 hv];exact⟨by decide,by decide,rfl⟩) xF (w6.heap.size+1) W4 W4 dQ _ Xt.o NU.o rfl ?_;intro W5 jg hd5;have mT:=af (qG.o.mark jg hd5);have kK:=af ((bO.o.trans (dI.o.mono bO.o.size)).trans (jg.mono (Qcg bO.o.size dI.o.size)));have oq:Hd (di W5 wq (eG o.kind o.id o.cls o.name (xL va vn vc) o.dfn.name (xL da dn dc))):=(jg.block _ (by have:=(Qaa.1 lq.o).1;have:=dI.o.size;omega)).trans ((dI.o.block _ (Qaa.1 lq.o).1).trans lq.o);have k8:=(bB oq.o).c8;clear jg hd5;go_simp;go_wp2_with fail;refine(lX va vn vc _).mono ?_;rintro e w8⟨rfl,rfl⟩;obtain⟨W6,nY⟩:=bS (W5.alloc (xK #[xL va vn vc] 42));have qt:=af (show aq W5 W6 by rw[nY];exact bM);have HP6:=af (show di W6 W5 (xK #[xL va vn vc] 42)by rw[nY];exact Qbh W5 _);rw[<-nY];clear nY k8;have TR:Hd (ab M W6 (xL va vn vc) o.aR):=HVV.o.below (kK.o.trans (qt.o.mono kK.o.size));have vw:=af (mT.o.below qt.o);go_wp2_with fail;refine I3 o.aR HNV.o M W5.heap.size W6 W6 dQ _ TR.o HP6.o rfl ?_;intro W7 iJ hd7;have zU:=af (vw.o.mark iJ hd7);clear iJ hd7;go_simp;go_wp2_with fail;refine Handed.intro (i-(j+1)) (by omega) ?_;go_step;exact⟨j+1,_,_,_,_,_,_,_,_,_,_,_,_,_,_,_,_,_,_,_,_,_,_,_,_,_,_,_,_,_,_,_,_,_,_,rfl,by omega,by go_num,rfl,zU⟩
    .obtain rfl:j=i:=by omega
     have c0:bt wq K 0 (xI m):=by have h:=HS.o.cnt;unfold de at h;simp[World.cell?,h]
     go_wp2_with fail;obtain⟨rs,rfl,Tq,YY⟩:=HS.o.marks;have hlr:=Cz.o;exact sZ (v:=xI m) (z:=K+1) (λW=>by simp[results,results27,go_sem]) Tq (λr hr=>⟨(YY r hr).1,(YY r hr).2⟩) (by have:=(Qaa.1 HS.o.cnt).1;omega) (λW' hb=>⟨by rw[yX.o],HS.o.bx.1.trans (hb.mono (by have:=KP.o;omega))⟩)
def Qd(nx:Int)(tJ:0<=nx/\nx<=200000)(l:List pF)(hl:l.length<=20)(M:aN)(w:aj)(lv ov rv qv:an)(ja:∃a n c,lv=xL a n c)(kq:∃a n c,ov=xL a n c)(iM:∃a n c,rv=xL a n c)(hq:ab M w qv l)(hR:∀o∈l,pG M w o)(wu:madeOf l=0\/nx+madeOf l-1<=100000)(hid:∃o,l[0]? =some o/\o.id< -(madeOf l:Int)/\-100000<=o.id):
 xC 27 #[.agg #[lv,ov,rv,xI nx],qv] w λe w'=>e= .panicked (Cj 170)/\aq w w':=by
 have zf:Hd (∀W,aq w W->∀i r,l[i]? =some r->_):=λW hb i r hr=>Co (hq.below hb) hr;have KC:=af hR;have XZ:=af hid;have US:=af wu;have QH:=af (sY l);obtain⟨la,m1,lc,rfl⟩:=ja;obtain⟨oa,m2,oc,rfl⟩:=kq;obtain⟨ra,m3,rc,rfl⟩:=iM;obtain⟨qa,qc,rfl,T2,XW,-⟩:=hq.open_;have CQ:=af (kI 170);have HUB:=af (A7 170);clear hq hR hid wu;generalize hn:l.length=n at*;have tz:=af hn;clear hn;have bW:=af (Bx.eD w (cw (xL la m1 lc) (xL oa m2 oc) (xL ra m3 rc) nx));have hle:((n:Int)<=20):=by omega
 refine callsIn_wide.1 (callsIn_of_wp_marks (n:=0) func27 rfl trivial (wpIn_wide.2 ?_) rfl);simp only[ntmps27,List.size_toArray,Qcc,Qcd,Nat.reduceAdd,Nat.reduceSub,Array.replicate_succ,Array.replicate_zero,List.push_toArray,List.append_toArray,List.nil_append,List.cons_append];go_upto_region 1 with fail;obtain⟨W0,vT⟩:=bS (w.alloc (cw (xL la m1 lc) (xL oa m2 oc) (xL ra m3 rc) nx));rw[<-vT]at bW;unfold cw at vT;rw[<-vT];clear vT;go_wp2_with fail;refine(CQ.o _).mono ?_;rintro e T6⟨rfl,rfl⟩;go_upto_region 3 with fail;obtain⟨W1,bT⟩:=bS (T6.alloc (de 3 (xI 0)));have aY:=af (show Bx w [cw (xL la m1 lc) (xL oa m2 oc) (xL ra m3 rc) nx] W1 by rw[bT];exact bW.o.alloc _);have fL:=af (show di W1 T6 (de 3 (xI 0))by rw[bT];exact Qbh T6 _);have KP:Hd (w.heap.size+1<=T6.heap.size):=bW.o.bF;unfold de at bT;rw[<-bT];clear bT;generalize hKK:T6.heap.size=K at*;have fL:=af (show bR W1 K (de 3 (xI 0))by first|exact fL.o|(rw[<-hKK];exact fL.o));clear hKK;have gM:Hd (Bx w [cw (xL la m1 lc) (xL oa m2 oc) (xL ra m3 rc) nx] W1/\bR W1 K (de 3 (xI (madeOf (l.take 0):Int)))):=⟨aY.o,fL.o⟩;go_wp2;go_loopg [7,18]n(λgg _ iv wr=>∃i:Nat,gg=n-i/\i<=n/\iv=xI i/\Hd (Bx w [cw (xL la m1 lc) (xL oa m2 oc) (xL ra m3 rc) nx] wr/\bR wr K (de 3 (xI (madeOf (l.take i):Int)))));case atStart=>exact⟨0,rfl,Qbf _,rfl,gM⟩
 case round=>
  obtain⟨i,rfl,hi,rfl,HS⟩:=hrel;rename World=>wr;by_cases bu:i<n
  .obtain⟨o,ho⟩:=eB l i (by have:=tz.o;omega);obtain⟨b,off,cap,vv,df,C2,kZ,CS,T5,JE⟩:=zf.o wr HS.o.1.1 i o ho;obtain⟨rfl,rfl⟩:=iB C2;have NB:=af (JE wr dQ);have N0:=gG (w:=wr) (λW hb=>KC.o o (Qaf ho) W vv df (HS.o.1.1.trans (hb.mono HS.o.1.1.size)) (kZ.below hb) (CS.below hb) T5);have hmt:=Bf ho;obtain⟨va,vc,rfl,-⟩:=kZ.open_;obtain⟨da,dc,rfl,-⟩:=CS.open_;have HMT:=af hmt;have Ti:=QH.o i;clear C2 kZ CS T5 JE hmt;generalize o.aR.length=vn at*;generalize o.dfn.fields.length=dn at*;have yY:=kJ wr o.kind o.id o.cls o.name (xL va vn vc) o.dfn.name (xL da dn dc);have tD:=mM wr;unfold I4 eG at yY tD;have zZ:=af yY;have ry:=af tD;clear yY tD;go_upto_region 5 with fail;iterate 4 go_step
   refine eL rfl (.tmp 20) rfl b (off+i*19) rfl NB.o ?_;iterate 3 go_step
   refine wpList_store_mid ?_ 53 (.tmp 7) (.tmp 21) ?_ wr.heap.size 0 #[xI o.kind,xI o.id,xS o.cls,xS o.name,xI 0,xI 0,xS ⟨#[]⟩,xL none 0 0,xL va vn vc,xS o.dfn.name,xL da dn dc,xI 0,xS ⟨#[]⟩,xS ⟨#[]⟩,xS ⟨#[]⟩,xI 0,xI 0,xS ⟨#[]⟩,xS ⟨#[]⟩] ?_ ?_ ?_ ?_ ?_ ?_
   .exact rfl
   .exact rfl
   .exact rfl
   .exact rfl
   .exact ry.o
   .exact ir
   .simp[Value.oneCell']
   obtain⟨W3,fw⟩:=bS ((wr.alloc (xK #[xI 0,xI 0,xS ⟨#[]⟩,xS ⟨#[]⟩,xI 0,xI 0,xS ⟨#[]⟩,xL none 0 0,xL none 0 0,xS ⟨#[]⟩,xL none 0 0,xI 0,xS ⟨#[]⟩,xS ⟨#[]⟩,xS ⟨#[]⟩,xI 0,xI 0,xS ⟨#[]⟩,xS ⟨#[]⟩] 53)).setCells wr.heap.size 0 #[xI o.kind,xI o.id,xS o.cls,xS o.name,xI 0,xI 0,xS ⟨#[]⟩,xL none 0 0,xL va vn vc,xS o.dfn.name,xL da dn dc,xI 0,xS ⟨#[]⟩,xS ⟨#[]⟩,xS ⟨#[]⟩,xI 0,xI 0,xS ⟨#[]⟩,xS ⟨#[]⟩].toList);have lq:=af (show di W3 wr (eG o.kind o.id o.cls o.name (xL va vn vc) o.dfn.name (xL da dn dc))by rw[fw];exact zZ.o.1);have bO:=af (show aq wr W3 by rw[fw];exact zZ.o.2);rw[<-fw];clear fw;go_upto_region 6 with fail;go_wp2_with(refine cQ rfl (.tmp 7) rfl wr.heap.size rfl lq.o ?_);refine(N0.o _ bO.o).mono ?_;rintro e w5⟨rfl,jg⟩;have oq:Hd (di w5 wr (eG o.kind o.id o.cls o.name (xL va vn vc) o.dfn.name (xL da dn dc))):=(jg.block _ (Qaa.1 lq.o).1).trans lq.o;have kK:Hd (aq wr w5):=bO.o.trans (jg.mono bO.o.size);have Nx:Hd (bR w5 K (de 3 (xI (madeOf (l.take i):Int)))):=(kK.o.block _ (Qaa.1 HS.o.2).1).trans HS.o.2;have mT:=af (HS.o.1.below kK.o);clear jg;go_wp2_with fail;refine(CQ.o _).mono ?_;rintro e w6⟨rfl,rfl⟩;have k0:=(bB oq.o).c0;by_cases hk:o.kind=1
   .have Jk:=af (show(madeOf (l.take (i+1)):Int)=(madeOf (l.take i):Int)+1 by have:=HMT.o;rw[if_pos hk]at this;omega);rw[hk]at k0;have HHK:=af hk;clear hk;have g0:bt w6 K 0 (xI (madeOf (l.take i):Int)):=by have h:=Nx.o;unfold de at h;simp[World.cell?,h]
    have f0:w6.frozen? ⟨K,0,none⟩=false:=by have h:=Nx.o;unfold de at h;exact ag h 0
    have hmb:(madeOf (l.take i):Int)<=20:=by omega
    have hmc:(0:Int)<=(madeOf (l.take i):Int):=by omega
    have F3:Hd (Bx w [cw (xL la m1 lc) (xL oa m2 oc) (xL ra m3 rc) nx] (w6.setCell ⟨K,0,none⟩ (xI ((madeOf (l.take i):Int)+1)))/\(w6.setCell ⟨K,0,none⟩ (xI ((madeOf (l.take i):Int)+1))).heap[K]? =some (de 3 (xI (madeOf (l.take (i+1)):Int)))):=⟨mT.o.only ((ai.refl (λj=>j=K) w6).setCell (.inl rfl) _) (λj hj=>by have hj:j=K:=hj;have:=KP.o;simp;omega),by
     rw[Jk.o];have h:=Nx.o;unfold de at h⊢;have:=Qca w6 K 0 _ _ (xI ((madeOf (l.take i):Int)+1)) h;simpa using this⟩;generalize(madeOf (l.take i):Int)=md at*;go_wp2;go_roundg(n-(i+1));case measure=>omega
    case rel=>exact⟨i+1,rfl,by omega,by go_num,by first|exact F3|(simpa [Qbe _ (show _ by omega)]using F3)⟩
   .have Jk:=af (show madeOf (l.take (i+1))=madeOf (l.take i)by have:=HMT.o;rw[if_neg hk]at this;omega);have F3:Hd (Bx w [cw (xL la m1 lc) (xL oa m2 oc) (xL ra m3 rc) nx] w6/\bR w6 K (de 3 (xI (madeOf (l.take (i+1)):Int)))):=⟨mT.o,by rw[Jk.o];exact Nx.o⟩;go_wp2;go_roundg(n-(i+1));case measure=>omega
    case rel=>exact⟨i+1,rfl,by omega,by go_num,F3⟩
  .obtain rfl:i=n:=by omega
   have HMN:=af (show(madeOf (l.take i):Int)=(madeOf l:Int)/\madeOf l<=i by
    have h1:=QH.o i;rw[Qah (by rw[tz.o];exact bN)]at h1⊢;exact⟨rfl,h1⟩);have Ti:(madeOf l:Int)<=20:=by have:=HMN.o.2;omega
   have X0:(0:Int)<=(madeOf l:Int):=by omega
   have wi:=af (show bR wr K (de 3 (xI (madeOf l:Int)))by rw[<-HMN.o.1];exact HS.o.2);have Cz:=af HS.o.1;have wu:=US.o;obtain⟨m,hm⟩:=jO ((madeOf l:Int));rw[hm]at Ti X0 wi wu;have g0:bt wr K 0 (xI m):=by have h:=wi.o;unfold de at h;simp[World.cell?,h]
   obtain⟨-,-,-,b3⟩:=ae (Cz.o.bG rfl);have qfl:m=0\/nx+m-1<=100000:=by rcases wu with h|h<;>omega
   have yX:=af hm;clear wu HS hm;go_upto_region 10 with fail;go_cut [41]from 31 to 75(λ_ wx=>wx=wr);case first=>
    by_cases Tx:m=0
    .subst Tx;go_wp2_with fail;go_at_call 63;refine(CQ.o _).mono ?_;rintro e w6⟨rfl,rfl⟩;go_wp2;go_meet;exact rfl
    .have hme:(m==0)=false:=by simpa using Tx
     have qfm:nx+m-1<=100000:=by omega
     clear qfl;go_wp2_with fail;go_at_call 63;refine(CQ.o _).mono ?_;rintro e w6⟨rfl,rfl⟩;go_wp2;go_meet;exact rfl
   case rest=>
    obtain⟨_,rfl⟩:=hcut;go_wp2_with fail;have JD:Hd (Rx w (cw (xL la m1 lc) (xL oa m2 oc) (xL ra m3 rc) nx) K m [] wr):=⟨Cz.o,wi.o,[],rfl,List.nodup_nil,λr hr=>by cases hr⟩;refine wp_loop_ghost_k (λk a W=>∃(j:Nat)(ds:List Deferred)(s9 Ww Wx iv u45 u46 u47 u48 u49 u50 u51 u52 u53 u54 u55 u56 u57 u58 u59 u60 u61 u62 u63 u64 u65 u66 u67 u68 u69 u70 u71 u72 u73:an),k=i-j/\j=0/\ds=[]/\iv=xI (j:Int)/\a={tmps:= #[.agg #[xL la m1 lc,xL oa m2 oc,xL ra m3 rc,xI nx],xL qa i qc,xP w.heap.size,undef,xI 0,xP K,undef,u7,undef,s9,Ww,Wx,xL qa i qc,xI (i:Int),xB true, .tuple #[],xL qa i qc,xI (i:Int),xI (i:Int),xB false,u20,u21,u22,u23,u24,u25,u26,u27,u28,u29,u30,u31,u32,u33,u34,u35,u36,u37,u38,u39,u40,u41,xL qa i qc,xI (i:Int),iv,u45,u46,u47,u48,u49,u50,u51,u52,u53,u54,u55,u56,u57,u58,u59,u60,u61,u62,u63,u64,u65,u66,u67,u68,u69,u70,u71,u72,u73,u74],defers:=ds}/\Hd (Rx w (cw (xL la m1 lc) (xL oa m2 oc) (xL ra m3 rc) nx) K m ds W)) i ⟨0,[],_,_,_,_,_,_,_,_,_,_,_,_,_,_,_,_,_,_,_,_,_,_,_,_,_,_,_,_,_,_,_,_,_,rfl,rfl,rfl,rfl,rfl,JD⟩ ?_;rintro gk a2 wq⟨j,ds,s9,Ww,Wx,iv,u45,u46,u47,u48,u49,u50,u51,u52,u53,u54,u55,u56,u57,u58,u59,u60,u61,u62,u63,u64,u65,u66,u67,u68,u69,u70,u71,u72,u73,rfl,rfl,rfl,rfl,rfl,HS⟩J2 K2 hJ2 hK2;dsimp only;have hlq:=HS.o.bx.1;obtain⟨o,ho,ik,qb7⟩:=XZ.o;have bu:0<i:=by have h:=(Qad.1 ho).1;have:=tz.o;omega
    obtain⟨b,off,cap,vv,df,C2,kZ,CS,-,JE⟩:=zf.o wq hlq 0 o ho;obtain⟨rfl,rfl⟩:=iB C2;have NB:=af (JE wq dQ);have HVV:=af kZ;have TW:o.id< -m/\-100000<=o.id:=by have h2:=yX.o;rw[h2]at ik;exact⟨ik,qb7⟩
    obtain⟨va,vc,rfl,-⟩:=kZ.open_;obtain⟨da,dc,rfl,-⟩:=CS.open_;clear C2 kZ CS JE ho hlq ik qb7;obtain⟨KE,yV⟩:=TW;generalize hvn:o.aR.length=vn at*;have HVN:=af hvn;clear hvn;generalize o.dfn.fields.length=dn at*;have yY:=kJ wq o.kind o.id o.cls o.name (xL va vn vc) o.dfn.name (xL da dn dc);have tD:=mM wq;unfold I4 eG at yY tD;have zZ:=af yY;have ry:=af tD;clear yY tD;go_upto_region 13 with fail;iterate 4 go_step
    refine eL rfl (.tmp 46) rfl b (off+0*19) rfl NB.o ?_;iterate 3 go_step
    refine wpList_store_mid ?_ 53 (.tmp 9) (.tmp 47) ?_ wq.heap.size 0 #[xI o.kind,xI o.id,xS o.cls,xS o.name,xI 0,xI 0,xS ⟨#[]⟩,xL none 0 0,xL va vn vc,xS o.dfn.name,xL da dn dc,xI 0,xS ⟨#[]⟩,xS ⟨#[]⟩,xS ⟨#[]⟩,xI 0,xI 0,xS ⟨#[]⟩,xS ⟨#[]⟩] ?_ ?_ ?_ ?_ ?_ ?_
    .exact rfl
    .exact rfl
    .exact rfl
    .exact rfl
    .exact ry.o
    .exact ir
    .simp[Value.oneCell']
    obtain⟨W3,fw⟩:=bS ((wq.alloc (xK #[xI 0,xI 0,xS ⟨#[]⟩,xS ⟨#[]⟩,xI 0,xI 0,xS ⟨#[]⟩,xL none 0 0,xL none 0 0,xS ⟨#[]⟩,xL none 0 0,xI 0,xS ⟨#[]⟩,xS ⟨#[]⟩,xS ⟨#[]⟩,xI 0,xI 0,xS ⟨#[]⟩,xS ⟨#[]⟩] 53)).setCells wq.heap.size 0 #[xI o.kind,xI o.id,xS o.cls,xS o.name,xI 0,xI 0,xS ⟨#[]⟩,xL none 0 0,xL va vn vc,xS o.dfn.name,xL da dn dc,xI 0,xS ⟨#[]⟩,xS ⟨#[]⟩,xS ⟨#[]⟩,xI 0,xI 0,xS ⟨#[]⟩,xS ⟨#[]⟩].toList);have lq:=af (show di W3 wq (eG o.kind o.id o.cls o.name (xL va vn vc) o.dfn.name (xL da dn dc))by rw[fw];exact zZ.o.1);have bO:=af (show aq wq W3 by rw[fw];exact zZ.o.2);rw[<-fw];clear fw;obtain⟨k0,k1,k2,k3,k4,k5,k6,k7,k8,k9,k10,-,-,-,-,-,-,-,-⟩:=bB lq.o;have jC:=af (HS.o.below bO.o);have cK:bt W3 K 0 (xI m):=by have h:=jC.o.cnt;unfold de at h;simp[World.cell?,h]
    go_upto_region 14 with fail;go_wp2_with fail;go_at_call 63;rw[show decide (-m<=o.id)=false from by simp;omega];refine(HUB.o _).mono ?_;rintro e w6⟨rfl,rfl⟩;exact⟨rfl,jC.o.bx.1⟩
def Qe(p q r s:Addr)(w:aj):
 CallsD prog 25 #[.pointer (some p), .pointer (some q), .pointer (some r), .pointer (some s)] .returning w λe u' w'=>e=xR (.tuple #[])/\u'= .returning/\w'=w:=by
 refine callsD_of_wpS func25 rfl λTI cs hu=> ?_;apply wpS_seq;apply wpS_region;simp[wpOpsS,go_sem,recoverD,hu,ntmps25,Exit.thenS];apply wpS_seq;apply wpS_region;simp[wpOpsS,go_sem,Exit.thenS];refine wpS_cond (t:=false) (by simp[Act.eval,Array.replicate]) ?_;simp only[Bool.false_eq_true,if_false];refine wpS_of_wp (wp_skip ?_);cases TI;simp_all[bodyPostS,results,results25]
def MP(n:Int)(W:aj):(Instr.typeAssert (.iface 99 (.agg #[xI n])) 20 99 true).run prog W= .ok (.tuple #[.agg #[xI n],xB true]) W:=by kernel_rfl
def uy(K:Nat)(n:Int)(w:World)(h0:w.heap[K]? =some (de 55 (xL none 0 0)))(h1:w.heap[K+1]? =some (de 54 (xL none 0 0)))(h2:w.heap[K+2]? =some (de 3 (xI 0)))(h3:w.heap[K+3]? =some (de 37 (xI 0))):
 CallsD prog 25 #[xP K,xP (K+1),xP (K+2),xP (K+3)] (.panicking (Cj n)) w λe u' w'=>e=xR (.tuple #[])/\u'= .panicking [{v:= .iface 99 (.agg #[xI n]),recovered:=true}]/\w'.heap[K]? =some (de 55 (xL none 0 0))/\w'.heap[K+1]? =some (de 54 (xL none 0 0))/\w'.heap[K+2]? =some (de 3 (xI 0))/\w'.heap[K+3]? =some (de 37 (xI n))/\ai (λi=>i=K\/i=K+1\/i=K+2\/i=K+3) w w':=by
 refine callsD_of_wpS func25 rfl λTI cs hu=> ?_;unfold Cj at hu;apply wpS_seq;apply wpS_region;simp[wpOpsS,go_sem,recoverD,hu,ntmps25,Exit.thenS];have c0:w.cell? ⟨K,0,none⟩=some (xL none 0 0):=by unfold de at h0;simp[World.cell?,h0]
 have c1:w.cell? ⟨K+1,0,none⟩=some (xL none 0 0):=by unfold de at h1;simp[World.cell?,h1]
 have c2:w.cell? ⟨K+2,0,none⟩=some (xI 0):=by unfold de at h2;simp[World.cell?,h2]
 have c3:w.cell? ⟨K+3,0,none⟩=some (xI 0):=by unfold de at h3;simp[World.cell?,h3]
 have f0:w.frozen? ⟨K,0,none⟩=false:=by unfold de at h0;exact ag h0 0
 have f1:w.frozen? ⟨K+1,0,none⟩=false:=by unfold de at h1;exact ag h1 0
 have f2:w.frozen? ⟨K+2,0,none⟩=false:=by unfold de at h2;exact ag h2 0
 have f3:w.frozen? ⟨K+3,0,none⟩=false:=by unfold de at h3;exact ag h3 0
 have hta:=MP n;refine wpS_of_wp ?_;simp only[Array.replicate_succ,Array.replicate_zero,List.push_toArray,List.append_toArray,List.nil_append,List.cons_append,List.setIfInBounds_toArray,List.set_cons_zero,List.set_cons_succ];have Ty:=af h0;clear h0;have HH1:=af h1;clear h1;have HH2:=af h2;clear h2;have HH3:=af h3;clear h3;clear hu;go_upto_region 3 with fail;go_upto_region 5 with fail;obtain⟨W3,fw⟩:=bS ((((w.setCell ⟨K,0,none⟩ (xL none 0 0)).setCell ⟨K+1,0,none⟩ (xL none 0 0)).setCell ⟨K+2,0,none⟩ (xI 0)).setCell ⟨K+3,0,none⟩ (xI 170));have uJ:=af (show ai (λi=>i=K\/i=K+1\/i=K+2\/i=K+3) w W3 by
  rw[fw];exact((((ai.refl (λi=>i=K\/i=K+1\/i=K+2\/i=K+3) w).setCell (p:=⟨K,0,none⟩) (.inl (.inl rfl)) _).setCell (p:=⟨K+1,0,none⟩) (.inl (.inr (.inl rfl))) _).setCell (p:=⟨K+2,0,none⟩) (.inl (.inr (.inr (.inl rfl)))) _).setCell (p:=⟨K+3,0,none⟩) (.inl (.inr (.inr (.inr rfl)))) _);have one:∀(W:World)(i:Nat)(t:TypeId)(v u:Value),W.heap[i]? =some (de t v)->(W.setCell ⟨i,0,none⟩ u).heap[i]? =some (de t u):=λW i t v u h=>by
  have:=Qca W i 0 _ _ u h;simpa [de]using this
 have NC:∀(W:World)(i j:Nat)(u:Value),i≠j->(W.setCell ⟨j,0,none⟩ u).heap[i]? =W.heap[i]? :=λW i j u h=>Qag _ _ _ _ (by simpa using h);have G0:=af (show W3.heap[K]? =some (de 55 (xL none 0 0))by
  rw[fw,NC _ K (K+3) _ (by omega),NC _ K (K+2) _ (by omega),NC _ K (K+1) _ (by omega)];exact one _ _ _ _ _ Ty.o);have G1:=af (show W3.heap[K+1]? =some (de 54 (xL none 0 0))by
  rw[fw,NC _ (K+1) (K+3) _ (by omega),NC _ (K+1) (K+2) _ (by omega)];exact one _ _ _ _ _ ((NC _ _ _ _ (by omega)).trans HH1.o));have G2:=af (show W3.heap[K+2]? =some (de 3 (xI 0))by
  rw[fw,NC _ (K+2) (K+3) _ (by omega)];exact one _ _ _ _ _ ((NC _ _ _ _ (by omega)).trans ((NC _ _ _ _ (by omega)).trans HH2.o)));have G3:=af (show W3.heap[K+3]? =some (de 37 (xI 170))by
  rw[fw];exact one _ _ _ _ _ ((NC _ _ _ _ (by omega)).trans ((NC _ _ _ _ (by omega)).trans ((NC _ _ _ _ (by omega)).trans HH3.o))));have KY:=af (show W3.heap.size=w.heap.size by rw[fw];simp[World.setCell]);have vM:Hd (K+3<w.heap.size):=(Qaa.1 HH3.o).1;rw[<-fw];clear fw c0 c1 c2 c3 f0 f1 f2 f3 hta;obtain⟨W4,j8⟩:=bS (W3.alloc (xK #[xI n] 99));have dI:=af (show aq W3 W4 by rw[j8];exact bM);have e0:W4.cell? ⟨w.heap.size,0,none⟩=some (xI n):=by rw[j8,<-KY.o];exact one_cell (Qbh W3 _)
 rw[<-j8];clear j8;have g3:=(dI.o.block (K+3) (by have:=vM.o;have:=KY.o;omega)).trans G3.o;have c3:W4.cell? ⟨K+3,0,none⟩=some (xI 170):=by have h:=g3;unfold de at h;exact one_cell h
 have f3:W4.frozen? ⟨K+3,0,none⟩=false:=by have h:=g3;unfold de at h;exact ag h 0
 have WO:=af g3;have qfn:=af one;have X1:=af NC;clear g3 one NC;go_wp2_with fail;have hk:=vM.o;have hz:=KY.o;refine⟨rfl,_,rfl, .tuple #[],by simp[results,results25,go_sem],rfl,rfl,?_,?_,?_,qfn.o _ _ _ _ _ WO.o,?_⟩
 .exact(X1.o _ _ _ _ (by omega)).trans ((dI.o.block _ (by omega)).trans G0.o)
 .exact(X1.o _ _ _ _ (by omega)).trans ((dI.o.block _ (by omega)).trans G1.o)
 .exact(X1.o _ _ _ _ (by omega)).trans ((dI.o.block _ (by omega)).trans G2.o)
 .exact(uJ.o.trans (ai.ao dI.o)).setCell (p:=⟨K+3,0,none⟩) (.inl (.inr (.inr (.inr rfl)))) _
def Um(k:Int)(F:Nat):Prop:=(k=1/\F=65)\/(k=3/\F=67)\/(k=5/\F=69)\/(k=7/\F=71)\/(k=8/\F=72)
def Ff(t:oh)(o:pF)(J:oh->Prop):Prop:=∃F:Nat,Um o.kind F/\∀(M:aN)(z:Nat)(p:tB)(W:aj)(vv df:an),IU M z p->lV t M z p W->Gd W->ab M W vv o.aR->ab M W df o.dfn.fields->yC o vv df->
 xC F #[xP p.T,A6 o.kind o.id o.cls o.name vv o.dfn.name df] W λe w'=>e=xR (.tuple #[])/\(∃t',J t'/\lV t' M z p w')/\ai (Ck p z) W w'
def Qh(t:oh)(o:pF)(n:Int):Prop:=∃F:Nat,Um o.kind F/\∀(M:aN)(z:Nat)(p:tB)(W:aj)(vv df:an),IU M z p->lV t M z p W->Gd W->ab M W vv o.aR->ab M W df o.dfn.fields->yC o vv df->
 xC F #[xP p.T,A6 o.kind o.id o.cls o.name vv o.dfn.name df] W λe w'=>e= .panicked (Cj n)/\ai (Ck p z) W w'
structure I8(x:aX)(t:oh):Prop where
 recs:∃ds:List lp,t.defs=ds.map Subtype.val/\ds.length<=40/\(yB ds t.objs t.roots).Pairwise (λa b=>A9 (yA a.1) (yA b.1)=true)/\∃y,gi y/\kT x ((yB ds t.objs t.roots).map Subtype.val) y
 rise:(cL t.objs).Pairwise (·< ·)
 AN:gJ t.roots
 oV:∀r∈t.roots,r.name.size<=maxLen
 olen:t.objs.length<=400
 rlen:t.roots.length<=400
def S0 {kv:an}{n:Int}(h:Bx w [o0,de 55 cv,de 54 (xL none 0 0),de 3 (xI 0),de 37 (xI 0)] W)
 (hW:W'=((((W.setCell ⟨w.heap.size+1,0,none⟩ cv).setCell ⟨w.heap.size+1+1,0,none⟩ kv).setCell ⟨w.heap.size+1+1+1,0,none⟩ (xI n)).setCell ⟨w.heap.size+1+1+1+1,0,none⟩ (xI 0)).drew):
 Bx w [o0,de 55 cv,de 54 kv,de 3 (xI n),de 37 (xI 0)] W'/\ai (λk=>w.heap.size<=k/\k<w.heap.size+5) W W':=by
 have h1:=h.set 1 0 (v:=cv) rfl;have h2:=h1.set 2 0 (v:=kv) rfl;have h3:=h2.set 3 0 (v:=xI n) rfl;have h4:=(h3.set 4 0 (v:=xI 0) rfl).drew;refine⟨by rw[hW];simpa [de]using h4,?_⟩;rw[hW];exact(((((ai.refl (λk=>w.heap.size<=k/\k<w.heap.size+5) W).setCell (p:=⟨w.heap.size+1,0,none⟩) (.inl ⟨by simp,by simp⟩) _).setCell (p:=⟨w.heap.size+1+1,0,none⟩) (.inl ⟨by simp;omega,by simp⟩) _).setCell (p:=⟨w.heap.size+1+1+1,0,none⟩) (.inl ⟨by simp;omega,by simp⟩) _).setCell (p:=⟨w.heap.size+1+1+1+1,0,none⟩) (.inl ⟨by simp;omega,by simp⟩) _).drew
def Qi(x:aX)(hx:gi x)(l:List pF)(hl:l.length<=20)(M:aN)(w:aj)(hM:Bd M w)(hG:Gd w)(lv ov rv qv:an)(ja:ab M w lv x.lines)(kq:ab M w ov x.objs)(iM:ab M w rv x.roots)(hq:ab M w qv l)
 (hR:∀o∈l,pG M w o)(wu:madeOf l=0\/x.next+madeOf l-1<=100000)(hid:∀o∈l,-(madeOf l:Int)<=o.id/\o.id<=100000)(T4:∀o∈l,∀v∈o.aR,Be v)
 (J:Nat->oh->Prop)(h0:∀L:List Int,(∀n,n∈L↔Mk.CH (cm x) (dw x) n)->L.length<=500->J 0 ⟨x.lines,x.next,L,madeOf l,0,[],[],[],[]⟩)(FN:∀i o t,l[i]? =some o->J i t->Ff t o (J (i+1)))(TD:∀t,J l.length t->I8 x t):
 xG 9 #[.agg #[lv,ov,rv,xI x.next],qv] w λu w'=>∃(t:oh)(ds:List lp)(cv kv:an),J l.length t/\t.defs=ds.map Subtype.val/\u= .tuple #[cv,kv,xI (x.next+madeOf l),xI 0]/\ab M w' cv ((yB ds t.objs t.roots).map Subtype.val)/\ab M w' kv t.reads:=by
 have CA:∀(fn:Fn)(first cap:Array an)(w:aj),(Instr.makeFunc fn first cap).run prog w= .ok (.func fn first cap) w:=λ_ _ _ _=>rfl;have R6:=gG (w:=w) (λW hb=>qi x W lv ov rv hx (hG.below hb) ((ja.below hb).ev (Ev.dD W λi hi=>hi.elim)) ((kq.below hb).ev (Ev.dD W λi hi=>hi.elim)) ((iM.below hb).ev (Ev.dD W λi hi=>hi.elim)));have zR:=gG (w:=w) (λW hb=>Kr x.next ⟨by have:=hx.next;omega,by have:=hx.next;omega⟩ l hl M W lv ov rv qv (by obtain⟨a,c,e,_⟩:=ja.open_;exact⟨_,_,_,e⟩) (by obtain⟨a,c,e,_⟩:=kq.open_;exact⟨_,_,_,e⟩) (by obtain⟨a,c,e,_⟩:=iM.open_;exact⟨_,_,_,e⟩) (hq.below hb) (λo ho W' vv df l6 h1 h2 h3=>hR o ho W' vv df (hb.trans (l6.mono hb.size)) h1 h2 h3) wu hid T4);obtain⟨M1,Rm⟩:∃M1:aN,M1=(λi=>M i\/(w.heap.size<=i/\i<w.heap.size+5)):=⟨_,rfl⟩;have hMM:∀i,M1 i->M i\/w.heap.size<=i:=λi hi=>by
  rw[Rm]at hi;exact hi.imp_right λe=>e.1
 have hE:∀W,aq w W->Ev M w M1 W:=λW hb=>⟨ai.ao hb,hMM⟩;have CY:Hd (∀W,w.heap.size+5<=W.heap.size->Bd M1 W):=λW hz i hi=>by
  rw[Rm]at hi;rcases hi with hi|hi
  .have:=hM i hi;omega
  .omega
 have HBG:Hd (∀(W:aj)(L:List Int)(wv:an)(n:Int),aq w W->w.heap.size+5<=W.heap.size->ab xF W wv L->L.length<=1000->_):=λW L wv n hb hz hL Ra=>Bc x M1 W (CY.o W hz) lv ov rv wv (ja.ev (hE W hb)) (kq.ev (hE W hb)) (iM.ev (hE W hb)) L hL (by have:=hx.len;omega) Ra n;have zf:Hd (∀W,aq w W->∀i o,l[i]? =some o->_):=λW hb i o ho=>Co (hq.ev (hE W hb)) ho;have qp:Hd (∀(y:aX)(recs:List eW)(W:aj)(cv:an),gi y->kT x recs y->recs.length<=1000->aq w W->w.heap.size+5<=W.heap.size->ab M1 W cv recs->_):=λy recs W cv hy hd hn hb hz hc=>A5 x y hx hy recs hd hn M1 W (CY.o W hz) (hG.below hb) lv ov rv cv (ja.ev (hE W hb)) (kq.ev (hE W hb)) (iM.ev (hE W hb)) hc;have CV:Hd (∀L:List Int,Mk.Im L->(∀n,n∈L↔Mk.CH (cm x) (dw x) n)->L.length<=500):=λL hr hL=>by
  have h1:=eV (cL x.objs) L (hr.imp (λ{a b}h e=>by omega)) (λn hn=>hx.closed.Rw ((hL n).1 hn));have h2:=hx.len;unfold cL at h1;rw[Qdc]at h1;omega
 have zJ:=af Rm;have HJ0:=af h0;have HJS:=af FN;have HJE:=af TD;have HGD:=af hG;have US:=af wu;have HXN:=af hx.next;have Ux:=af hx.len;obtain⟨la,lc,rfl,-⟩:=ja.open_;obtain⟨oa,oc,rfl,-⟩:=kq.open_;obtain⟨ra,rc,rfl,-⟩:=iM.open_;obtain⟨qa,qc,rfl,T2,XW,-⟩:=hq.open_;clear hx ja kq iM hq hM hG hR wu hid T4 h0 FN TD Rm hMM hE;generalize tJ:x.next=nx at*;generalize rF:x.lines.length=m1 at*;generalize CR:x.objs.length=m2 at*;generalize Ns:x.roots.length=m3 at*;generalize yU:l.length=n at*;have uK:=af tJ;clear tJ;have zK:=af rF;clear rF;have lK:=af CR;clear CR;have HA3:=af Ns;clear Ns;have tz:=af yU;clear yU;have bW:=af (Bx.GO w (cw (xL la m1 lc) (xL oa m2 oc) (xL ra m3 rc) nx) (de 55 (xL none 0 0)) (de 54 (xL none 0 0)) (de 3 (xI 0)) (de 37 (xI 0)));go_enter_defers func9,ntmps9;go_upto_region 2 with fail;obtain⟨W1,bT⟩:=bS (((((w.alloc (cw (xL la m1 lc) (xL oa m2 oc) (xL ra m3 rc) nx)).alloc (de 55 (xL none 0 0))).alloc (de 54 (xL none 0 0))).alloc (de 3 (xI 0))).alloc (de 37 (xI 0)));rw[<-bT]at bW;unfold cw de at bT;rw[<-bT];clear bT;have fL:=af bW.o.1;obtain⟨a0,a1,a2,a3⟩:=ae (bW.o.bG rfl);go_wp2_with fail;refine(R6.o _ bW.o.1).mono ?_;rintro e w2⟨_,rfl,⟨L,wv,rfl,hL,NT,U4⟩,bC⟩;have Ra:=CV.o L NT U4;have HLI:=af U4;have qs:=af hL;have aQ:=af (bW.o.below bC);obtain⟨wa,wc,rfl,-⟩:=hL.open_;have Cz:Hd (L.length<=500):=Ra;clear hL NT U4 bC a0 a1 a2 a3 Ra;obtain⟨a0,a1,a2,a3⟩:=ae (aQ.o.bG rfl);have Gj:=af qh;go_wp2_with fail;refine(Gj.o _).mono ?_;rintro e w3⟨rfl,rfl⟩;go_wp2_with fail;refine(zR.o _ aQ.o.1).mono ?_;rintro e w4⟨rfl,eA⟩;have dI:=af (aQ.o.below eA);have nJ:=af (HBG.o w4 L _ (madeOf l) dI.o.1 dI.o.bF (qs.o.below eA) (by have:=Cz.o;omega));clear eA a0 a1 a2 a3;obtain⟨a0,a1,a2,a3⟩:=ae (dI.o.bG rfl);generalize wu:(madeOf l:Int)=md at*;have yX:=af wu;clear wu;go_wp2_with fail;refine(nJ.o).mono ?_;rintro e w5⟨p,rfl,kq,iM,hA,hS,hT,jg⟩;have HTA:=af hA;have zg:=af hS;have HTT:=af hT;have kK:=af (dI.o.below jg);clear kq iM hA hS hT jg a0 a1 a2 a3;have HDO:=af Fc;go_wp2_with fail;refine(HDO.o _).mono ?_;rintro e w6⟨db,rfl,hda,FX,jz⟩;have qt:=af (kK.o.below jz);have Jv:=af (HTT.o w6 jz);have Rq:=af (HTA.o _ jz.size);have HDA:=af hda;have Y8:Hd (w5.heap.size<=db/\db<w6.heap.size/\w.heap.size+5<=w5.heap.size):=⟨FX,hda.lt,kK.o.bF⟩;have uC:Hd (∀i,lI p i->w4.heap.size<=i/\i<w5.heap.size):=λi hi=>⟨zg.o i hi,(HTA.o _ bN).lt i hi⟩;clear hda FX jz HTT HTA zg;generalize hz:w6.heap.size=z at*;have HZ:=af hz;clear hz;have gM:Hd ((∃t,J 0 t/\lV t M1 z p w6)/\ai (Ck p z) w6 w6):=⟨⟨_,HJ0.o L HLI.o Cz.o,Jv.o⟩,ai.refl _ _⟩;have HFZ:Hd (∀i,i<w5.heap.size->¬lI p i->¬Ck p z i):=λi hi hn hf=>by
  rcases hf with hf|hf
  .exact hn hf
  .have:=Y8.o;omega
 go_wp2;go_loopg [14,33]n(λgg _ iv wr=>∃i:Nat,gg=n-i/\i<=n/\iv=xI i/\Hd ((∃t,J i t/\lV t M1 z p wr)/\ai (Ck p z) w6 wr));case atStart=>exact⟨0,rfl,Qbf _,rfl,gM⟩
 case round=>
  obtain⟨i,rfl,hi,rfl,HS⟩:=hrel;rename World=>wr;have Ab:Hd (Bx w [cw (xL la m1 lc) (xL oa m2 oc) (xL ra m3 rc) nx,de 55 (xL none 0 0),de 54 (xL none 0 0),de 3 (xI 0),de 37 (xI 0)] wr):=qt.o.only HS.o.2 (λj hj=>by
   have h1:=Y8.o;have h4:=dI.o.bF;simp at h4⊢;rcases hj with hj|hj
   .have:=uC.o j hj;omega
   .omega);have KF:Hd (jM wr db):=HDA.o.same (HS.o.2.block db HDA.o.lt (λhf=>by
   have h1:=Y8.o;rcases hf with hf|hf
   .have:=uC.o db hf;omega
   .omega));by_cases bu:i<n
  .obtain⟨o,ho⟩:=eB l i (by have:=tz.o;omega);obtain⟨b,off,cap,vv,df,C2,kZ,CS,T5,JE⟩:=zf.o wr Ab.o.1 i o ho;obtain⟨rfl,rfl⟩:=iB C2;have NB:=af (JE wr dQ);obtain⟨t,hJ,Y9⟩:=HS.o.1;obtain⟨F,hF,R5⟩:=HJS.o i o t ho hJ;have X2:=gG (w:=wr) (λW hb=>R5 M1 z p W vv df Rq.o (Y9.below hb) (HGD.o.below (Ab.o.1.trans (hb.mono Ab.o.1.size))) (kZ.below hb) (CS.below hb) T5);have CC:=gG (w:=wr) (λW hb=>(KF.o.same (hb.block _ KF.o.lt)).look hF);obtain⟨va,vc,rfl,-⟩:=kZ.open_;obtain⟨da,dc,rfl,-⟩:=CS.open_;clear C2 kZ CS T5 JE ho R5 hJ Y9;generalize o.aR.length=vn at*;generalize o.dfn.fields.length=dn at*;have yY:=kJ wr o.kind o.id o.cls o.name (xL va vn vc) o.dfn.name (xL da dn dc);have tD:=mM wr;unfold I4 eG at yY tD;have zZ:=af yY;have ry:=af tD;have HFF:=af hF;clear yY tD hF;go_upto_region 9 with fail;iterate 4 go_step
   refine eL rfl (.tmp 35) rfl b (off+i*19) rfl NB.o ?_;iterate 3 go_step
   refine wpList_store_mid ?_ 53 (.tmp 14) (.tmp 36) ?_ wr.heap.size 0 #[xI o.kind,xI o.id,xS o.cls,xS o.name,xI 0,xI 0,xS ⟨#[]⟩,xL none 0 0,xL va vn vc,xS o.dfn.name,xL da dn dc,xI 0,xS ⟨#[]⟩,xS ⟨#[]⟩,xS ⟨#[]⟩,xI 0,xI 0,xS ⟨#[]⟩,xS ⟨#[]⟩] ?_ ?_ ?_ ?_ ?_ ?_
   .exact rfl
   .exact rfl
   .exact rfl
   .exact rfl
   .exact ry.o
   .exact ir
   .simp[Value.oneCell']
   obtain⟨W3,fw⟩:=bS ((wr.alloc (xK #[xI 0,xI 0,xS ⟨#[]⟩,xS ⟨#[]⟩,xI 0,xI 0,xS ⟨#[]⟩,xL none 0 0,xL none 0 0,xS ⟨#[]⟩,xL none 0 0,xI 0,xS ⟨#[]⟩,xS ⟨#[]⟩,xS ⟨#[]⟩,xI 0,xI 0,xS ⟨#[]⟩,xS ⟨#[]⟩] 53)).setCells wr.heap.size 0 #[xI o.kind,xI o.id,xS o.cls,xS o.name,xI 0,xI 0,xS ⟨#[]⟩,xL none 0 0,xL va vn vc,xS o.dfn.name,xL da dn dc,xI 0,xS ⟨#[]⟩,xS ⟨#[]⟩,xS ⟨#[]⟩,xI 0,xI 0,xS ⟨#[]⟩,xS ⟨#[]⟩].toList);have lq:=af (show di W3 wr (eG o.kind o.id o.cls o.name (xL va vn vc) o.dfn.name (xL da dn dc))by rw[fw];exact zZ.o.1);have bO:=af (show aq wr W3 by rw[fw];exact zZ.o.2);rw[<-fw];clear fw;have k0:=(bB lq.o).c0;have qq:=CC.o _ bO.o;have YI:=af (X2.o _ bO.o);clear X2 CC zZ ry NB;dsimp only[Cn]at qq;have F6:∀(f:Nat)(W:aj),(Instr.field 109 (.agg #[.func (.func f) #[] #[]]) 0).run prog W= .ok (.func (.func f) #[] #[]) W:=λ_ _=>by kernel_rfl
   have hF:=HFF.o;clear HFF;go_upto_region 10 with fail;rcases hF with⟨-,rfl⟩|⟨-,rfl⟩|⟨-,rfl⟩|⟨-,rfl⟩|⟨-,rfl⟩;all_goals
    go_wp2_with(refine cQ rfl (.tmp 14) rfl wr.heap.size rfl lq.o ?_);refine(YI.o).mono ?_;rintro e w9⟨rfl,Fv,zT⟩;have HN:Hd ((∃t,J (i+1) t/\lV t M1 z p w9)/\ai (Ck p z) w6 w9):=⟨Fv,(HS.o.2.trans (ai.ao bO.o)).trans zT⟩;clear Fv zT qq k0;go_wp2;go_roundg(n-(i+1));case measure=>omega
    case rel=>exact⟨i+1,rfl,by omega,by go_num,HN⟩
  .obtain rfl:i=n:=by omega
   obtain⟨t,hJ,Y9⟩:=HS.o.1;have hE:=HJE.o t hJ;obtain⟨ds,U2,Yh,fJ,y,hy,R5⟩:=hE.recs;have HRK:=af (I1 t M1 z p Rq.o wr Y9 ds U2 Yh hE.oV hE.rise hE.AN (by have:=hE.olen;omega) (by have:=hE.rlen;omega) fJ);obtain⟨sv,dv,kv,h1,-,-,h4,-⟩:=Y9.st;have HKV:Hd (ab M1 wr kv t.reads):=(h4.more λk hk=> .inl (.inl hk)).slice (λk hk=>Rq.o.far k hk);have RT:=af h1;have Rr:Hd (p.T<w5.heap.size/\w4.heap.size<=p.T):=⟨(uC.o p.T (.inl rfl)).2,(uC.o p.T (.inl rfl)).1⟩;have HJT:=af (And.intro hJ (And.intro U2 (And.intro hy R5)));have UZ:=af (show((yB ds t.objs t.roots).map Subtype.val).length<=1000 by
    have h2:=hE.olen;have h3:=hE.rlen;unfold yB;simp;omega);obtain⟨ka,kn,kc,rfl⟩:∃a n c,kv=xL a n c:=by obtain⟨a,c,e,_⟩:=h4.open_;exact⟨_,_,_,e⟩
   clear hJ Y9 hE U2 Yh fJ hy R5 h1 h4;go_wp2_with fail;refine(HRK.o).mono ?_;rintro e w8⟨_,rfl,bI,Rc⟩;obtain⟨ca,cc,rfl,-⟩:=bI.open_;generalize Nv:((yB ds t.objs t.roots).map Subtype.val).length=rl at*;have X3:=af (Ab.o.below Rc);have qfw:=af bI;have qfx:=af (HKV.o.below Rc);have qcd:Hd (bR w8 p.T (E6 p sv t.next t.news t.made dv (xL ka kn kc))):=(Rc.block _ (Qaa.1 RT.o).1).trans RT.o;have x1:=one_cell (X3.o.bU rfl);have y1:=ag (X3.o.bU rfl) 0;have qfy:=af Nv;clear bI Rc Nv;go_upto_region 13 with fail;clear x1 y1;obtain⟨W9,Rs⟩:=bS (w8.setCell ⟨w.heap.size+1,0,none⟩ (xL ca rl cc));have HO9:=af (show ai (λk=>k=w.heap.size+1) w8 W9 by rw[Rs];exact(ai.refl (λk=>k=w.heap.size+1) w8).setCell (p:=⟨w.heap.size+1,0,none⟩) (.inl rfl) _);have Rt:=af (show Bx w [cw (xL la m1 lc) (xL oa m2 oc) (xL ra m3 rc) nx,de 55 (xL ca rl cc),de 54 (xL none 0 0),de 3 (xI 0),de 37 (xI 0)] W9 by
    rw[Rs];have h:=X3.o.set 1 0 (v:=xL ca rl cc) rfl;simpa [de]using h);rw[<-Rs];clear Rs;have hE9:Ev M1 w8 M1 W9:=⟨HO9.o.mono λk hk=>by rw[zJ.o];right;have hk:k=w.heap.size+1:=hk;omega,λk hk=> .inl hk⟩;have qce:=af (qfw.o.ev hE9);have qfz:=af (qfx.o.ev hE9);have qcf:Hd (bR W9 p.T (E6 p sv t.next t.news t.made dv (xL ka kn kc))):=(HO9.o.block _ (Qaa.1 qcd.o).1 (by have:=Rr.o;have:=dI.o.bF;simp at this;omega)).trans qcd.o;clear hE9;have NX:=af (qp.o y _ W9 _ HJT.o.2.2.1 HJT.o.2.2.2 (by rw[qfy.o];exact UZ.o) Rt.o.1 Rt.o.bF qce.o);obtain⟨a0,a1,a2,a3⟩:=ae (Rt.o.bG rfl);have x1:=one_cell (Rt.o.bU rfl);go_wp2_with fail;refine(NX.o).mono ?_;rintro e tK⟨_,rfl,⟨l2,o2,r2,rfl,Bh,nZ,CN⟩,tw⟩;obtain⟨l2a,l2c,rfl,-⟩:=Bh.open_;obtain⟨o2a,o2c,rfl,-⟩:=nZ.open_;obtain⟨r2a,r2c,rfl,-⟩:=CN.open_;have Ac:=af (Rt.o.below tw);have qf0:=af (qce.o.below tw);have qf1:=af (qfz.o.below tw);have qf2:Hd (bR tK p.T (E6 p sv t.next t.news t.made dv (xL ka kn kc))):=(tw.block _ (Qaa.1 qcf.o).1).trans qcf.o;clear Bh nZ CN tw a0 a1 a2 a3 x1;go_wp2_with fail;refine(Gj.o _).mono ?_;rintro e w11⟨rfl,rfl⟩;obtain⟨a0,a1,a2,a3⟩:=ae (Ac.o.bG rfl);have x1:=one_cell (Ac.o.bU rfl);have x2:=one_cell (Ac.o.fR rfl);have x3:=one_cell (Ac.o.BD rfl);have x4:=one_cell (Ac.o.Ub rfl);have y1:=ag (Ac.o.bU rfl) 0;have y2:=ag (Ac.o.fR rfl) 0;have y3:=ag (Ac.o.BD rfl) 0;have y4:=ag (Ac.o.Ub rfl) 0;obtain⟨-,-,-,-,-,-,-,-,-,t12,-⟩:=ec qf2.o;have Ro:p.T≠w.heap.size+1:=by have:=Rr.o;have:=dI.o.bF;simp at this;omega
   have hT2:p.T≠w.heap.size+1+1:=by have:=Rr.o;have:=dI.o.bF;simp at this;omega
   have hT3:p.T≠w.heap.size+1+1+1:=by have:=Rr.o;have:=dI.o.bF;simp at this;omega
   have hT4:p.T≠w.heap.size+1+1+1+1:=by have:=Rr.o;have:=dI.o.bF;simp at this;omega
   have yN:(1:Int)<=nx:=HXN.o.1;have KD:nx<=100001:=HXN.o.2;have Tx:(0:Int)<=md:=by rw[<-yX.o];omega
   have hm9:md<=100:=by have h:=Kq l;have h2:=tz.o;rw[<-yX.o];omega
   go_upto_region 15 with fail;go_region_held3(λV=>zm V w 0 (xL ca rl cc)/\ox V w 3 (xI nx)/\bt V p.T 12 (xL ka kn kc))
    (first|(refine⟨?_,?_,?_⟩<;>simp_all[go_sem])|fail)
    (first|fail);rw[show IntKind.i64.wrap (nx+md)=nx+md from Qbe _ (by omega)];obtain⟨W',gU⟩:=bS (((((w11.setCell ⟨w.heap.size+1,0,none⟩ (xL ca rl cc)).setCell ⟨w.heap.size+1+1,0,none⟩ (xL ka kn kc)).setCell ⟨w.heap.size+1+1+1,0,none⟩ (xI (nx+md))).setCell ⟨w.heap.size+1+1+1+1,0,none⟩ (xI 0)).drew);have FC:=af (S0 Ac.o gU);rw[<-gU];clear gU a0 a1 a2 a3 x1 x2 x3 x4 y1 y2 y3 y4 t12 Ro hT2 hT3 hT4;have z1:=one_cell (FC.o.1.bU rfl);have z2:=one_cell (FC.o.1.fR rfl);have z3:=one_cell (FC.o.1.BD rfl);have z4:=one_cell (FC.o.1.Ub rfl);go_wp2_with fail;refine leaves_cons (f:=25) (args:= #[xP (w.heap.size+1),xP (w.heap.size+1+1),xP (w.heap.size+1+1+1),xP (w.heap.size+1+1+1+1)]) (by simp) (by simp[go_sem]) ?_;refine(Qe ⟨w.heap.size+1,0,none⟩ ⟨w.heap.size+1+1,0,none⟩ ⟨w.heap.size+1+1+1,0,none⟩ ⟨w.heap.size+1+1+1+1,0,none⟩ _).mono ?_;rintro e u' w''⟨rfl,rfl,rfl⟩;have hE:Ev M1 w11 M w'':=⟨FC.o.2.mono λk hk=>by rw[zJ.o];exact .inr hk,λk hk=> .inl (by rw[zJ.o];exact .inl hk)⟩;refine⟨.tuple #[xL ca rl cc,xL ka kn kc,xI (nx+md),xI 0],by simp[results,results9,go_sem,z1,z2,z3,z4],⟨_,rfl,⟨t,ds,_,_,HJT.o.1,HJT.o.2.1,by rw[yX.o],qf0.o.ev hE,qf1.o.ev hE⟩,FC.o.1.1⟩⟩
def nW(id:Int):pF:=⟨7,id,⟨#[]⟩,⟨#[]⟩,[],⟨⟨#[]⟩,[]⟩⟩
def rq(n:aM):pF:=⟨8,0,⟨#[]⟩,n,[],⟨⟨#[]⟩,[]⟩⟩
def MS {t:oh}(hr:id∈t.reach)(hid:1<=id/\id<=100000)(hl:t.reads.length<=1000){J:oh->Prop}(hJ:∀k t',t.lW k t'->J t'):Ff t (nW id) J:=
 ⟨_, .inr (.inr (.inr (.inl ⟨rfl,rfl⟩))),λM z p W vv df hA hT hG hv hd hz=>by
   obtain rfl:=hz.1 rfl;obtain rfl:=hz.2 rfl;refine(look_ok t M z p hA W hT hG id hid hr hl).mono ?_;rintro e w'⟨rfl,⟨k,t',h1,h2⟩,h3⟩;exact⟨rfl,⟨t',hJ k t' h1,h2⟩,h3⟩⟩
def I9 {t:oh}{n:aM}(hn:n.size<=20)(hl:t.reads.length<=1000){J:oh->Prop}(hJ:∀k t',t.lW k t'->J t'):Ff t (rq n) J:=
 ⟨_, .inr (.inr (.inr (.inr ⟨rfl,rfl⟩))),λM z p W vv df hA hT hG hv hd hz=>by
   obtain rfl:=hz.1 rfl;obtain rfl:=hz.2 rfl;refine(E8 t M z p hA W hT n hn hl).mono ?_;rintro e w'⟨rfl,⟨k,t',h1,h2⟩,h3⟩;exact⟨rfl,⟨t',hJ k t' h1,h2⟩,h3⟩⟩
def Ja {t:oh}(hr:id∉t.reach):Qh t (nW id) 101:=
 ⟨_, .inr (.inr (.inr (.inl ⟨rfl,rfl⟩))),λM z p W vv df hA hT hG hv hd hz=>by
   obtain rfl:=hz.1 rfl;obtain rfl:=hz.2 rfl;refine bY (ML t M z p W hT id hr) λw' h3=> ?_;exact⟨rfl,ai.ao h3⟩⟩
structure Ya(x:aX)(i:Nat)(t:oh):Prop where
 reach:∀n,n∈t.reach↔Mk.CH (cm x) (dw x) n
 objs:t.objs=[]
 roots:t.roots=[]
 defs:t.defs=[]
 len:t.reads.length<=i
 some_:0<i->t.reads≠[]
theorem Ya.step {x:aX}{t t':oh}{k:aM}(h:Ya x i t)(hr:t.lW k t'):Ya x (i+1) t':=by
 rcases hr with⟨hk,rfl⟩|⟨hk,rfl⟩
 .exact⟨h.reach,h.objs,h.roots,h.defs,by have:=h.len;omega,λ_ e=>by rw[e]at hk;cases hk⟩
 .exact⟨h.reach,h.objs,h.roots,h.defs,by have:=h.len;simp;omega,λ_ e=>by simp at e⟩
theorem Ya.end_ {x:aX}(hx:gi x){t:oh}(h:Ya x i t):I8 x t where
 recs:=⟨[],by rw[h.defs];rfl,by simp,by rw[h.objs,h.roots];simp[yB],x,hx,by rw[h.objs,h.roots];exact kT.nil x⟩
 rise:=by rw[h.objs];simp[cL]
 AN:=by rw[h.roots];simp[gJ]
 oV:=by rw[h.roots];simp
 olen:=by rw[h.objs];simp
 rlen:=by rw[h.roots];simp
def yD(h:1<=id/\id<=100000):pG M w (nW id):=λW vv df _ _ _ hz=>by
 obtain rfl:=hz.1 rfl;obtain rfl:=hz.2 rfl;exact sW id h W
def Fg {n:aM}(h:aB n=true):pG M w (rq n):=λW vv df _ _ _ hz=>by
 obtain rfl:=hz.1 rfl;obtain rfl:=hz.2 rfl;exact zH n h W
def rr(x:aX)(o:pF):Prop:=(∃id,o=nW id/\Mk.CH (cm x) (dw x) id)\/(∃n,o=rq n/\aB n=true/\n.size<=20)
def Jb {x:aX}{l:List pF}(h:∀o∈l,rr x o):madeOf l=0:=by
 unfold madeOf;rw[List.length_eq_zero_iff,List.filter_eq_nil_iff];intro o ho;rcases h o ho with⟨id,rfl,_⟩|⟨n,rfl,_⟩<;>simp[nW,rq]
def qj {x:aX}(hx:gi x)(h:Mk.CH (cm x) (dw x) id):1<=id/\id<=100000:=by
 obtain⟨o,ho,rfl⟩:=List.mem_map.1 (hx.closed.Rw h);obtain⟨i,hi⟩:=List.getElem?_of_mem ho;obtain⟨h1,h2,_⟩:=hx.objs i o hi;have:=hx.next;omega
def MT(x:aX)(hx:gi x)(l:List pF)(hl:l.length<=20)(h:∀o∈l,rr x o)(M:aN)(w:aj)(hM:Bd M w)(hG:Gd w)(lv ov rv qv:an)(ja:ab M w lv x.lines)(kq:ab M w ov x.objs)(iM:ab M w rv x.roots)(hq:ab M w qv l):
 xG 9 #[.agg #[lv,ov,rv,xI x.next],qv] w λu w'=>∃(cv kv:an)(ks:List aM),u= .tuple #[cv,kv,xI x.next,xI 0]/\ab (α:=eW) M w' cv []/\ab M w' kv ks/\ks.length<=l.length/\(0<l.length->ks≠[]):=by
 have hm:=Jb h;refine(Qi x hx l hl M w hM hG lv ov rv qv ja kq iM hq (λo ho=> ?_) (.inl hm) (λo ho=> ?_) (λo ho v hv=> ?_) (Ya x) (λL hL _=>⟨hL,rfl,rfl,rfl,by simp,λh=>by omega⟩) (λi o t ho hj=> ?_) (λt hj=>hj.end_ hx)).mono ?_
 .rcases h o ho with⟨id,rfl,h1⟩|⟨n,rfl,h1,h2⟩
  .exact yD (qj hx h1)
  .exact Fg h1
 .rw[hm];rcases h o ho with⟨id,rfl,h1⟩|⟨n,rfl,h1,h2⟩
  .have:=qj hx h1;simp[nW];omega
  .simp[rq]
 .rcases h o ho with⟨id,rfl,h1⟩|⟨n,rfl,h1,h2⟩<;>cases hv
 .have hi:i<l.length:=(Qad.1 ho).1;have hlen:=hj.len;rcases h o (Qaf ho)with⟨id,rfl,h1⟩|⟨n,rfl,h1,h2⟩
  .exact MS ((hj.reach id).2 h1) (qj hx h1) (by omega) λk t' hr=>hj.step hr
  .exact I9 h2 (by omega) λk t' hr=>hj.step hr
 .rintro e w'⟨u,rfl,⟨t,ds,cv,kv,hj,U2,rfl,h1,h2⟩,hb⟩;refine⟨_,rfl,⟨cv,kv,t.reads,by rw[hm];simp,?_,h2,hj.len,hj.some_⟩,hb⟩;have e0:ds=[]:=by
   have:=hj.defs;rw[U2]at this;exact List.map_eq_nil_iff.1 this
  rw[hj.objs,hj.roots,e0]at h1;exact h1
def Fh(x:aX)(hx:gi x)(l:List pF)(hl:l.length<=20)(M:aN)(w:aj)(hM:Bd M w)(hG:Gd w)(lv ov rv qv:an)(ja:ab M w lv x.lines)(kq:ab M w ov x.objs)(iM:ab M w rv x.roots)(hq:ab M w qv l)
 (hR:∀o∈l,pG M w o)(wu:madeOf l=0\/x.next+madeOf l-1<=100000)(hid:∃o,l[0]? =some o/\o.id< -(madeOf l:Int)/\-100000<=o.id):
 xG 9 #[.agg #[lv,ov,rv,xI x.next],qv] w λu w'=>u= .tuple #[xL none 0 0,xL none 0 0,xI 0,xI 170]:=by
 have CA:∀(fn:Fn)(first cap:Array an)(w:aj),(Instr.makeFunc fn first cap).run prog w= .ok (.func fn first cap) w:=λ_ _ _ _=>rfl;have R6:=gG (w:=w) (λW hb=>qi x W lv ov rv hx (hG.below hb) ((ja.below hb).ev (Ev.dD W λi hi=>hi.elim)) ((kq.below hb).ev (Ev.dD W λi hi=>hi.elim)) ((iM.below hb).ev (Ev.dD W λi hi=>hi.elim)));have zR:=gG (w:=w) (λW hb=>Qd x.next ⟨by have:=hx.next;omega,by have:=hx.next;omega⟩ l hl M W lv ov rv qv (by obtain⟨a,c,e,_⟩:=ja.open_;exact⟨_,_,_,e⟩) (by obtain⟨a,c,e,_⟩:=kq.open_;exact⟨_,_,_,e⟩) (by obtain⟨a,c,e,_⟩:=iM.open_;exact⟨_,_,_,e⟩) (hq.below hb) (λo ho W' vv df l6 h1 h2 h3=>hR o ho W' vv df (hb.trans (l6.mono hb.size)) h1 h2 h3) wu hid);have CV:Hd (∀L:List Int,Mk.Im L->(∀n,n∈L↔Mk.CH (cm x) (dw x) n)->L.length<=500):=λL hr hL=>by
  have h1:=eV (cL x.objs) L (hr.imp (λ{a b}h e=>by omega)) (λn hn=>hx.closed.Rw ((hL n).1 hn));have h2:=hx.len;unfold cL at h1;rw[Qdc]at h1;omega
 have HGD:=af hG;have US:=af wu;have HXN:=af hx.next;have Ux:=af hx.len;obtain⟨la,lc,rfl,-⟩:=ja.open_;obtain⟨oa,oc,rfl,-⟩:=kq.open_;obtain⟨ra,rc,rfl,-⟩:=iM.open_;obtain⟨qa,qc,rfl,T2,XW,-⟩:=hq.open_;clear hx ja kq iM hq hM hG hR wu hid;generalize tJ:x.next=nx at*;generalize rF:x.lines.length=m1 at*;generalize CR:x.objs.length=m2 at*;generalize Ns:x.roots.length=m3 at*;generalize yU:l.length=n at*;have uK:=af tJ;clear tJ;have zK:=af rF;clear rF;have lK:=af CR;clear CR;have HA3:=af Ns;clear Ns;have tz:=af yU;clear yU;have bW:=af (Bx.GO w (cw (xL la m1 lc) (xL oa m2 oc) (xL ra m3 rc) nx) (de 55 (xL none 0 0)) (de 54 (xL none 0 0)) (de 3 (xI 0)) (de 37 (xI 0)));go_enter_defers func9,ntmps9;go_upto_region 2 with fail;obtain⟨W1,bT⟩:=bS (((((w.alloc (cw (xL la m1 lc) (xL oa m2 oc) (xL ra m3 rc) nx)).alloc (de 55 (xL none 0 0))).alloc (de 54 (xL none 0 0))).alloc (de 3 (xI 0))).alloc (de 37 (xI 0)));rw[<-bT]at bW;unfold cw de at bT;rw[<-bT];clear bT;have fL:=af bW.o.1;obtain⟨a0,a1,a2,a3⟩:=ae (bW.o.bG rfl);go_wp2_with fail;refine(R6.o _ bW.o.1).mono ?_;rintro e w2⟨_,rfl,⟨L,wv,rfl,hL,NT,U4⟩,bC⟩;have Ra:=CV.o L NT U4;have HLI:=af U4;have qs:=af hL;have aQ:=af (bW.o.below bC);obtain⟨wa,wc,rfl,-⟩:=hL.open_;have Cz:Hd (L.length<=500):=Ra;clear hL NT U4 bC a0 a1 a2 a3 Ra;obtain⟨a0,a1,a2,a3⟩:=ae (aQ.o.bG rfl);have Gj:=af qh;go_wp2_with fail;refine(Gj.o _).mono ?_;rintro e w3⟨rfl,rfl⟩;go_wp2_with fail;refine(zR.o _ aQ.o.1).mono ?_;rintro e w4⟨rfl,eA⟩;have dI:=af (aQ.o.below eA);clear eA a0 a1 a2 a3;refine leaves_cons (f:=25) (args:= #[xP (w.heap.size+1),xP (w.heap.size+1+1),xP (w.heap.size+1+1+1),xP (w.heap.size+1+1+1+1)]) (by simp) (by simp[go_sem]) ?_;refine(uy (w.heap.size+1) 170 w4 (dI.o.bU rfl) (dI.o.fR rfl) (dI.o.BD rfl) (dI.o.Ub rfl)).mono ?_;rintro e u' w''⟨rfl,rfl,g0,g1,g2,g3,ho⟩;have z1:=one_cell g0;have z2:=one_cell g1;have z3:w''.cell? ⟨w.heap.size+1+1+1,0,none⟩=some (xI 0):=one_cell g2;have z4:w''.cell? ⟨w.heap.size+1+1+1+1,0,none⟩=some (xI 170):=one_cell g3;exact⟨.tuple #[xL none 0 0,xL none 0 0,xI 0,xI 170],by simp[results,results9,go_sem,z1,z2,z3,z4],⟨_,rfl,rfl,aS dI.o.1 dI.o.1.size ho (λi hi=>by omega)⟩⟩
def MU(x:aX)(hx:gi x)(l:List pF)(hl:l.length<=20)(M:aN)(w:aj)(hM:Bd M w)(hG:Gd w)(lv ov rv qv:an)(ja:ab M w lv x.lines)(kq:ab M w ov x.objs)(iM:ab M w rv x.roots)(hq:ab M w qv l)
 (hR:∀o∈l,pG M w o)(wu:madeOf l=0\/x.next+madeOf l-1<=100000)(hid:∀o∈l,-(madeOf l:Int)<=o.id/\o.id<=100000)(T4:∀o∈l,∀v∈o.aR,Be v)
 (o0:pF)(ho0:l[0]? =some o0)(en:Int)(hf:∀L:List Int,(∀n,n∈L↔Mk.CH (cm x) (dw x) n)->Qh ⟨x.lines,x.next,L,madeOf l,0,[],[],[],[]⟩ o0 en):
 xG 9 #[.agg #[lv,ov,rv,xI x.next],qv] w λu w'=>u= .tuple #[xL none 0 0,xL none 0 0,xI 0,xI en]:=by
 have CA:∀(fn:Fn)(first cap:Array an)(w:aj),(Instr.makeFunc fn first cap).run prog w= .ok (.func fn first cap) w:=λ_ _ _ _=>rfl;have R6:=gG (w:=w) (λW hb=>qi x W lv ov rv hx (hG.below hb) ((ja.below hb).ev (Ev.dD W λi hi=>hi.elim)) ((kq.below hb).ev (Ev.dD W λi hi=>hi.elim)) ((iM.below hb).ev (Ev.dD W λi hi=>hi.elim)));have zR:=gG (w:=w) (λW hb=>Kr x.next ⟨by have:=hx.next;omega,by have:=hx.next;omega⟩ l hl M W lv ov rv qv (by obtain⟨a,c,e,_⟩:=ja.open_;exact⟨_,_,_,e⟩) (by obtain⟨a,c,e,_⟩:=kq.open_;exact⟨_,_,_,e⟩) (by obtain⟨a,c,e,_⟩:=iM.open_;exact⟨_,_,_,e⟩) (hq.below hb) (λo ho W' vv df l6 h1 h2 h3=>hR o ho W' vv df (hb.trans (l6.mono hb.size)) h1 h2 h3) wu hid T4);obtain⟨M1,Rm⟩:∃M1:aN,M1=(λi=>M i\/(w.heap.size<=i/\i<w.heap.size+5)):=⟨_,rfl⟩;have hMM:∀i,M1 i->M i\/w.heap.size<=i:=λi hi=>by
  rw[Rm]at hi;exact hi.imp_right λe=>e.1
 have hE:∀W,aq w W->Ev M w M1 W:=λW hb=>⟨ai.ao hb,hMM⟩;have CY:Hd (∀W,w.heap.size+5<=W.heap.size->Bd M1 W):=λW hz i hi=>by
  rw[Rm]at hi;rcases hi with hi|hi
  .have:=hM i hi;omega
  .omega
 have HBG:Hd (∀(W:aj)(L:List Int)(wv:an)(n:Int),aq w W->w.heap.size+5<=W.heap.size->ab xF W wv L->L.length<=1000->_):=λW L wv n hb hz hL Ra=>Bc x M1 W (CY.o W hz) lv ov rv wv (ja.ev (hE W hb)) (kq.ev (hE W hb)) (iM.ev (hE W hb)) L hL (by have:=hx.len;omega) Ra n;have zf:Hd (∀W,aq w W->∀i o,l[i]? =some o->_):=λW hb i o ho=>Co (hq.ev (hE W hb)) ho;have qp:Hd (∀(y:aX)(recs:List eW)(W:aj)(cv:an),gi y->kT x recs y->recs.length<=1000->aq w W->w.heap.size+5<=W.heap.size->ab M1 W cv recs->_):=λy recs W cv hy hd hn hb hz hc=>A5 x y hx hy recs hd hn M1 W (CY.o W hz) (hG.below hb) lv ov rv cv (ja.ev (hE W hb)) (kq.ev (hE W hb)) (iM.ev (hE W hb)) hc;have CV:Hd (∀L:List Int,Mk.Im L->(∀n,n∈L↔Mk.CH (cm x) (dw x) n)->L.length<=500):=λL hr hL=>by
  have h1:=eV (cL x.objs) L (hr.imp (λ{a b}h e=>by omega)) (λn hn=>hx.closed.Rw ((hL n).1 hn));have h2:=hx.len;unfold cL at h1;rw[Qdc]at h1;omega
 have zJ:=af Rm;have HJS:=af hf;have HO0:=af ho0;have HGD:=af hG;have US:=af wu;have HXN:=af hx.next;have Ux:=af hx.len;obtain⟨la,lc,rfl,-⟩:=ja.open_;obtain⟨oa,oc,rfl,-⟩:=kq.open_;obtain⟨ra,rc,rfl,-⟩:=iM.open_;obtain⟨qa,qc,rfl,T2,XW,-⟩:=hq.open_;clear hx ja kq iM hq hM hG hR wu hid T4 hf ho0 Rm hMM hE;generalize tJ:x.next=nx at*;generalize rF:x.lines.length=m1 at*;generalize CR:x.objs.length=m2 at*;generalize Ns:x.roots.length=m3 at*;generalize yU:l.length=n at*;have uK:=af tJ;clear tJ;have zK:=af rF;clear rF;have lK:=af CR;clear CR;have HA3:=af Ns;clear Ns;have tz:=af yU;clear yU;have bW:=af (Bx.GO w (cw (xL la m1 lc) (xL oa m2 oc) (xL ra m3 rc) nx) (de 55 (xL none 0 0)) (de 54 (xL none 0 0)) (de 3 (xI 0)) (de 37 (xI 0)));go_enter_defers func9,ntmps9;go_upto_region 2 with fail;obtain⟨W1,bT⟩:=bS (((((w.alloc (cw (xL la m1 lc) (xL oa m2 oc) (xL ra m3 rc) nx)).alloc (de 55 (xL none 0 0))).alloc (de 54 (xL none 0 0))).alloc (de 3 (xI 0))).alloc (de 37 (xI 0)));rw[<-bT]at bW;unfold cw de at bT;rw[<-bT];clear bT;have fL:=af bW.o.1;obtain⟨a0,a1,a2,a3⟩:=ae (bW.o.bG rfl);go_wp2_with fail;refine(R6.o _ bW.o.1).mono ?_;rintro e w2⟨_,rfl,⟨L,wv,rfl,hL,NT,U4⟩,bC⟩;have Ra:=CV.o L NT U4;have HLI:=af U4;have qs:=af hL;have aQ:=af (bW.o.below bC);obtain⟨wa,wc,rfl,-⟩:=hL.open_;have Cz:Hd (L.length<=500):=Ra;clear hL NT U4 bC a0 a1 a2 a3 Ra;obtain⟨a0,a1,a2,a3⟩:=ae (aQ.o.bG rfl);have Gj:=af qh;go_wp2_with fail;refine(Gj.o _).mono ?_;rintro e w3⟨rfl,rfl⟩;go_wp2_with fail;refine(zR.o _ aQ.o.1).mono ?_;rintro e w4⟨rfl,eA⟩;have dI:=af (aQ.o.below eA);have nJ:=af (HBG.o w4 L _ (madeOf l) dI.o.1 dI.o.bF (qs.o.below eA) (by have:=Cz.o;omega));clear eA a0 a1 a2 a3;obtain⟨a0,a1,a2,a3⟩:=ae (dI.o.bG rfl);generalize wu:(madeOf l:Int)=md at*;have yX:=af wu;clear wu;go_wp2_with fail;refine(nJ.o).mono ?_;rintro e w5⟨p,rfl,kq,iM,hA,hS,hT,jg⟩;have HTA:=af hA;have zg:=af hS;have HTT:=af hT;have kK:=af (dI.o.below jg);clear kq iM hA hS hT jg a0 a1 a2 a3;have HDO:=af Fc;go_wp2_with fail;refine(HDO.o _).mono ?_;rintro e w6⟨db,rfl,hda,FX,jz⟩;have qt:=af (kK.o.below jz);have Jv:=af (HTT.o w6 jz);have Rq:=af (HTA.o _ jz.size);have HDA:=af hda;have Y8:Hd (w5.heap.size<=db/\db<w6.heap.size/\w.heap.size+5<=w5.heap.size):=⟨FX,hda.lt,kK.o.bF⟩;have uC:Hd (∀i,lI p i->w4.heap.size<=i/\i<w5.heap.size):=λi hi=>⟨zg.o i hi,(HTA.o _ bN).lt i hi⟩;clear hda FX jz HTT HTA zg;generalize hz:w6.heap.size=z at*;have HZ:=af hz;clear hz;have HFZ:Hd (∀i,i<w5.heap.size->¬lI p i->¬Ck p z i):=λi hi hn hf=>by
  rcases hf with hf|hf
  .exact hn hf
  .have:=Y8.o;omega
 go_wp2;go_loopg [14,33]n(λgg _ iv wr=>gg=n/\iv=xI 0/\wr=w6);case atStart=>exact⟨rfl,rfl,rfl⟩
 case round=>
  obtain⟨hgg,rfl,XF⟩:=hrel;clear hgg;subst XF;rename World=>wr;have Ab:=qt;have KF:=HDA;have bu:0<n:=by have h:=(Qad.1 HO0.o).1;have:=tz.o;omega
  obtain⟨o,hoo⟩:=bS (o0);have ho:=HO0.o;rw[<-hoo]at ho;obtain⟨b,off,cap,vv,df,C2,kZ,CS,T5,JE⟩:=zf.o wr Ab.o.1 0 o ho;obtain⟨rfl,rfl⟩:=iB C2;have NB:=af (JE wr dQ);have Y9:=Jv.o;obtain⟨F,hF,R5⟩:=HJS.o L HLI.o;rw[<-hoo]at hF R5;clear hoo;have X2:=gG (w:=wr) (λW hb=>R5 M1 z p W vv df Rq.o (Y9.below hb) (HGD.o.below (Ab.o.1.trans (hb.mono Ab.o.1.size))) (kZ.below hb) (CS.below hb) T5);have CC:=gG (w:=wr) (λW hb=>(KF.o.same (hb.block _ KF.o.lt)).look hF);obtain⟨va,vc,rfl,-⟩:=kZ.open_;obtain⟨da,dc,rfl,-⟩:=CS.open_;clear C2 kZ CS T5 JE ho R5 Y9;generalize o.aR.length=vn at*;generalize o.dfn.fields.length=dn at*;have yY:=kJ wr o.kind o.id o.cls o.name (xL va vn vc) o.dfn.name (xL da dn dc);have tD:=mM wr;unfold I4 eG at yY tD;have zZ:=af yY;have ry:=af tD;have HFF:=af hF;clear yY tD hF;go_upto_region 9 with fail;iterate 4 go_step
  refine eL rfl (.tmp 35) rfl b (off+0*19) rfl NB.o ?_;iterate 3 go_step
  refine wpList_store_mid ?_ 53 (.tmp 14) (.tmp 36) ?_ wr.heap.size 0 #[xI o.kind,xI o.id,xS o.cls,xS o.name,xI 0,xI 0,xS ⟨#[]⟩,xL none 0 0,xL va vn vc,xS o.dfn.name,xL da dn dc,xI 0,xS ⟨#[]⟩,xS ⟨#[]⟩,xS ⟨#[]⟩,xI 0,xI 0,xS ⟨#[]⟩,xS ⟨#[]⟩] ?_ ?_ ?_ ?_ ?_ ?_
  .exact rfl
  .exact rfl
  .exact rfl
  .exact rfl
  .exact ry.o
  .exact ir
  .simp[Value.oneCell']
  obtain⟨W3,fw⟩:=bS ((wr.alloc (xK #[xI 0,xI 0,xS ⟨#[]⟩,xS ⟨#[]⟩,xI 0,xI 0,xS ⟨#[]⟩,xL none 0 0,xL none 0 0,xS ⟨#[]⟩,xL none 0 0,xI 0,xS ⟨#[]⟩,xS ⟨#[]⟩,xS ⟨#[]⟩,xI 0,xI 0,xS ⟨#[]⟩,xS ⟨#[]⟩] 53)).setCells wr.heap.size 0 #[xI o.kind,xI o.id,xS o.cls,xS o.name,xI 0,xI 0,xS ⟨#[]⟩,xL none 0 0,xL va vn vc,xS o.dfn.name,xL da dn dc,xI 0,xS ⟨#[]⟩,xS ⟨#[]⟩,xS ⟨#[]⟩,xI 0,xI 0,xS ⟨#[]⟩,xS ⟨#[]⟩].toList);have lq:=af (show di W3 wr (eG o.kind o.id o.cls o.name (xL va vn vc) o.dfn.name (xL da dn dc))by rw[fw];exact zZ.o.1);have bO:=af (show aq wr W3 by rw[fw];exact zZ.o.2);rw[<-fw];clear fw;have k0:=(bB lq.o).c0;have qq:=CC.o _ bO.o;have YI:=af (X2.o _ bO.o);clear X2 CC zZ ry NB;dsimp only[Cn]at qq;have F6:∀(f:Nat)(W:aj),(Instr.field 109 (.agg #[.func (.func f) #[] #[]]) 0).run prog W= .ok (.func (.func f) #[] #[]) W:=λ_ _=>by kernel_rfl
  have hF:=HFF.o;clear HFF;go_upto_region 10 with fail;rcases hF with⟨-,rfl⟩|⟨-,rfl⟩|⟨-,rfl⟩|⟨-,rfl⟩|⟨-,rfl⟩;all_goals
   go_wp2_with(refine cQ rfl (.tmp 14) rfl wr.heap.size rfl lq.o ?_);refine(YI.o).mono ?_;rintro e w9⟨rfl,zT⟩;have FK:Hd (Bx w [cw (xL la m1 lc) (xL oa m2 oc) (xL ra m3 rc) nx,de 55 (xL none 0 0),de 54 (xL none 0 0),de 3 (xI 0),de 37 (xI 0)] w9):=(Ab.o.below bO.o).only zT (λj hj=>by
    have h1:=Y8.o;have h4:=dI.o.bF;simp at h4⊢;rcases hj with hj|hj
    .have:=uC.o j hj;omega
    .omega);clear zT qq k0;refine leaves_cons (f:=25) (args:= #[xP (w.heap.size+1),xP (w.heap.size+1+1),xP (w.heap.size+1+1+1),xP (w.heap.size+1+1+1+1)]) (by simp) (by simp[go_sem]) ?_;refine(uy (w.heap.size+1) en w9 (FK.o.bU rfl) (FK.o.fR rfl) (FK.o.BD rfl) (FK.o.Ub rfl)).mono ?_;rintro e u' w''⟨rfl,rfl,g0,g1,g2,g3,ho⟩;have z1:=one_cell g0;have z2:=one_cell g1;have z3:w''.cell? ⟨w.heap.size+1+1+1,0,none⟩=some (xI 0):=one_cell g2;have z4:w''.cell? ⟨w.heap.size+1+1+1+1,0,none⟩=some (xI en):=one_cell g3;exact⟨.tuple #[xL none 0 0,xL none 0 0,xI 0,xI en],by simp[results,results9,go_sem,z1,z2,z3,z4],⟨_,rfl,rfl,aS FK.o.1 FK.o.1.size ho (λi hi=>by omega)⟩⟩
abbrev Kt:an:= .agg #[xL none 0 0,xL none 0 0,xL none 0 0,xI 0]
def Cq(w:aj):xC 54 #[Kt] w (cr (xB false) w):=by
 have HX:=af (Bx.eD w (cw (xL none 0 0) (xL none 0 0) (xL none 0 0) 0));go_enter func54,ntmps54;go_upto_region 1 with fail;obtain⟨W1,bT⟩:=bS (w.alloc (cw (xL none 0 0) (xL none 0 0) (xL none 0 0) 0));rw[<-bT]at HX;unfold cw at bT;rw[<-bT];clear bT;obtain⟨a0,a1,a2,a3⟩:=ae (HX.o.bG rfl);go_wp2;go_ret;exact⟨rfl,HX.o.1⟩
def Fi(w:aj)(hT:Tb w):xC 21 #[Kt] w λe w'=>(∃mb,e=xR (.tuple #[.agg #[xL none 0 0, .map mb],xI 100]))/\aq w w':=by
 have FW:=gG (w:=w) (λW hb=>p8 [] ug xF W (λi h=>h.elim) (hT.below hb) (xL none 0 0) (ab.nil _ _));have HOR:=af Cq;have HX:=af (Bx.dq w (cw (xL none 0 0) (xL none 0 0) (xL none 0 0) 0) (xK #[xL none 0 0, .map none] 89));clear hT;go_enter func21,ntmps21;go_upto_region 1 with fail;obtain⟨W1,bT⟩:=bS ((w.alloc (cw (xL none 0 0) (xL none 0 0) (xL none 0 0) 0)).alloc (xK #[xL none 0 0, .map none] 89));rw[<-bT]at HX;unfold cw at bT;rw[<-bT];clear bT;obtain⟨a0,a1,a2,a3⟩:=ae (HX.o.bG rfl);go_wp2_with fail;refine bY (FW.o _ HX.o.1) λw2 hb=> ?_;have fU:=af (HX.o.below hb);clear hb a0 a1 a2 a3;obtain⟨a0,a1,a2,a3⟩:=ae (fU.o.bG rfl);go_wp2_with fail;refine bY (HOR.o _) λw3 hb=> ?_;have lq:=af (fU.o.below hb);clear hb a0 a1 a2 a3;obtain⟨b0,b1⟩:=ah (lq.o.bU rfl);obtain⟨f0,f1⟩:=mV (lq.o.bU rfl);go_wp2_with fail;refine Qae (v:= .tuple #[.agg #[xL none 0 0, .map none],xI 100]) (by simp[results,results21,go_sem,b0,b1,f0,f1]) rfl ⟨⟨none,rfl⟩,?_⟩;exact(lq.o.1.setCell (p:=⟨w.heap.size+1,0,none⟩) (by simp) _).setCell (p:=⟨w.heap.size+1,1,none⟩) (by simp) _
def Jc(w:aj)(hT:Tb w):xC 7 #[Kt] w (cr (.tuple #[xL none 0 0,xI 100]) w):=by
 have HX:=af (Bx.eD w (cw (xL none 0 0) (xL none 0 0) (xL none 0 0) 0));have HSV:=af (Fi _ (hT.below HX.o.1));clear hT;go_enter func7,ntmps7;go_upto_region 1 with fail;obtain⟨W1,bT⟩:=bS (w.alloc (cw (xL none 0 0) (xL none 0 0) (xL none 0 0) 0));rw[<-bT]at HX HSV;unfold cw at bT;rw[<-bT];clear bT;obtain⟨a0,a1,a2,a3⟩:=ae (HX.o.bG rfl);go_wp2_with fail;refine(HSV.o).mono ?_;rintro e w2⟨⟨mb,rfl⟩,hb⟩;have fU:=af (HX.o.below hb);clear hb a0 a1 a2 a3;go_wp2_with fail;exact Qae (results_tmp2 rfl _ _ _) rfl ⟨rfl,fU.o.1.alloc fU.o.1.size _⟩
def Qj(w:aj)(hT:Tb w)(qa:fA)(qn qc:Nat):xG 9 #[Kt,xL qa qn qc] w λu w'=>u= .tuple #[xL none 0 0,xL none 0 0,xI 0,xI 100]:=by
 have CA:∀(fn:Fn)(first cap:Array an)(w:aj),(Instr.makeFunc fn first cap).run prog w= .ok (.func fn first cap) w:=λ_ _ _ _=>rfl;have bW:=af (Bx.GO w (cw (xL none 0 0) (xL none 0 0) (xL none 0 0) 0) (de 55 (xL none 0 0)) (de 54 (xL none 0 0)) (de 3 (xI 0)) (de 37 (xI 0)));have R6:=af (Jc _ (hT.below bW.o.1));have Gj:=af (MH 100 (by decide));clear hT;go_enter_defers func9,ntmps9;go_upto_region 2 with fail;obtain⟨W1,bT⟩:=bS (((((w.alloc (cw (xL none 0 0) (xL none 0 0) (xL none 0 0) 0)).alloc (de 55 (xL none 0 0))).alloc (de 54 (xL none 0 0))).alloc (de 3 (xI 0))).alloc (de 37 (xI 0)));rw[<-bT]at bW R6;unfold cw de at bT;rw[<-bT];clear bT;obtain⟨a0,a1,a2,a3⟩:=ae (bW.o.bG rfl);go_wp2_with fail;refine(R6.o).mono ?_;rintro e w2⟨rfl,bC⟩;have dI:=af (bW.o.below bC);clear bC a0 a1 a2 a3;go_wp2_with fail;refine(Gj.o _).mono ?_;rintro e w4⟨rfl,rfl⟩;refine leaves_cons (f:=25) (args:= #[xP (w.heap.size+1),xP (w.heap.size+1+1),xP (w.heap.size+1+1+1),xP (w.heap.size+1+1+1+1)]) (by simp) (by simp[go_sem]) ?_;refine(uy (w.heap.size+1) 100 _ (dI.o.bU rfl) (dI.o.fR rfl) (dI.o.BD rfl) (dI.o.Ub rfl)).mono ?_;rintro e u' w''⟨rfl,rfl,g0,g1,g2,g3,ho⟩;have z1:=one_cell g0;have z2:=one_cell g1;have z3:w''.cell? ⟨w.heap.size+1+1+1,0,none⟩=some (xI 0):=one_cell g2;have z4:w''.cell? ⟨w.heap.size+1+1+1+1,0,none⟩=some (xI 100):=one_cell g3;exact⟨.tuple #[xL none 0 0,xL none 0 0,xI 0,xI 100],by simp[results,results9,go_sem,z1,z2,z3,z4],⟨_,rfl,rfl,aS dI.o.1 dI.o.1.size ho (λi hi=>by omega)⟩⟩
def MV(t:oh)(M:aN)(z:Nat)(p:tB)(W:aj)(h:lV t M z p W)(h8:t.sch.length<=8)(name:aM)(n:Nat)(hn:dU t.sch name=n):xC 136 #[xP p.T,xS name] W (cr (xI n) W):=by
 obtain⟨sv,dv,kv,h1,h2,-⟩:=h.st;obtain⟨c0,-⟩:=ec h1;have HF:=af (EH _ sv W t.sch name h2 h8 n hn);have HU:=af (kI 170);obtain⟨sa,sc,rfl,-⟩:=h2.open_;generalize t.sch.length=sn at*;go_enter func136,ntmps136;go_wp2_with fail;refine(HF.o).mono ?_;rintro e w2⟨rfl,hb⟩;have HB:=af hb;go_wp2_with fail;refine(HU.o _).mono ?_;rintro e w3⟨rfl,rfl⟩;go_wp2;go_ret;exact⟨rfl,HB.o⟩
def Cr(T:an)(k n:Int)(s:aM)(a:fA)(c:Nat)(hk:k≠3/\k≠4)(w:aj):xC 140 #[T, .agg #[xI k,xI n,xS s,xL a 0 c]] w (cr (.agg #[xI k,xI n,xS s,xL none 0 0]) w):=by
 have h3:(k==3)=false:=by simpa using hk.1
 have h4:(k==4)=false:=by simpa using hk.2
 have HX:=af (Bx.dq w (eN k n s (xL a 0 c)) (eN 0 0 ⟨#[]⟩ (xL none 0 0)));clear hk;go_enter func140,ntmps140;go_upto_region 1 with fail;obtain⟨W1,bT⟩:=bS ((w.alloc (eN k n s (xL a 0 c))).alloc (eN 0 0 ⟨#[]⟩ (xL none 0 0)));rw[<-bT]at HX;unfold eN at bT;rw[<-bT];clear bT;obtain⟨c0,c1,c2,c3⟩:=ae (HX.o.bG rfl);obtain⟨b0,b1,b2,b3⟩:=ae (HX.o.bU rfl);have d3:=ag (HX.o.bG rfl) 3;obtain⟨f0,f1,f2,f3⟩:=iK (HX.o.bU rfl);go_wp2;go_loopg [5,7,24]0(λgg v5 _ iv wr=>gg=0/\v5=xL none 0 0/\iv=xI 0/\wr=W1);case atStart=>exact⟨rfl,rfl,rfl,rfl⟩
 case round=>
  obtain⟨rfl,rfl,rfl,rfl⟩:=hrel;go_wp2_with fail;refine Qae (v:= .agg #[xI k,xI n,xS s,xL none 0 0]) (by simp[results,results140,go_sem,c0,c1,c2,b0,b1,b2,b3,f0,f1,f2,f3]) rfl ⟨rfl,?_⟩;exact((((HX.o.1.setCell (p:=⟨w.heap.size,3,none⟩) (by simp) _).setCell (p:=⟨w.heap.size+1,0,none⟩) (by simp) _).setCell (p:=⟨w.heap.size+1,1,none⟩) (by simp) _).setCell (p:=⟨w.heap.size+1,2,none⟩) (by simp) _).setCell (p:=⟨w.heap.size+1,3,none⟩) (by simp) _
theorem lV.Kl {x:oh}{z:Nat}{p:tB}(h:lV x M z p W)(ha:IU M z p){rs:List aV}(o1:ai (λi=>i=p.mr) W W1)(hr:ia W1 p.mr rs):lV {x with roots:=rs} M z p W1/\ai (Ck p z) W W1:=by
 obtain⟨⟨n1,n2,n3,n4,n5,n6⟩,⟨n7,n8,n9,n10⟩,⟨n11,n12,n13⟩,⟨n14,n15⟩,n16⟩:=ha.ne;obtain⟨sv,dv,kv,h1,h2,h3,h4,h5⟩:=h.st;have KG:=h.low;have fu:=o1.size;have FE:lI p p.mr:=by unfold lI;simp
 have hb:∀i,lI p i->i≠p.mr->W1.heap[i]? =W.heap[i]? :=λi hi hne=>o1.block i (by have:=ha.lt i hi;omega) hne;have E:Ev (bg kv (qD M p)) W (bg kv (qD M p)) W1:=⟨o1.mono λi hi=> .inl (.inr (by have hi:i=p.mr:=hi;rw[hi];exact FE)),λi hi=> .inl hi⟩;have a7:=h4.sT o1 (λi hi=> .inr (by have hi:i=p.mr:=hi;rw[hi];exact FE)) (λg hg he=>by have h1:=(h4.cJ g hg).1;have h2:g=p.mr:=he;have:=ha.lt p.mr FE;omega);exact⟨⟨⟨sv,dv,kv,(hb p.T (by unfold lI;simp) n4).trans h1,h2.ev E,h3.ev E,a7,h5.ev E (hb p.mo (by unfold lI;simp) n11)⟩,h.reach.same (hb p.rb (by unfold lI;simp) n8),hr,(hb p.ms (by unfold lI;simp) (λe=>n14 e.symm)).trans h.snaps,h.seen.same (hb p.sb (by unfold lI;simp) (λe=>n15 e.symm)),Qcg h.low o1.size⟩,o1.mono λi hi=> .inl (by have hi:i=p.mr:=hi;rw[hi];exact FE)⟩
def Qk(t:oh)(M:aN)(z:Nat)(p:tB)(ha:IU M z p)(W:aj)(h:lV t M z p W)(id:Int)(n:aM)(hr:id∉t.reach)(hid: -20<=id/\id<0/\-id<=t.news)(hx:0<=t.next/\t.next<=1000000):
 xC 67 #[xP p.T,A6 3 id ⟨#[]⟩ n (xL none 0 0) ⟨#[]⟩ (xL none 0 0)] W λe w'=>e=xR (.tuple #[])/\lV {t with roots:=sM t.roots ⟨n,t.next-id-1⟩} M z p w'/\ai (Ck p z) W w':=by
 have HF:Hd (∀V,aq W V->_):=λV hb=>A8 t M z p V (h.below hb) id hr;have HN:Hd (∀V,aq W V->xC 142 #[xP p.T,xI id] V λe w'=>e=xR (xI (t.next-id-1))/\w'=V):=λV hb=>by
  have h1:=numberT_ok t M z p V (h.below hb) id ⟨by omega,by omega⟩ hx;rw[if_pos hid.2.1]at h1;exact h1
 have qf3:Hd (∀V,aq W V->∃w',(Instr.mapUpdate 114 (.map (some p.mr)) (xS n) (xI (t.next-id-1))).run prog V= .ok () w'/\lV {t with roots:=sM t.roots ⟨n,t.next-id-1⟩} M z p w'/\ai (Ck p z) W w'):=λV hb=>by
  obtain⟨w',e,h1,h2⟩:=(h.below hb).roots.put (r:=⟨n,t.next-id-1⟩);obtain⟨h3,h4⟩:=(h.below hb).Kl ha h2 h1;exact⟨w',e,h3,(ai.ao hb).cO h4 (λi hi _=>hi)⟩
 have HU:=af (kI 101);have HX:=af (Bx.eD W (eG 3 id ⟨#[]⟩ n (xL none 0 0) ⟨#[]⟩ (xL none 0 0)));obtain⟨sv,dv,kv,h1,-⟩:=h.st;have RT:=af h1;clear h hr h1 hx ha;obtain⟨g1,g2,g3⟩:=hid;generalize t.news=nw at*;generalize t.next=nx at*;go_enter func67,ntmps67;go_upto_region 1 with fail;obtain⟨W1,bT⟩:=bS (W.alloc (eG 3 id ⟨#[]⟩ n (xL none 0 0) ⟨#[]⟩ (xL none 0 0)));rw[<-bT]at HX;unfold eG at bT;rw[<-bT];clear bT;have ow:=af (show W.heap.size<W1.heap.size by have:=HX.o.bF;simp at this;omega);have s0:=(bB (HX.o.bG rfl)).c1;have s1:=(ec ((HX.o.1.block _ (Qaa.1 RT.o).1).trans RT.o)).2.2.2.1;have F7:=af (show decide (IntKind.i64.wrap (-id)<=nw)=true by rw[Qbe _ (by omega)];simpa using g3);go_cut [24](λ_ wx=>wx=W1.drew);case first=>
  go_region_law(first
   |(go_simp;go_at_call 143;refine(HF.o _ HX.o.1.drew).mono ?_;rintro e w2⟨rfl,rfl⟩)
   |(go_simp;rw[show decide (IntKind.i64.wrap (-id)<=nw)=true from F7.o];go_at_call 63;refine(HU.o _).mono ?_;rintro e w3⟨rfl,rfl⟩)
   |fail);all_goals(go_wp2;go_meet)
  all_goals exact rfl
 case rest=>
  obtain rfl:=hcut;clear s0 s1;have fU:=af HX.o.drew;go_upto_region 2 with fail;refine' pD 10 ?hl ?hm ?hB1 ?hB ?hh;case hl=>exact rfl
  case hm=>kernel_rfl
  case hB1=>kernel_rfl
  case hB=>kernel_rfl
  intro ι _ F lg C4;have s0:=λi=>(bB ((fU.o.below (lg i)).bG rfl)).c1;have s1:=λi=>(bB ((fU.o.below (lg i)).bG rfl)).c3;have s2:=λi=>(ec (((fU.o.below (lg i)).1.block _ (Qaa.1 RT.o).1).trans RT.o)).2.2.2.2.2.2.1;have jy:=af lg;have zP:=af C4;clear lg C4;simp only[List.take_succ_cons,List.take_zero,Act.put,List.setIfInBounds_toArray,List.set_cons_zero,List.set_cons_succ];repeat(go_big_quiet_step(first
   |(go_at_call 142;refine(HN.o _ (fU.o.below (jy.o _)).1).mono ?_;rintro e w3⟨rfl,rfl⟩;exact⟨rfl,zP.o _ (jy.o _)⟩)))
  refine wpQuiet_nil ?_;rintro _⟨nq,rfl⟩;obtain⟨w4,e4,h4,o4⟩:=qf3.o _ (fU.o.below (jy.o nq)).1;have H4:=af (And.intro h4 o4);clear h4 o4 s0 s1 s2;go_simp;go_wp2_with fail;exact bodyPost_end (results_none rfl _ _ _) rfl ⟨rfl,H4.o.1,H4.o.2⟩
def Ql(w:aj)(k n:Int)(s:aM)(hs:s.size<=maxLen)(a:fA)(c:Nat)(hl:ab (α:=aA) xF w (xL a 0 c) []):ab xF (w.alloc (xK #[xI k,xI n,xS s,xL a 0 c] 44)) (xL (some ⟨w.heap.size,0,none⟩) 1 1) [aA.mk k n s []]:=by
 refine⟨[[xI k,xI n,xS s,xL a 0 c]],(cD w #[xI k,xI n,xS s,xL a 0 c] 44 4 rfl (F:=λi=>¬False) (λh=>h)),rfl,λi cs x hc hx=> ?_⟩;cases i with
 |succ i=>simp at hx
 |zero=>
  simp at hc hx;subst hc;subst hx;exact eZ.iff.2 ⟨_,rfl,hl.below bM,hs⟩
def Qm(T:Nat)(k n:Int)(s:aM)(hk:k≠3/\k≠4)(hs:s.size<=maxLen)(M:aN)(W:aj)(vv:an)(RV:ab M W vv [aA.mk k n s []]):
 xC 137 #[xP T,vv] W (cr (xB true) W):=by
 have hv:ab xF W vv [aA.mk k n s []]:=RV.ev (Ev.dD W λi hi=>hi.elim);clear RV;obtain⟨b,off,cap,za,zc,rfl,cR,bI,-,ay⟩:=dy (i:=0) hv rfl;have gp:=af bI;have mP:=af ay;have HK:=af hk;have rB:=af hs;have bW:=af (Bx.dq W (xK #[xP T] 103) (xK #[xB true] 4));clear hv ay hk hs bI;dsimp only[List.length_cons,List.length_nil]at*;refine callsIn_wide.1 (callsIn_of_wp_marks (n:=0) func137 rfl trivial (wpIn_wide.2 ?_) rfl);simp only[ntmps137,List.size_toArray,Qcc,Qcd,Nat.reduceAdd,Nat.reduceSub,Array.replicate_succ,Array.replicate_zero,List.push_toArray,List.append_toArray,List.nil_append,List.cons_append];go_wp2_with fail;refine wp_scope_straight ?_;go_wp2_with fail;refine wp_label ?_;simp only[Exit.then];obtain⟨W1,bT⟩:=bS ((W.alloc (xK #[xP T] 103)).alloc (xK #[xB true] 4));rw[<-bT]at bW;rw[<-bT];clear bT;go_wp2_with fail;refine wp_loop_rounds 2 ?_;rw[rounds_succ];obtain⟨⟨g0,g1,g2,g3⟩,-⟩:=mP.o W1 bW.o.1;simp only[Nat.zero_mul,Nat.add_zero]at g0 g1 g2 g3;go_upto_region 5 with fail;obtain⟨W2,gS⟩:=bS (W1.alloc (xK #[xI k,xI n,xS s,xL za 0 zc] 44));have aQ:=af (show Bx W _ W2 by rw[gS];exact bW.o.alloc _);have fU:=af (show di W2 W1 (xK #[xI k,xI n,xS s,xL za 0 zc] 44)by rw[gS];exact Qbh W1 _);rw[<-gS];clear gS g0 g1 g2 g3;obtain⟨c0,c1,c2,c3⟩:=ae fU.o;go_wp2_with fail;refine cT (lX _ 1 1 _) ?_;obtain⟨W4,j8⟩:=bS ((W2.alloc (xK #[xI k,xI n,xS s,xL za 0 zc] 44)).alloc (xK #[xL (some ⟨W2.heap.size,0,none⟩) 1 1] 42));have dI:=af (show aq W2 W4 by rw[j8];exact bM.alloc (by simp) _);have NU:=af (show bR W4 (W2.heap.size+1) (xK #[xL (some ⟨W2.heap.size,0,none⟩) 1 1] 42)by rw[j8];have:=Qbh (W2.alloc (xK #[xI k,xI n,xS s,xL za 0 zc] 44)) (xK #[xL (some ⟨W2.heap.size,0,none⟩) 1 1] 42);simpa using this);have Xt:=af (show ab xF W4 (xL (some ⟨W2.heap.size,0,none⟩) 1 1) [aA.mk k n s []]by rw[j8];exact(Ql W2 k n s rB.o za zc (gp.o.below aQ.o.1)).below bM);rw[<-j8];clear j8 c0 c1 c2 c3;have pL:=af (aQ.o.below dI.o);go_wp2_with fail;refine I3 [aA.mk k n s []] (λv hv=>by rw[List.mem_singleton.1 hv];exact⟨HK.o.1,HK.o.2,rfl⟩) xF (W2.heap.size+1) W4 W4 dQ _ Xt.o NU.o rfl ?_;intro W5 jg hd5;have oq:=af (pL.o.below jg);have HD5:=af hd5;have HZ5:=af (show W.heap.size+2<=W4.heap.size by have:=pL.o.bF;simpa using this);clear jg hd5;have zd:zm W5 W 0 (xB true):=one_cell (oq.o.bU rfl);go_simp;go_wp2_with fail;rw[rounds_succ];go_wp2_with fail;rw[Exit.noGoto_ret];refine⟨by simp, .inl ⟨_,_,rfl,run_takeDeferred HD5.o,?_⟩⟩;refine⟨xB true,by simp[results,results137,go_sem],rfl,?_⟩;exact aS oq.o.1 oq.o.1.size ((ai.refl (λj=>j=W4.heap.size) W5).putObj (.inl rfl) _) (λj hj=>by have:j=W4.heap.size:=hj;have:=HZ5.o;omega)
theorem lV.bd {x:oh}{z:Nat}{p:tB}{kv:an}(h:lV x M z p W)(ha:IU M z p)(h4:aK (qD M p) z 9 W kv x.reads):Bd (bg kv (qD M p)) W:=λi hi=>by
 have hz:=h.low;rcases hi with(hi|hi)|hi
 .have:=ha.far i hi;omega
 .have:=ha.lt i hi;omega
 .exact(h4.cJ i hi).2
theorem lV.qc8 {x:oh}{z:Nat}{p:tB}{W0:aj}(h:lV x M z p W0)(ha:IU M z p)(hb:aq W0 W)(m:Int)(o:bE)(vv:an)(hv:ab (λi=>i<W0.heap.size) W vv o.aR):
 lV {x with made:=m} M z p (W.setCell ⟨p.T,6,none⟩ (xI m))/\∃w',(Instr.mapUpdate 113 (.map (some p.mo)) (xI o.id) (rh o vv)).run prog (W.setCell ⟨p.T,6,none⟩ (xI m))= .ok () w'/\lV {x with made:=m,objs:=qA x.objs o} M z p w'/\ai (Ck p z) W0 w':=by
 obtain⟨⟨n1,n2,n3,n4,n5,n6⟩,⟨n7,n8,n9,n10⟩,⟨n11,n12,n13⟩,⟨n14,n15⟩,n16⟩:=ha.ne;have vS:=λ{kv:an}(h4:aK (qD M p) z 9 W0 kv x.reads)=>h.bd ha h4;obtain⟨sv,dv,kv,h1,h2,h3,h4,h5⟩:=h.st;have yT:=vS h4;have ej:=h.low;have hzs:=hb.size;have hT:=ha.lt p.T (.inl rfl);have KB:lI p p.mo:=by unfold lI;simp
 have qh5:=ha.lt p.mo KB;have o7:ai (λi=>i=p.T) W (W.setCell ⟨p.T,6,none⟩ (xI m)):=(ai.refl (λi=>i=p.T) W).setCell (.inl rfl) _;obtain⟨V,hV⟩:=bS (W.setCell ⟨p.T,6,none⟩ (xI m));rw[<-hV]at o7⊢;have Yy:=o7.size;have aL:bR V p.T (E6 p sv x.next x.news m dv kv):=by
  rw[hV];have:=Qca W p.T 6 _ _ (xI m) (show bR W p.T (E6 p sv x.next x.news x.made dv kv)from(hb.block p.T (by omega)).trans h1);simpa [E6]using this
 have hk:∀i,lI p i->i≠p.T->V.heap[i]? =W0.heap[i]? :=λi hi hne=>(o7.block i (by have:=ha.lt i hi;omega) hne).trans (hb.block i (by have:=ha.lt i hi;omega));have E:Ev (bg kv (qD M p)) W0 (bg kv (qD M p)) V:=⟨(ai.ao hb).trans (o7.mono λi hi=> .inl (.inr (.inl hi))),λi hi=> .inl hi⟩;have a7:aK (qD M p) z 9 V kv x.reads:=(h4.below hb).sT o7 (λi hi=> .inr (.inl hi)) (λg hg he=>by have h1:=(h4.cJ g hg).1;have h2:g=p.T:=he;omega);have Nz:=h5.ev E (hk p.mo KB (λe=>n2 e.symm));have Ro:lV {x with made:=m} M z p V:=⟨⟨sv,dv,kv,aL,h2.ev E,h3.ev E,a7,Nz⟩,h.reach.same (hk p.rb (by unfold lI;simp) (λe=>n1 e.symm)),h.roots.ev (hk p.mr (by unfold lI;simp) (λe=>n4 e.symm)),(hk p.ms (by unfold lI;simp) (λe=>n5 e.symm)).trans h.snaps,h.seen.same (hk p.sb (by unfold lI;simp) (λe=>n6 e.symm)),by omega⟩;refine⟨Ro,?_⟩;have hvV:ab (bg kv (qD M p)) V vv o.aR:=hv.ev ⟨o7.mono λi hi=>(show i<W0.heap.size by have hi:i=p.T:=hi;omega),λi hi=> .inl (yT i hi)⟩;obtain⟨w',e,h6,o8⟩:=Nz.put (o:=o) (.inl (.inr KB)) hvV;have Z4:=o8.size;have ou:∀i,lI p i->i≠p.mo->w'.heap[i]? =V.heap[i]? :=λi hi hne=>o8.block i (by have:=ha.lt i hi;omega) hne;have E2:Ev (bg kv (qD M p)) V (bg kv (qD M p)) w':=⟨o8.mono λi hi=> .inl (.inr (by have hi:i=p.mo:=hi;rw[hi];exact KB)),λi hi=> .inl hi⟩;have a8:aK (qD M p) z 9 w' kv x.reads:=a7.sT o8 (λi hi=> .inr (by have hi:i=p.mo:=hi;rw[hi];exact KB)) (λg hg he=>by have h1:=(h4.cJ g hg).1;have h2:g=p.mo:=he;omega);refine⟨w',e,⟨⟨sv,dv,kv,(ou p.T (.inl rfl) n2).trans aL,(h2.ev E).ev E2,(h3.ev E).ev E2,a8,h6⟩,Ro.reach.same (ou p.rb (by unfold lI;simp) n7),Ro.roots.ev (ou p.mr (by unfold lI;simp) (λe=>n11 e.symm)),(ou p.ms (by unfold lI;simp) (λe=>n12 e.symm)).trans Ro.snaps,Ro.seen.same (ou p.sb (by unfold lI;simp) (λe=>n13 e.symm)),by omega⟩,?_⟩;exact(ai.ao hb).cO ((o7.mono λi hi=>(show Ck p z i from .inl (.inl hi))).trans (o8.mono λi hi=>(show Ck p z i from .inl (by have hi:i=p.mo:=hi;rw[hi];exact KB)))) (λi hi _=>hi)
def Jd(hb:Below base (w.alloc o) w1)(zS:Ev (bg (xL none 0 0) (λi=>i<base)) (w.alloc o) M' w1):aq w w1:=by
 refine⟨hb.os,hb.tape,hb.output,by have:=hb.size;simp at this;omega,λi hi=> ?_⟩;have h0:=Qcb w o i hi;by_cases h:i<base
 .exact(hb.block i h).trans h0
 .exact(zS.1.block i (by simp;omega) (λhh=>by
   rcases hh with hh|hh
   .exact h hh
   .cases hh)).trans h0
def Je(t:oh)(M:aN)(z:Nat)(p:tB)(ha:IU M z p)(W:aj)(h:lV t M z p W)(hg:Gd W)(cls:aM)(kc:Nat)(l:aH)(FP:dK t.sch)(hn:dU t.sch cls=kc)(hl:t.sch[kc]? =some l)
 (k n:Int)(s:aM)(hk:k≠3/\k≠4)(hs:s.size<=maxLen)(hv:bh (aI l l.changes.length).fields 100000 [aA.mk k n s []])(qcg:0<=t.made/\t.made<=100)(hx:0<=t.next/\t.next<=200000)(Nv:t.reads.length<=1000)(N:aN)(vv:an)(kZ:ab N W vv [aA.mk k n s []]):
 xC 65 #[xP p.T,A6 1 0 cls ⟨#[]⟩ vv ⟨#[]⟩ (xL none 0 0)] W λe w'=>e=xR (.tuple #[])/\(∃t',oh.lW {t with made:=t.made+1,objs:=qA t.objs ⟨t.next+t.made,kc,l.changes.length,[aA.mk k n s []]⟩} ⟨#[115]⟩ t'/\lV t' M z p w')/\ai (Ck p z) W w':=by
 obtain⟨i0,ed,ej,dO,er⟩:=info_parts gY;have hco:=(FP.lines l (Qaf hl)).kk l.changes.length;have fV:=(FP.lines l (Qaf hl)).name l.changes.length;have vS:=λ{kv:an}(h4:aK (qD M p) z 9 W kv t.reads)=>h.bd ha h4;have mP:Hd (∀V,aq W V->_):=λV hb=>MV t M z p V (h.below hb) FP.len cls kc hn;have HGO:Hd (∀V,aq W V->_):=λV hb=>Qm p.T k n s hk hs N V vv (kZ.below hb);have HVC:Hd (∀V,aq W V->_):=λV hb=>dy (i:=0) (kZ.below hb) rfl;have F7:Hd (∀V a c,_):=λV a c=>Cr (xP p.T) k n s a c hk V;have HNW:Hd (∀V uv,aq W V->ab (λi=>i<W.heap.size) V uv [aA.mk k n s []]->_):=λV uv hb hu=>h.qc8 ha hb (t.made+1) ⟨t.next+t.made,kc,l.changes.length,[aA.mk k n s []]⟩ uv hu;have HNU:Hd (∀V,lV {t with made:=t.made+1} M z p V->xC 142 #[xP p.T,xI (-(t.made+1))] V λe w'=>e=xR (xI (t.next+t.made))/\w'=V):=λV hT=>by
  have h1:=numberT_ok {t with made:=t.made+1} M z p V hT (-(t.made+1)) ⟨by omega,by omega⟩ ⟨hx.1,by show t.next<=_;omega⟩;rw[if_pos (by omega)]at h1;have e:t.next- -(t.made+1)-1=t.next+t.made:=by omega
  rw[<-e];exact h1
 have QD:Hd (∀V b off c,lV {t with made:=t.made+1,objs:=qA t.objs ⟨t.next+t.made,kc,l.changes.length,[aA.mk k n s []]⟩} M z p V->bt V b off (xS ⟨#[115]⟩)->_):=λV b off c hT hc=>Cl _ M z p ha V hT ⟨#[115]⟩ b off c hc Nv;have CQ:=af (kI 101);have Gj:=af qh;have HX:=af (Bx.eD W (eG 1 0 cls ⟨#[]⟩ vv ⟨#[]⟩ (xL none 0 0)));obtain⟨sv,dv,kv,h1,h2,h3,h4,h5⟩:=h.st;have yT:=vS h4;have XG:Hd (∀V,aq W V->_):=λV hb=>EI t.sch FP kc l hl (bg kv (qD M p)) V (yT.below hb) (hg.tb.below hb) sv (h2.below hb);have uA:Hd (∀V,aq W V->_):=λV hb=>IA t.sch FP kc l hl l.changes.length bN (bg kv (qD M p)) V (yT.below hb) (hg.tb.below hb) sv (h2.below hb);have FW:Hd (∀V fv uv,aq W V->ab xF V fv (aI l l.changes.length).fields->ab xF V uv [aA.mk k n s []]->xC 141 #[.agg #[xS l.first.name,fv],uv] V (cr (.tuple #[xI 0,xI 0]) V)):=λV fv uv hb hf hu=>by
  rw[<-fV];exact hZ _ hco.right (Qcg hco.small (by unfold maxLen;omega)) 100000 (Int.le_refl _) _ hv xF V fv uv hf hu (hg.tb.below hb)
 have RT:=af h1;have Gh:=af yT;obtain⟨sa,sc,rfl,-⟩:=h2.open_;obtain⟨b,off,cap,za,zc,rfl,cR,-,-,ay⟩:=dy (i:=0) kZ rfl;have HVC:=af ay;have rB:=af hs;have nG:Hd (∀V,aq W V->_):=λV hb=>ec ((hb.block _ (Qaa.1 h1).1).trans h1);have Ni:Hd (∀V,aq W V->_):=λV hb=>ag ((hb.block _ (Qaa.1 h1).1).trans h1) 6;clear h h1 h2 h3 h4 h5 yT vS FP hn hl hk hs hv kZ ay Nv ha hg hco fV;dsimp only[List.length_cons,List.length_nil,Nat.zero_add]at*;generalize t.sch.length=sn at*;generalize t.news=nw at*;generalize tJ:t.next=nx at*;generalize wu:t.made=md at*;generalize Xl:(l.changes.length:Int)=ll at*;obtain⟨Tx,rF⟩:=qcg;obtain⟨QB,RA⟩:=hx;have HE1:=af tJ;clear tJ;have Te:=af wu;clear wu;have HE3:=af Xl;clear Xl;go_enter func65,ntmps65;go_upto_region 1 with fail;obtain⟨W1,bT⟩:=bS (W.alloc (eG 1 0 cls ⟨#[]⟩ (xL (some ⟨b,off,none⟩) 1 cap) ⟨#[]⟩ (xL none 0 0)));rw[<-bT]at HX;unfold eG at bT;rw[<-bT];clear bT;have k2:=(bB (HX.o.bG rfl)).c2;go_wp2_with fail;refine(mP.o _ HX.o.1).mono ?_;rintro e w2⟨rfl,bC⟩;have fU:=af (HX.o.below bC);clear bC k2;have k8:=(bB (fU.o.bG rfl)).c8;go_wp2_with fail;refine(HGO.o _ fU.o.1).mono ?_;rintro e w3⟨rfl,bP⟩;have lq:=af (fU.o.below bP);clear bP k8;go_wp2_with fail;refine(CQ.o _).mono ?_;rintro e w4⟨rfl,rfl⟩;have q0:=(nG.o _ lq.o.1).1;go_wp2_with fail;refine(XG.o _ lq.o.1).mono ?_;rintro e w5⟨rfl,jg⟩;have oq:=af (lq.o.below jg);clear jg q0;go_wp2_with fail;refine(Gj.o _).mono ?_;rintro e w6⟨rfl,rfl⟩;have q0:=(nG.o _ oq.o.1).1;go_wp2_with fail;refine(uA.o _ oq.o.1).mono ?_;rintro e w7⟨_,rfl,⟨fv,rfl,Nk⟩,iJ⟩;have Nu:=af (oq.o.below iJ);obtain⟨fa,fc,rfl,-⟩:=Nk.open_;have HFV:=af Nk;generalize(aI l l.changes.length).fields.length=fn at*;clear iJ q0 Nk;go_upto_region 6 with fail;obtain⟨W8,KT⟩:=bS (w7.alloc (xK #[xS l.first.name,xL fa fn fc] 47));have Rn:=af (show Bx W _ W8 by rw[KT];exact Nu.o.alloc _);have UQ:=af (show aq w7 W8/\di W8 w7 (xK #[xS l.first.name,xL fa fn fc] 47)by rw[KT];exact⟨bM,Qbh w7 _⟩);rw[<-KT];clear KT;go_wp2_with fail;refine(Gj.o _).mono ?_;rintro e w9⟨rfl,rfl⟩;have k8:=(bB (Rn.o.bG rfl)).c8;go_wp2_with fail;refine wp_loop_rounds 2 ?_;rw[rounds_succ];obtain⟨⟨g0,g1,g2,g3⟩,-⟩:=HVC.o w9 Rn.o.1;simp only[Nat.zero_mul,Nat.add_zero]at g0 g1 g2 g3;clear k8;go_upto_region 11 with fail;obtain⟨W9,Rs⟩:=bS (w9.alloc (xK #[xI k,xI n,xS s,xL za 0 zc] 44));have FF:=af (show Bx W _ W9 by rw[Rs];exact Rn.o.alloc _);have YP:=af (show aq w9 W9/\di W9 w9 (xK #[xI k,xI n,xS s,xL za 0 zc] 44)by rw[Rs];exact⟨bM,Qbh w9 _⟩);rw[<-Rs];clear Rs g0 g1 g2 g3;obtain⟨d0,d1,d2,d3⟩:=ae YP.o.2;go_wp2_with fail;refine(F7.o _ _ _).mono ?_;rintro e tK⟨rfl,tw⟩;have qch:=af (FF.o.below tw);have qf4:Hd (W.heap.size<=tK.heap.size):=qch.o.1.size;have U5:Hd (aq w9 tK):=YP.o.1.trans (tw.mono YP.o.1.size);clear tw d0 d1 d2 d3;go_wp2_with(at_builtin;refine aW (α:=aA) rfl _ _ _ rfl (λi=>i<W.heap.size) W.heap.size 44 i0 _ 56 underlying42 ed ej dO er rfl (by decide) (.slice none 0 0) [] rfl (aK.nil _ _ _ _) (λ_=>True) _ [.int .i64 k, .int .i64 n, .string s, .slice none 0 0] (.mk k n s []) rfl (fF _ _ #[.int .i64 k, .int .i64 n, .string s, .slice none 0 0] _ 4 rfl rfl trivial) (eZ.iff.2 ⟨_,rfl,ab.nil _ _,rB.o⟩) (by unfold maxLen;simp) (by simp) (by have:=qf4.o;simp;omega) ?_;intro a2 c2 w11 hacc zS Ru;have XD:=af hacc;have qci:Hd (aq tK w11):=Jd Ru zS;clear hacc zS Ru);have qcj:Hd (aK (α:=aA) (λi=>i<W.heap.size) W.heap.size 44 w11 (xL a2 1 c2) [aA.mk k n s []]):=XD.o;have qck:=af (qch.o.below qci.o);have X4:=af (show di w11 w7 (xK #[xS l.first.name,xL fa fn fc] 47)/\aq w7 w11 by
  have h1:=UQ.o.1.size;have h2:=YP.o.1.size;have hl:=(Qaa.1 UQ.o.2).1;have hb:aq w9 w11:=(U5.o).trans (qci.o.mono U5.o.size);exact⟨(hb.block _ hl).trans UQ.o.2,UQ.o.1.trans (hb.mono h1)⟩);clear XD;rw[rounds_succ];have e0:=(ah X4.o.1).1;have e1:=(ah X4.o.1).2;go_wp2_with fail;refine(FW.o _ _ _ qck.o.1 ((HFV.o.ev (Ev.dD _ λi hi=>hi.elim)).below X4.o.2) ((qcj.o.slice λi hi=>hi).ev (Ev.dD _ λi hi=>hi.elim))).mono ?_;rintro e w13⟨rfl,X5⟩;have X6:=af (qck.o.below X5);have qf5:Hd (ab (λi=>i<W.heap.size) w13 (xL a2 1 c2) [aA.mk k n s []]):=(qcj.o.slice λi hi=>hi).below X5;clear X5 e0 e1;go_wp2_with fail;refine(Gj.o _).mono ?_;rintro e w14⟨rfl,rfl⟩;obtain⟨Ro,w16,T3,hT2,nZ⟩:=HNW.o _ _ X6.o.1 qf5.o;have Q3:=af Ro;have Qz:=af (And.intro hT2 nZ);have hf:=Ni.o _ X6.o.1;obtain⟨-,-,-,-,q6,q7,-⟩:=nG.o _ X6.o.1;clear Ro hT2 nZ;go_wp2_with fail;refine(HNU.o _ Q3.o).mono ?_;rintro e w17⟨rfl,qcl⟩;rw[<-qcl]at T3 Q3;have qh6:Hd (w17=w14.setCell ⟨p.T,6,none⟩ (xI (md+1))):=qcl;clear qcl q6 hf;have hbo:∀(a b d:Int)(x:fA)(y:Nat)(W:aj),(Instr.build 66 #[(0,xI a),(1,xI b),(2,xI d),(3,xL x 1 y)]).run prog W= .ok (.agg #[xI a,xI b,xI d,xL x 1 y]) W:=λ_ _ _ _ _ W=>run_build W _ _ _ (by kernel_rfl);dsimp only[rh]at T3;clear q7;have q7:bt w17 p.T 7 (.map (some p.mo)):=by
  obtain⟨sv',dv',kv',h1,-⟩:=Q3.o.st;exact(ec h1).2.2.2.2.2.1
 go_wp2_with fail;have FJ:∀o,(w16.alloc (xK #[xS ⟨#[115]⟩] o)).cell? ⟨w16.heap.size,0,none⟩=some (xS ⟨#[115]⟩):=λo=>one_cell (Qbh w16 _);clear q7 T3 hbo;refine(QD.o _ _ 0 _ (Qz.o.1.below bM) (FJ _)).mono ?_;rintro e w20⟨rfl,⟨t',h1,h2⟩,h3⟩;have HE:=af (And.intro h1 (And.intro h2 h3));clear h1 h2 h3;go_wp2_with fail;refine bodyPost_end (results_none rfl _ _ _) rfl ⟨rfl,⟨t',?_,HE.o.2.1⟩,?_⟩
 .exact HE.o.1
 .exact(Qz.o.2.trans (ai.ao bM)).trans HE.o.2.2
def ZT:ax:=⟨⟨#[99]⟩,[⟨⟨#[97]⟩,⟨1,0⟩,false⟩]⟩
def ez:aH:=⟨ZT,[]⟩
def NL:aX:=⟨[ez],[],[],5⟩
def tj:aA:= .mk 1 3 ⟨#[]⟩ []
def qW:aM:=⟨#[104,111,109,101]⟩
def vu:pF:=⟨1,0,⟨#[99]⟩,⟨#[]⟩,[tj],⟨⟨#[]⟩,[]⟩⟩
def ki:pF:=⟨3,-1,⟨#[]⟩,qW,[],⟨⟨#[]⟩,[]⟩⟩
def gn:bE:=⟨5,0,0,[tj]⟩
def om:aV:=⟨qW,5⟩
def Cs:aX:=⟨[ez],[gn],[om],6⟩
def Ku:dK [ez]where
 len:=by decide
 lines:=λl hl=>by
  rw[List.mem_singleton.1 hl];exact⟨⟨by decide+kernel,λf hf=>by rw[List.mem_singleton.1 hf];decide+kernel,by decide⟩,by simp[ez],_, .nil _⟩
 apart:=λk l h=>by
  cases k with
  |zero=>simp at h;subst h;decide+kernel
  |succ k=>simp at h
def Qn:bh (aI ez ez.changes.length).fields 100000 [tj]:=⟨rfl,λi f v hf hv=>by
 cases i with
 |zero=>
  have hf:some _=some f:=hf;have hv:some tj=some v:=hv;simp at hf hv;subst hf;subst hv;exact .inr ⟨by decide, .inl ⟨rfl,3,rfl,by omega,by omega⟩⟩
 |succ i=>simp at hv⟩
def jX:aB qW=true/\qW.size<=20:=by decide+kernel
def yE:gi NL where
 sch:=Ku
 len:=by decide
 objs:=λi o h=>by simp[NL]at h
 rise:=by simp[NL,cL]
 refs:=λn y hy=>by simp[dw,NL,sK]at hy
 rlen:=by decide
 roots:=λr hr=>by simp[NL]at hr
 oV:=λr hr=>by simp[NL]at hr
 xD:=λi r s h=>by simp[NL]at h
 next:=by decide
def Fj:iS [ez] 100000 gn 0 0 ez where
 cls:=rfl
 ver:=rfl
 line:=rfl
 le:=by decide
 aR:=Qn
def S2:refsOf ez 0 [tj]=[]:=by decide+kernel
def S3:gi Cs where
 sch:=Ku
 len:=by decide
 objs:=λi o h=>by
  cases i with
  |zero=>
   have h:some gn=some o:=h;simp at h;subst h;exact⟨by decide,by decide,0,0,ez,Fj⟩
  |succ i=>simp[Cs]at h
 rise:=by simp[Cs,cL]
 refs:=λn y hy=>by
  by_cases h5:gn.id=n
  .have e:sK Cs.objs n=some gn:=by simp[sK,Cs,h5]
   unfold dw at hy;rw[e]at hy;have hy:y∈refsOf ez 0 [tj]:=hy;rw[S2]at hy;cases hy
  .have e:sK Cs.objs n=none:=by simp[sK,Cs,h5]
   unfold dw at hy;rw[e]at hy;cases hy
 rlen:=by decide
 roots:=λr hr=>by
  have hr:r∈[om]:=hr;rw[List.mem_singleton.1 hr];decide
 oV:=λr hr=>by
  have hr:r∈[om]:=hr;rw[List.mem_singleton.1 hr];exact jX
 xD:=λi r s h1 h2=>by simp[Cs]at h2
 next:=by decide
def ShJ(i:Nat)(t:oh):Prop:=∃L:List Int,(-1:Int)∉L/\((i=0/\t=⟨[ez],5,L,1,0,[],[],[],[]⟩)\/(i=1/\t=⟨[ez],5,L,1,1,[gn],[],[],[⟨#[115]⟩]⟩)\/(i=2/\t=⟨[ez],5,L,1,1,[gn],[om],[],[⟨#[115]⟩]⟩))
def V7 {L:List Int}(hL:(-1:Int)∉L):Ff ⟨[ez],5,L,1,0,[],[],[],[]⟩ vu (ShJ 1):=
 ⟨_, .inl ⟨rfl,rfl⟩,λM z p W vv df hA hT hG hv hd hz=>by
   obtain rfl:=hz.2 rfl;refine(Je _ M z p hA W hT hG ⟨#[99]⟩ 0 ez Ku (show dU [ez] ⟨#[99]⟩=(0:Nat)by decide+kernel) rfl 1 3 ⟨#[]⟩ ⟨by decide,by decide⟩ (by decide) Qn ⟨show(0:Int)<=0 by decide,show(0:Int)<=100 by decide⟩ ⟨show(0:Int)<=5 by decide,show(5:Int)<=200000 by decide⟩ (show 0<=1000 by decide) M vv hv).mono ?_;rintro e w'⟨rfl,⟨t',h1,h2⟩,h3⟩;refine⟨rfl,⟨t',⟨L,hL, .inr (.inl ⟨rfl,?_⟩)⟩,h2⟩,h3⟩;rcases h1 with⟨h1,_⟩|⟨_,rfl⟩
   .cases h1
   .rfl⟩
def S4 {L:List Int}(hL:(-1:Int)∉L):Ff ⟨[ez],5,L,1,1,[gn],[],[],[⟨#[115]⟩]⟩ ki (ShJ 2):=
 ⟨_, .inr (.inl ⟨rfl,rfl⟩),λM z p W vv df hA hT hG hv hd hz=>by
   obtain rfl:=hz.1 rfl;obtain rfl:=hz.2 rfl;refine(Qk _ M z p hA W hT (-1) qW hL ⟨by decide,by decide,show-(-1:Int)<=1 by decide⟩ ⟨show(0:Int)<=5 by decide,show(5:Int)<=1000000 by decide⟩).mono ?_;rintro e w'⟨rfl,h2,h3⟩;exact⟨rfl,⟨_,⟨L,hL, .inr (.inr ⟨rfl,rfl⟩)⟩,h2⟩,h3⟩⟩
def V8 {t:oh}(h:ShJ 2 t):I8 NL t:=by
 obtain⟨L,hL,⟨e,_⟩|⟨e,_⟩|⟨_,rfl⟩⟩:=h
 .cases e
 .cases e
 .exact {
   recs:=⟨[],rfl,by simp,by
    show [zI gn,qV om].Pairwise _;rw[List.pairwise_cons];refine⟨λb hb=> ?_,List.pairwise_singleton _ _⟩;rw[List.mem_singleton.1 hb];decide+kernel,Cs,S3,kT.cons (PZ (x:=NL) (r:=sX gn) Ku rfl Fj ⟨by decide,by decide⟩ ⟨by decide,by decide⟩) (kT.cons (MD (x:=⟨[ez],[gn],[],6⟩) (r:=lJ om) rfl ⟨jX.1,by have:=jX.2;unfold maxLen;show qW.size<=_;omega⟩ ⟨by decide,by decide⟩) (kT.nil _))⟩
   rise:=by simp[cL]
   AN:=by simp[gJ]
   oV:=λr hr=>by rw[List.mem_singleton.1 hr];have:=jX.2;unfold maxLen;show qW.size<=_;omega
   olen:=by simp
   rlen:=by simp}
def Fk(hG:Gd w):∀o∈[vu,ki],pG M w o:=by
 intro o ho;rcases Qdf.1 ho with rfl|ho
 .intro W vv df hb h1 h2 hz;obtain rfl:=hz.2 rfl;have NR:dx ⟨1,0⟩ 100000 tj:= .inr ⟨by decide, .inl ⟨rfl,3,rfl,by omega,by omega⟩⟩;exact E5 ⟨#[99]⟩ (by decide+kernel) [tj] (λy hy=>by rw[List.mem_singleton.1 hy];exact⟨_,_,_,rfl⟩) (λy hy=>by rw[List.mem_singleton.1 hy];exactλM w u hu hT=>rY NR (Int.le_refl _) hu hT) (by decide) M vv W (hG.tb.below hb) h1
 .rw[List.mem_singleton.1 ho];intro W vv df hb h1 h2 hz;obtain rfl:=hz.1 rfl;obtain rfl:=hz.2 rfl;exact Ch (-1) qW jX.1 (.inr ⟨by decide,by decide⟩) W
def MW(M:aN)(w:aj)(hM:Bd M w)(hG:Gd w)(lv qv:an)(ja:ab M w lv [ez])(hq:ab M w qv [vu,ki]):
 xG 9 #[.agg #[lv,xL none 0 0,xL none 0 0,xI 5],qv] w λu w'=>∃(cv kv:an),u= .tuple #[cv,kv,xI 6,xI 0]/\ab M w' cv [sX gn,lJ om]/\ab M w' kv [(⟨#[115]⟩:aM)]:=by
 refine(Qi NL yE [vu,ki] (by decide) M w hM hG lv (xL none 0 0) (xL none 0 0) qv ja (ab.nil _ _) (ab.nil _ _) hq (Fk hG) (.inr (by decide)) (λo ho=> ?_) (λo ho v hv=> ?_) ShJ (λL hL _=>⟨L,λh=> ?_, .inl ⟨rfl,rfl⟩⟩) (λi o t ho hj=> ?_) (λt hj=>V8 hj)).mono ?_
 .rcases Qdf.1 ho with rfl|ho
  .decide
  .rw[List.mem_singleton.1 ho];decide
 .rcases Qdf.1 ho with rfl|ho
  .rw[List.mem_singleton.1 hv];exact⟨by decide,by decide,rfl⟩
  .rw[List.mem_singleton.1 ho]at hv;cases hv
 .have:=qj yE ((hL _).1 h);omega
 .obtain⟨L,hL,⟨rfl,rfl⟩|⟨rfl,rfl⟩|⟨rfl,rfl⟩⟩:=hj
  .have ho:some vu=some o:=ho;simp at ho;subst ho;exact V7 hL
  .have ho:some ki=some o:=ho;simp at ho;subst ho;exact S4 hL
  .simp at ho
 .rintro e w'⟨u,rfl,⟨t,ds,cv,kv,hj,U2,rfl,h1,h2⟩,hb⟩;obtain⟨L,hL,⟨e,_⟩|⟨e,_⟩|⟨_,rfl⟩⟩:=hj
  .cases e
  .cases e
  .have e0:ds=[]:=by
    have h:([]:List eW)=ds.map Subtype.val:=U2;exact List.map_eq_nil_iff.1 h.symm
   rw[e0]at h1;exact⟨_,rfl,⟨cv,kv,rfl,h1,h2⟩,hb⟩
def jw {cs:Array an}{fr:Nat×Nat}(h:bR W g (.cells cs t fr))(size n:Nat)(hn:n<=1000)(hs:cs.size=n*size)(hF:F g):cA F W size (xL (some ⟨g,0,none⟩) n n) n cs.toList:=by
 refine⟨by simp[hs],some ⟨g,0,none⟩,n,rfl,bN,by unfold maxLen;omega,λ_=>⟨g,0,rfl,hF,(Qaa.1 h).1,λj u hu=> ?_⟩⟩;simp only[World.cell?,h,Nat.zero_add];simpa using hu
def M6 {l:List aM}(h:ab M w v l){x:aM}(hx:l[i]? =some x):∃b off cap,v=xL (some ⟨b,off,none⟩) l.length cap/\b<w.heap.size/\∀W,aq w W->bt W b (off+i) (xS x):=by
 obtain⟨a,cap,rfl,hl,_,hc⟩:=h.open_;have hk:=(Qad.1 hx).1;obtain⟨b,off,rfl,_,hb,aL⟩:=hc (by omega);obtain⟨cs,bJ,hcc⟩:=aL i _ hx;have bJ:cs=[xS x]:=bJ;subst bJ;refine⟨b,off,cap,rfl,hb,λW hB=> ?_⟩;have h1:=hcc 0 (xS x) rfl;have e:off+i*au.size aM+0=off+i:=by show off+i*1+0=off+i;omega
 exact(hB.cell (p:=⟨b,off+i,none⟩) hb).trans (by rw[<-e];exact h1)
def S5 {f:Nat}(h1:bR W f (xK #[xS ⟨#[97]⟩,xI 1,xI 0,xB false] 60))(h2:bR W g (xK #[xS ⟨#[99]⟩,xL (some ⟨f,0,none⟩) 1 1,xL none 0 0] 72)):ab xF W (xL (some ⟨g,0,none⟩) 1 1) [ez]:=by
 refine⟨[[xS ⟨#[99]⟩,xL (some ⟨f,0,none⟩) 1 1,xL none 0 0]],jw h2 3 1 (by omega) rfl (λh=>h),rfl,λi cs x hc hx=> ?_⟩;cases i with
 |succ i=>simp at hx
 |zero=>
  simp at hc hx;subst hc;subst hx;refine⟨_,_,rfl,⟨[[xS ⟨#[97]⟩,xI 1,xI 0,xB false]],jw h1 4 1 (by omega) rfl (λh=>h),rfl,λi cs x hc hx=> ?_⟩,ab.nil _ _,by decide⟩;cases i with
  |succ i=>
   have hx:([]:List az)[i]? =some x:=hx;simp at hx
  |zero=>
   have hx:some (⟨⟨#[97]⟩,⟨1,0⟩,false⟩:az)=some x:=hx;simp at hc hx;subst hc;subst hx;exact⟨rfl,by decide⟩
def Qq {v:Nat}(h:bR W v YA):ab xF W (xL (some ⟨v,0,none⟩) 1 1) [tj]:=by
 refine⟨[[xI 1,xI 3,xS ⟨#[]⟩,xL none 0 0]],jw h 4 1 (by omega) rfl (λh=>h),rfl,λi cs x hc hx=> ?_⟩;cases i with
 |succ i=>simp at hx
 |zero=>
  simp at hc hx;subst hc;subst hx;exact eZ.iff.2 ⟨_,rfl,ab.nil _ _,by decide⟩
def Wb {v q:Nat}(hv:bR W v YA)
 (hq:bR W q (.cells (SX vu (xL (some ⟨v,0,none⟩) 1 1) (xL none 0 0)++SX ki (xL none 0 0) (xL none 0 0)).toArray 53 (0,0))):ab xF W (xL (some ⟨q,0,none⟩) 2 2) [vu,ki]:=by
 refine⟨[SX vu (xL (some ⟨v,0,none⟩) 1 1) (xL none 0 0),SX ki (xL none 0 0) (xL none 0 0)],jw hq 19 2 (by omega) rfl (λh=>h),rfl,λi cs x hc hx=> ?_⟩;cases i with
 |zero=>
  simp only[List.getElem?_cons_zero,Qcf]at hc hx;subst hc;subst hx;exact⟨_,_,rfl,Qq hv,ab.nil _ _,λh=>(by cases h),λ_=>rfl⟩
 |succ i=>
  cases i with
  |zero=>
   simp only[List.getElem?_cons_succ,List.getElem?_cons_zero,Qcf]at hc hx;subst hc;subst hx;exact⟨_,_,rfl,ab.nil _ _,ab.nil _ _,λ_=>rfl,λ_=>rfl⟩
  |succ i=>simp at hx
def Qr {q:Nat}(o:pF)(hv:o.aR=[])(hf:o.dfn.fields=[])
 (hq:bR W q (.cells (SX o (xL none 0 0) (xL none 0 0)).toArray 53 (0,0))):ab xF W (xL (some ⟨q,0,none⟩) 1 1) [o]:=by
 refine⟨[SX o (xL none 0 0) (xL none 0 0)],jw hq 19 1 (by omega) rfl (λh=>h),rfl,λi cs x hc hx=> ?_⟩;cases i with
 |zero=>
  simp only[List.getElem?_cons_zero,Qcf]at hc hx;subst hc;subst hx;exact⟨_,_,rfl,by rw[hv];exact ab.nil _ _,by rw[hf];exact ab.nil _ _,λ_=>rfl,λ_=>rfl⟩
 |succ i=>simp at hx
def S6 {v q:Nat}(hv:bR W v YA)
 (hq:bR W q (.cells (yt (sX gn) (xL (some ⟨v,0,none⟩) 1 1) (xL none 0 0)++yt (lJ om) (xL none 0 0) (xL none 0 0)).toArray 75 (0,0))):ab xF W (xL (some ⟨q,0,none⟩) 2 2) [sX gn,lJ om]:=by
 refine⟨[yt (sX gn) (xL (some ⟨v,0,none⟩) 1 1) (xL none 0 0),yt (lJ om) (xL none 0 0) (xL none 0 0)],jw hq 18 2 (by omega) rfl (λh=>h),rfl,λi cs x hc hx=> ?_⟩;cases i with
 |zero=>
  simp only[List.getElem?_cons_zero,Qcf]at hc hx;subst hc;subst hx;exact⟨_,_,rfl,Qq hv,ab.nil _ _,by decide,by decide⟩
 |succ i=>
  cases i with
  |zero=>
   simp only[List.getElem?_cons_succ,List.getElem?_cons_zero,Qcf]at hc hx;subst hc;subst hx;exact⟨_,_,rfl,ab.nil _ _,ab.nil _ _,by decide,by decide⟩
  |succ i=>simp at hx
def S7:∀r∈[sX gn,lJ om],Wa r:=by
 intro r hr;rcases Qdf.1 hr with rfl|hr
 .exact⟨rfl,rfl,rfl,λy hy=>by rw[List.mem_singleton.1 hy];exact⟨_,_,_,rfl⟩,by decide⟩
 .rw[List.mem_singleton.1 hr];exact⟨rfl,rfl,rfl,λy hy=>(by cases hy),by decide⟩
def Qs(n:Int)(w:aj):xC 13 #[xI n] w (cr (.agg #[xI 1,xI n,xS ⟨#[]⟩,xL none 0 0]) w):=by
 have vS:∀W,(Instr.build 44 #[(0,xI 1),(1,xI n)]).run prog W= .ok (.agg #[xI 1,xI n,xS ⟨#[]⟩,xL none 0 0]) W:=λW=>run_build W _ _ _ (by kernel_rfl);have HX:=af (Bx.eD w (eN 0 0 ⟨#[]⟩ (xL none 0 0)));go_enter func13,ntmps13;go_upto_region 1 with fail;obtain⟨W1,bT⟩:=bS (w.alloc (eN 0 0 ⟨#[]⟩ (xL none 0 0)));rw[<-bT]at HX;unfold eN at bT;rw[<-bT];clear bT;obtain⟨b0,b1,b2,b3⟩:=ae (HX.o.bG rfl);obtain⟨f0,f1,f2,f3⟩:=iK (HX.o.bG rfl);go_wp2_with fail;refine Qae (v:= .agg #[xI 1,xI n,xS ⟨#[]⟩,xL none 0 0]) (by simp[results,results13,go_sem,b0,b1,b2,b3,f0,f1,f2,f3]) rfl ⟨rfl,?_⟩;exact(((HX.o.1.setCell (p:=⟨w.heap.size,0,none⟩) (by simp) _).setCell (p:=⟨w.heap.size,1,none⟩) (by simp) _).setCell (p:=⟨w.heap.size,2,none⟩) (by simp) _).setCell (p:=⟨w.heap.size,3,none⟩) (by simp) _
def Qu(hG:Gd w)(lv qv:an)(ja:ab xF w lv [ez])(hq:ab xF w qv [nW 4]):
 xC 9 #[.agg #[lv,xL none 0 0,xL none 0 0,xI 5],qv] w (cg w λu w'=>u= .tuple #[xL none 0 0,xL none 0 0,xI 0,xI 101]):=
 MU NL yE [nW 4] (by decide) xF w (λi hi=>hi.elim) hG lv (xL none 0 0) (xL none 0 0) qv ja (ab.nil _ _) (ab.nil _ _) hq
  (λo ho=>by rw[List.mem_singleton.1 ho];exact yD ⟨by decide,by decide⟩) (.inl (by decide)) (λo ho=>by rw[List.mem_singleton.1 ho];decide) (λo ho v hv=>by rw[List.mem_singleton.1 ho]at hv;cases hv) (nW 4) rfl 101
  (λL hL=>Ja (λh=>by
    have h1:=yE.closed.Rw ((hL _).1 h);cases h1))
def Wc(hG:Gd w)(lv qv:an)(ja:ab xF w lv [ez])(hq:ab xF w qv [ki]):
 xC 9 #[.agg #[lv,xL none 0 0,xL none 0 0,xI 5],qv] w (cg w λu w'=>u= .tuple #[xL none 0 0,xL none 0 0,xI 0,xI 170]):=
 Fh NL yE [ki] (by decide) xF w (λi hi=>hi.elim) hG lv (xL none 0 0) (xL none 0 0) qv ja (ab.nil _ _) (ab.nil _ _) hq
  (λo ho=>Fk hG o (List.mem_cons_of_mem _ ho)) (.inl (by decide)) ⟨ki,rfl,by decide,by decide⟩
def yF:Obj:=xK #[xS ⟨#[97]⟩,xI 1,xI 0,xB false] 60
def yG(f:Nat):Obj:=xK #[xS ⟨#[99]⟩,xL (some ⟨f,0,none⟩) 1 1] 47
def yH(f:Nat):Obj:=xK #[xS ⟨#[99]⟩,xL (some ⟨f,0,none⟩) 1 1,xL none 0 0] 72
def yI(g:Nat):Obj:=xK #[xL (some ⟨g,0,none⟩) 1 1,xL none 0 0,xL none 0 0,xI 5] 35
def Qv(w:aj)(hG:Gd w):xC 5 #[] w (cr (xB true) w):=by
 have aF:∀W,(Instr.build 49 #[(0,xI 1)]).run prog W= .ok (.agg #[xI 1,xI 0]) W:=λW=>run_build W _ _ _ (by kernel_rfl);have bC:∀W,(Instr.build 60 #[(0,xS ⟨#[97]⟩),(1, .agg #[xI 1,xI 0])]).run prog W= .ok (.agg #[xS ⟨#[97]⟩,xI 1,xI 0,xB false]) W:=λW=>run_build W _ _ _ (by kernel_rfl);have bP:∀b W,(Instr.build 47 #[(0,xS ⟨#[99]⟩),(1,xL (some ⟨b,0,none⟩) 1 1)]).run prog W= .ok (.agg #[xS ⟨#[99]⟩,xL (some ⟨b,0,none⟩) 1 1]) W:=λb W=>run_build W _ _ _ (by kernel_rfl);have eA:∀b W,(Instr.build 72 #[(0, .agg #[xS ⟨#[99]⟩,xL (some ⟨b,0,none⟩) 1 1])]).run prog W= .ok (.agg #[xS ⟨#[99]⟩,xL (some ⟨b,0,none⟩) 1 1,xL none 0 0]) W:=λb W=>run_build W _ _ _ (by kernel_rfl);have jg:∀b W,(Instr.build 31 #[(0,xL (some ⟨b,0,none⟩) 1 1)]).run prog W= .ok (.agg #[xL (some ⟨b,0,none⟩) 1 1]) W:=λb W=>run_build W _ _ _ (by kernel_rfl);have jz:∀b W,(Instr.build 35 #[(0, .agg #[xL (some ⟨b,0,none⟩) 1 1]),(3,xI 5)]).run prog W= .ok (.agg #[xL (some ⟨b,0,none⟩) 1 1,xL none 0 0,xL none 0 0,xI 5]) W:=λb W=>run_build W _ _ _ (by kernel_rfl);have iJ:∀b W,(Instr.build 53 #[(0,xI 1),(2,xS ⟨#[99]⟩),(5,xL (some ⟨b,0,none⟩) 1 1)]).run prog W= .ok (.agg #[xI 1,xI 0,xS ⟨#[99]⟩,xS ⟨#[]⟩,xI 0,xI 0,xS ⟨#[]⟩,xL none 0 0,xL (some ⟨b,0,none⟩) 1 1,xS ⟨#[]⟩,xL none 0 0,xI 0,xS ⟨#[]⟩,xS ⟨#[]⟩,xS ⟨#[]⟩,xI 0,xI 0,xS ⟨#[]⟩,xS ⟨#[]⟩]) W:=λb W=>run_build W _ _ _ (by kernel_rfl);have Rc:∀W,(Instr.build 53 #[(0,xI 3),(3,xS ⟨#[104,111,109,101]⟩),(1,xI (-1))]).run prog W= .ok (.agg #[xI 3,xI (-1),xS ⟨#[]⟩,xS ⟨#[104,111,109,101]⟩,xI 0,xI 0,xS ⟨#[]⟩,xL none 0 0,xL none 0 0,xS ⟨#[]⟩,xL none 0 0,xI 0,xS ⟨#[]⟩,xS ⟨#[]⟩,xS ⟨#[]⟩,xI 0,xI 0,xS ⟨#[]⟩,xS ⟨#[]⟩]) W:=λW=>run_build W _ _ _ (by kernel_rfl);have vR:∀W,(Instr.build 53 #[(0,xI 7),(1,xI 4)]).run prog W= .ok (.agg #[xI 7,xI 4,xS ⟨#[]⟩,xS ⟨#[]⟩,xI 0,xI 0,xS ⟨#[]⟩,xL none 0 0,xL none 0 0,xS ⟨#[]⟩,xL none 0 0,xI 0,xS ⟨#[]⟩,xS ⟨#[]⟩,xS ⟨#[]⟩,xI 0,xI 0,xS ⟨#[]⟩,xS ⟨#[]⟩]) W:=λW=>run_build W _ _ _ (by kernel_rfl);have tw:∀W,(Instr.build 35 #[]).run prog W= .ok (.agg #[xL none 0 0,xL none 0 0,xL none 0 0,xI 0]) W:=λW=>run_build W _ _ _ (by kernel_rfl);have Ru:∀b W,(Instr.build 66 #[(0,xI 5),(3,xL (some ⟨b,0,none⟩) 1 1)]).run prog W= .ok (.agg #[xI 5,xI 0,xI 0,xL (some ⟨b,0,none⟩) 1 1]) W:=λb W=>run_build W _ _ _ (by kernel_rfl);have qcm:∀b W,(Instr.build 75 #[(0,xI 1),(1, .agg #[xI 5,xI 0,xI 0,xL (some ⟨b,0,none⟩) 1 1])]).run prog W= .ok (.agg #[xI 1,xI 5,xI 0,xI 0,xL (some ⟨b,0,none⟩) 1 1,xI 0,xI 0,xS ⟨#[]⟩,xS ⟨#[]⟩,xL none 0 0,xI 0,xS ⟨#[]⟩,xS ⟨#[]⟩,xS ⟨#[]⟩,xI 0,xI 0,xS ⟨#[]⟩,xS ⟨#[]⟩]) W:=λb W=>run_build W _ _ _ (by kernel_rfl);have X5:∀W,(Instr.build 75 #[(0,xI 2),(4,xS ⟨#[104,111,109,101]⟩),(2,xI 5)]).run prog W= .ok (.agg #[xI 2,xI 0,xI 0,xI 0,xL none 0 0,xI 5,xI 0,xS ⟨#[104,111,109,101]⟩,xS ⟨#[]⟩,xL none 0 0,xI 0,xS ⟨#[]⟩,xS ⟨#[]⟩,xS ⟨#[]⟩,xI 0,xI 0,xS ⟨#[]⟩,xS ⟨#[]⟩]) W:=λW=>run_build W _ _ _ (by kernel_rfl);have qh8:∀W,(Instr.build 53 #[]).run prog W= .ok (.agg #[xI 0,xI 0,xS ⟨#[]⟩,xS ⟨#[]⟩,xI 0,xI 0,xS ⟨#[]⟩,xL none 0 0,xL none 0 0,xS ⟨#[]⟩,xL none 0 0,xI 0,xS ⟨#[]⟩,xS ⟨#[]⟩,xS ⟨#[]⟩,xI 0,xI 0,xS ⟨#[]⟩,xS ⟨#[]⟩]) W:=λW=>run_build W _ _ _ (by kernel_rfl);have HX:=af (Bx.Ow w yF (yG w.heap.size) (yH w.heap.size) (yI (w.heap.size+1+1)));have HG:=af hG;clear hG;have eF:Hd (∀V,Bx w [yF,yG w.heap.size,yH w.heap.size,yI (w.heap.size+1+1)] V->ab xF V (xL (some ⟨w.heap.size+1+1,0,none⟩) 1 1) [ez]):=λV hb=>S5 (hb.bG rfl) (hb.fR rfl);have mY:Hd (∀V,Bx w [yF,yG w.heap.size,yH w.heap.size,yI (w.heap.size+1+1)] V->xC 9 #[.agg #[xL (some ⟨w.heap.size+1+1,0,none⟩) 1 1,xL none 0 0,xL none 0 0,xI 5],xL (some ⟨V.heap.size+1,0,none⟩) 2 2] ((V.alloc YA).alloc (YB V.heap.size)) (cg ((V.alloc YA).alloc (YB V.heap.size)) λu w'=>∃(cv kv:an),u= .tuple #[cv,kv,xI 6,xI 0]/\ab xF w' cv [sX gn,lJ om]/\ab xF w' kv [(⟨#[115]⟩:aM)])):=λV hb=>by
  have h0:=(hb.alloc YA).alloc (YB V.heap.size);have h1:=Qbh V YA;have h2:=Qbh (V.alloc YA) (YB V.heap.size);have h3:=(Qcb (V.alloc YA) (YB V.heap.size) V.heap.size (by simp)).trans h1;have e:(V.alloc YA).heap.size=V.heap.size+1:=by simp
  rw[e]at h2;exact MW xF _ (λi hi=>hi.elim) (HG.o.below h0.1) _ _ (eF.o _ h0) (Wb h3 h2)
 have vL:Hd (∀V,Bx w [yF,yG w.heap.size,yH w.heap.size,yI (w.heap.size+1+1)] V->xC 9 #[.agg #[xL (some ⟨w.heap.size+1+1,0,none⟩) 1 1,xL none 0 0,xL none 0 0,xI 5],xL (some ⟨V.heap.size,0,none⟩) 1 1] (V.alloc (xK #[xI 7,xI 4,xS ⟨#[]⟩,xS ⟨#[]⟩,xI 0,xI 0,xS ⟨#[]⟩,xL none 0 0,xL none 0 0,xS ⟨#[]⟩,xL none 0 0,xI 0,xS ⟨#[]⟩,xS ⟨#[]⟩,xS ⟨#[]⟩,xI 0,xI 0,xS ⟨#[]⟩,xS ⟨#[]⟩] 53)) (cg (V.alloc (xK #[xI 7,xI 4,xS ⟨#[]⟩,xS ⟨#[]⟩,xI 0,xI 0,xS ⟨#[]⟩,xL none 0 0,xL none 0 0,xS ⟨#[]⟩,xL none 0 0,xI 0,xS ⟨#[]⟩,xS ⟨#[]⟩,xS ⟨#[]⟩,xI 0,xI 0,xS ⟨#[]⟩,xS ⟨#[]⟩] 53)) λu w'=>u= .tuple #[xL none 0 0,xL none 0 0,xI 0,xI 101])):=λV hb=>by
  have h0:=hb.alloc (xK #[xI 7,xI 4,xS ⟨#[]⟩,xS ⟨#[]⟩,xI 0,xI 0,xS ⟨#[]⟩,xL none 0 0,xL none 0 0,xS ⟨#[]⟩,xL none 0 0,xI 0,xS ⟨#[]⟩,xS ⟨#[]⟩,xS ⟨#[]⟩,xI 0,xI 0,xS ⟨#[]⟩,xS ⟨#[]⟩] 53);exact Qu (HG.o.below h0.1) _ _ (eF.o _ h0) (Qr (nW 4) rfl rfl (Qbh V (xK #[xI 7,xI 4,xS ⟨#[]⟩,xS ⟨#[]⟩,xI 0,xI 0,xS ⟨#[]⟩,xL none 0 0,xL none 0 0,xS ⟨#[]⟩,xL none 0 0,xI 0,xS ⟨#[]⟩,xS ⟨#[]⟩,xS ⟨#[]⟩,xI 0,xI 0,xS ⟨#[]⟩,xS ⟨#[]⟩] 53)))
 have Yr:Hd (∀V,Bx w [yF,yG w.heap.size,yH w.heap.size,yI (w.heap.size+1+1)] V->xC 9 #[.agg #[xL (some ⟨w.heap.size+1+1,0,none⟩) 1 1,xL none 0 0,xL none 0 0,xI 5],xL (some ⟨V.heap.size,0,none⟩) 1 1] (V.alloc (xK #[xI 3,xI (-1),xS ⟨#[]⟩,xS ⟨#[104,111,109,101]⟩,xI 0,xI 0,xS ⟨#[]⟩,xL none 0 0,xL none 0 0,xS ⟨#[]⟩,xL none 0 0,xI 0,xS ⟨#[]⟩,xS ⟨#[]⟩,xS ⟨#[]⟩,xI 0,xI 0,xS ⟨#[]⟩,xS ⟨#[]⟩] 53)) (cg (V.alloc (xK #[xI 3,xI (-1),xS ⟨#[]⟩,xS ⟨#[104,111,109,101]⟩,xI 0,xI 0,xS ⟨#[]⟩,xL none 0 0,xL none 0 0,xS ⟨#[]⟩,xL none 0 0,xI 0,xS ⟨#[]⟩,xS ⟨#[]⟩,xS ⟨#[]⟩,xI 0,xI 0,xS ⟨#[]⟩,xS ⟨#[]⟩] 53)) λu w'=>u= .tuple #[xL none 0 0,xL none 0 0,xI 0,xI 170])):=λV hb=>by
  have h0:=hb.alloc (xK #[xI 3,xI (-1),xS ⟨#[]⟩,xS ⟨#[104,111,109,101]⟩,xI 0,xI 0,xS ⟨#[]⟩,xL none 0 0,xL none 0 0,xS ⟨#[]⟩,xL none 0 0,xI 0,xS ⟨#[]⟩,xS ⟨#[]⟩,xS ⟨#[]⟩,xI 0,xI 0,xS ⟨#[]⟩,xS ⟨#[]⟩] 53);exact Wc (HG.o.below h0.1) _ _ (eF.o _ h0) (Qr ki rfl rfl (Qbh V (xK #[xI 3,xI (-1),xS ⟨#[]⟩,xS ⟨#[104,111,109,101]⟩,xI 0,xI 0,xS ⟨#[]⟩,xL none 0 0,xL none 0 0,xS ⟨#[]⟩,xL none 0 0,xI 0,xS ⟨#[]⟩,xS ⟨#[]⟩,xS ⟨#[]⟩,xI 0,xI 0,xS ⟨#[]⟩,xS ⟨#[]⟩] 53)))
 have Nq:Hd (∀V,Bx w [yF,yG w.heap.size,yH w.heap.size,yI (w.heap.size+1+1)] V->_):=λV hb=>Qj V (HG.o.below hb.1).tb none 0 0;have zf:Hd (∀V,Bx w [yF,yG w.heap.size,yH w.heap.size,yI (w.heap.size+1+1)] V->ab xF ((V.alloc YA).alloc (xK #[xI 1,xI 5,xI 0,xI 0,xL (some ⟨V.heap.size,0,none⟩) 1 1,xI 0,xI 0,xS ⟨#[]⟩,xS ⟨#[]⟩,xL none 0 0,xI 0,xS ⟨#[]⟩,xS ⟨#[]⟩,xS ⟨#[]⟩,xI 0,xI 0,xS ⟨#[]⟩,xS ⟨#[]⟩,xI 2,xI 0,xI 0,xI 0,xL none 0 0,xI 5,xI 0,xS ⟨#[104,111,109,101]⟩,xS ⟨#[]⟩,xL none 0 0,xI 0,xS ⟨#[]⟩,xS ⟨#[]⟩,xS ⟨#[]⟩,xI 0,xI 0,xS ⟨#[]⟩,xS ⟨#[]⟩] 75)) (xL (some ⟨V.heap.size+1,0,none⟩) 2 2) [sX gn,lJ om]):=λV hb=>by
  have h1:=Qbh V YA;have h2:=Qbh (V.alloc YA) (xK #[xI 1,xI 5,xI 0,xI 0,xL (some ⟨V.heap.size,0,none⟩) 1 1,xI 0,xI 0,xS ⟨#[]⟩,xS ⟨#[]⟩,xL none 0 0,xI 0,xS ⟨#[]⟩,xS ⟨#[]⟩,xS ⟨#[]⟩,xI 0,xI 0,xS ⟨#[]⟩,xS ⟨#[]⟩,xI 2,xI 0,xI 0,xI 0,xL none 0 0,xI 5,xI 0,xS ⟨#[104,111,109,101]⟩,xS ⟨#[]⟩,xL none 0 0,xI 0,xS ⟨#[]⟩,xS ⟨#[]⟩,xS ⟨#[]⟩,xI 0,xI 0,xS ⟨#[]⟩,xS ⟨#[]⟩] 75);have h3:=(Qcb (V.alloc YA) (xK #[xI 1,xI 5,xI 0,xI 0,xL (some ⟨V.heap.size,0,none⟩) 1 1,xI 0,xI 0,xS ⟨#[]⟩,xS ⟨#[]⟩,xL none 0 0,xI 0,xS ⟨#[]⟩,xS ⟨#[]⟩,xS ⟨#[]⟩,xI 0,xI 0,xS ⟨#[]⟩,xS ⟨#[]⟩,xI 2,xI 0,xI 0,xI 0,xL none 0 0,xI 5,xI 0,xS ⟨#[104,111,109,101]⟩,xS ⟨#[]⟩,xL none 0 0,xI 0,xS ⟨#[]⟩,xS ⟨#[]⟩,xS ⟨#[]⟩,xI 0,xI 0,xS ⟨#[]⟩,xS ⟨#[]⟩] 75) V.heap.size (by simp)).trans h1;have e:(V.alloc YA).heap.size=V.heap.size+1:=by simp
  rw[e]at h2;exact S6 h3 h2
 go_enter func5,ntmps5;go_upto_region 3 with fail;obtain⟨W3,fw⟩:=bS ((((w.alloc yF).alloc (yG w.heap.size)).alloc (yH w.heap.size)).alloc (yI (w.heap.size+1+1)));rw[<-fw]at HX;unfold yF yG yH yI at fw;rw[<-fw];clear fw aF bC bP eA jg jz;have X7:Hd (∀V,Bx w [yF,yG w.heap.size,yH w.heap.size,yI (w.heap.size+1+1)] V->_):=λV hb=>ae (show V.heap[w.heap.size+1+1+1]? =_ from hb.at_ 3 rfl);have HWA:Hd (∀V,Bx w [yF,yG w.heap.size,yH w.heap.size,yI (w.heap.size+1+1)] V->∀o,_):=λV hb o=>ae (show(V.alloc o).heap[w.heap.size+1+1+1]? =_ from(hb.alloc o).at_ 3 rfl);have Uz:Hd (∀V,Bx w [yF,yG w.heap.size,yH w.heap.size,yI (w.heap.size+1+1)] V->∀o o2,_):=λV hb o o2=>ae (show((V.alloc o).alloc o2).heap[w.heap.size+1+1+1]? =_ from((hb.alloc o).alloc o2).at_ 3 rfl);have uB:Hd (Bx w [yF,yG w.heap.size,yH w.heap.size,yI (w.heap.size+1+1)] W3.drew):=HX.o.drew;obtain⟨k0,k1,k2,k3⟩:=X7.o _ HX.o;go_cut [3,4,5,6](λv3 v4 v5 v6 wx=>∃cv kv:an,v3=cv/\v4=kv/\v5=xI 6/\v6=xI 0/\Hd (ab xF wx cv [sX gn,lJ om]/\ab xF wx kv [(⟨#[115]⟩:aM)]/\Bx w [yF,yG w.heap.size,yH w.heap.size,yI (w.heap.size+1+1)] wx));case first=>
  go_region_law(first
   |(go_simp;go_at_call 13;refine bY (Qs 3 _) λw4 eA=> ?_;have pL:Hd (Bx w [yF,yG w.heap.size,yH w.heap.size,yI (w.heap.size+1+1)] w4):=uB.o.below eA;have k0:=(X7.o _ pL.o).1;have k1:=(X7.o _ pL.o).2.1;have k2:=(X7.o _ pL.o).2.2.1;have k3:=(X7.o _ pL.o).2.2.2;have l0:=λo=>(HWA.o _ pL.o o).1;have l1:=λo=>(HWA.o _ pL.o o).2.1;have l2:=λo=>(HWA.o _ pL.o o).2.2.1;have l3:=λo=>(HWA.o _ pL.o o).2.2.2;have m0:=λo o2=>(Uz.o _ pL.o o o2).1;have m1:=λo o2=>(Uz.o _ pL.o o o2).2.1;have m2:=λo o2=>(Uz.o _ pL.o o o2).2.2.1;have m3:=λo o2=>(Uz.o _ pL.o o o2).2.2.2;clear eA)
   |(go_simp;go_at_call 9;refine(mY.o _ pL.o).mono ?_;rintro e w5⟨_,rfl,⟨cv,kv,rfl,hc,hk⟩,jg⟩;have HA5:Hd (ab xF w5 cv [sX gn,lJ om]/\ab xF w5 kv [(⟨#[115]⟩:aM)]/\Bx w [yF,yG w.heap.size,yH w.heap.size,yI (w.heap.size+1+1)] w5):=⟨hc,hk,((pL.o.alloc _).alloc _).below jg⟩;clear hc hk jg)
   |fail);all_goals(go_wp2;go_meet)
  all_goals exact⟨_,_,rfl,rfl,rfl,rfl,HA5⟩
 case rest=>
  obtain⟨cv,kv,rfl,rfl,rfl,rfl,HC⟩:=hcut;obtain⟨ca,cc,rfl,-⟩:=HC.o.1.open_;obtain⟨kb,ko,kc,rfl,-,hkc⟩:=M6 (i:=0) HC.o.2.1 rfl;have NV:=af hkc;have HXC:Hd (Bx w [yF,yG w.heap.size,yH w.heap.size,yI (w.heap.size+1+1)] wc):=HC.o.2.2;have HCS:Hd (ab xF wc (xL ca [sX gn,lJ om].length cc) [sX gn,lJ om]):=HC.o.1;clear hkc HC iJ k0 k1 k2 k3 mY;dsimp only[List.length_cons,List.length_nil,Nat.zero_add,Nat.reduceAdd]at*;obtain⟨k0,k1,k2,k3⟩:=X7.o _ HXC.o;go_wp2_with fail;refine(vL.o _ HXC.o).mono ?_;rintro e w6⟨_,rfl,rfl,jz⟩;have C3:Hd (Bx w [yF,yG w.heap.size,yH w.heap.size,yI (w.heap.size+1+1)] w6/\aq wc w6):=⟨(HXC.o.alloc _).below jz,bM.trans (jz.mono (by simp))⟩;clear jz k0 k1 k2 k3;obtain⟨k0,k1,k2,k3⟩:=X7.o _ C3.o.1;go_wp2_with fail;refine(Yr.o _ C3.o.1).mono ?_;rintro e w7⟨_,rfl,rfl,iJ⟩;have Nu:Hd (Bx w [yF,yG w.heap.size,yH w.heap.size,yI (w.heap.size+1+1)] w7/\aq wc w7):=⟨(C3.o.1.alloc _).below iJ,C3.o.2.trans ((bM.trans (iJ.mono (by simp))).mono C3.o.2.size)⟩;clear iJ k0 k1 k2 k3;go_wp2_with fail;refine(Nq.o _ Nu.o.1).mono ?_;rintro e w8⟨_,rfl,rfl,Rc⟩;have Rn:Hd (Bx w [yF,yG w.heap.size,yH w.heap.size,yI (w.heap.size+1+1)] w8/\aq wc w8):=⟨Nu.o.1.below Rc,Nu.o.2.trans (Rc.mono Nu.o.2.size)⟩;clear Rc;go_wp2_with fail;refine bY (Qs 3 _) λw9 vR=> ?_;have FF:Hd (Bx w [yF,yG w.heap.size,yH w.heap.size,yI (w.heap.size+1+1)] w9/\aq wc w9):=⟨Rn.o.1.below vR,Rn.o.2.trans (vR.mono Rn.o.2.size)⟩;clear vR;go_upto_region 8 with fail;obtain⟨W9,Rs⟩:=bS ((w9.alloc YA).alloc (xK #[xI 1,xI 5,xI 0,xI 0,xL (some ⟨w9.heap.size,0,none⟩) 1 1,xI 0,xI 0,xS ⟨#[]⟩,xS ⟨#[]⟩,xL none 0 0,xI 0,xS ⟨#[]⟩,xS ⟨#[]⟩,xS ⟨#[]⟩,xI 0,xI 0,xS ⟨#[]⟩,xS ⟨#[]⟩,xI 2,xI 0,xI 0,xI 0,xL none 0 0,xI 5,xI 0,xS ⟨#[104,111,109,101]⟩,xS ⟨#[]⟩,xL none 0 0,xI 0,xS ⟨#[]⟩,xS ⟨#[]⟩,xS ⟨#[]⟩,xI 0,xI 0,xS ⟨#[]⟩,xS ⟨#[]⟩] 75));have FK:=af (show aq wc W9/\Bx w [yF,yG w.heap.size,yH w.heap.size,yI (w.heap.size+1+1)] W9 by rw[Rs];exact⟨FF.o.2.trans ((bM.alloc (by simp) _).mono FF.o.2.size),(FF.o.1.alloc _).alloc _⟩);have UR:=af (show ab xF W9 (xL (some ⟨w9.heap.size+1,0,none⟩) 2 2) [sX gn,lJ om]by rw[Rs];exact zf.o _ FF.o.1);rw[<-Rs];clear Rs Rc tw Ru qcm X5;have YJ:=NV.o _ FK.o.1;go_wp2_with fail;refine bY (Fl _ S7 _ _ _ _ (HCS.o.below FK.o.1) UR.o) λtK tw=> ?_;have zX:Hd (aq wc tK/\Bx w [yF,yG w.heap.size,yH w.heap.size,yI (w.heap.size+1+1)] tK):=⟨FK.o.1.trans (tw.mono FK.o.1.size),FK.o.2.below tw⟩;clear tw YJ;have YJ:=NV.o _ zX.o.1;rw[Nat.add_zero]at YJ;go_wp2_with fail;refine bY (sW 4 ⟨by decide,by decide⟩ _) λw11 Ru=> ?_;have XA:=af (zX.o.2.below Ru);clear Ru YJ;go_wp2_with fail;refine bY (Ci _) λw12 qcm=> ?_;have tx:=af (XA.o.below qcm);clear qcm;go_wp2;go_ret;exact⟨rfl,tx.o.1⟩
def Qw:(Tryz.prog.info? 53).map (λi=>(i.zero,i.size,i.bytes))=some (some (.agg #[xI 0,xI 0,xS ⟨#[]⟩,xS ⟨#[]⟩,xI 0,xI 0,xS ⟨#[]⟩,xL none 0 0,xL none 0 0,xS ⟨#[]⟩,xL none 0 0,xI 0,xS ⟨#[]⟩,xS ⟨#[]⟩,xS ⟨#[]⟩,xI 0,xI 0,xS ⟨#[]⟩,xS ⟨#[]⟩]),19,272):=by kernel_rfl
structure Qx(x:aX)(i:Nat)(w0 wr:aj)(tv:an)(os:List pF):Prop where
 acc:aK (α:=pF) (λk=>k<w0.heap.size) w0.heap.size 53 wr tv os
 len:os.length=i
 all:∀o∈os,rr x o
 bel:aq w0 wr
theorem Qx.next {x:aX}{w4:aj}{tv tv':an}{os:List pF}{o:pF}(h:Qx x i w0 wr tv os)(hb:aq wr w2)(ho:rr x o)(ha:aK (λk=>k<w0.heap.size) w0.heap.size 53 w4 tv' (os++[o]))(eA:Below w0.heap.size w2 w4):Qx x (i+1) w0 w4 tv' (os++[o]):=
 ⟨ha,by rw[Qda,h.len];rfl,λp hp=>by
   rcases Qch.1 hp with hp|hp
   .exact h.all p hp
   .rw[List.mem_singleton.1 hp];exact ho,(h.bel.trans (hb.mono h.bel.size)).trans eA⟩
def Ry(k:Nat):aM:=([qW,⟨#[97]⟩,⟨#[122]⟩]:List aM).getD k oe
def M7:∀k,k<3->aB (Ry k)=true/\(Ry k).size<=20:=by
 intro k hk;rcases k with _|_|_|k;all_goals first|(decide+kernel)|omega
def Qy(c:Int)(n:Nat)(W:aj)(hc:I6 c)(h1:1<=n)(h2:n<=500):xC 8 #[xI c,xI n] W λe w'=>(∃k:Nat,k<n/\e=xR (xI k))/\W=w':=by
 refine cT (Jf c (n:Int) W hc (by omega) (by omega)) ?_;rw[Int.toNat_natCast];exact⟨⟨_,cM c n (by omega),rfl⟩,rfl⟩
def n3O:Obj:=xK #[xS ⟨#[104,111,109,101]⟩,xS ⟨#[97]⟩,xS ⟨#[122]⟩] 9
def S8(h:bR W g n3O)(hk:k<3):bt W g k (xS (Ry k)):=by
 unfold n3O at h;rcases k with _|_|_|k
 .simp[World.cell?,h,Ry,qW]
 .simp[World.cell?,h,Ry]
 .simp[World.cell?,h,Ry]
 .omega
def Jg(w:aj)(hG:Gd w)(r0 r1 r2:fA)(n0 c0 n1 c1 n2 c2:Nat)(qv:an)(q:List Int)(hq:ab xF w qv q)(hqi:∀y∈q,I6 y)
 (YK:∀W,aq w W->xC 6 #[.agg #[xL r0 n0 c0,xL r1 n1 c1,xL r2 n2 c2]] W (cg W λu w'=>∃(x:aX)(lv ov rv:an),BP x/\u= .agg #[lv,ov,rv,xI x.next]/\ab xF w' lv x.lines/\ab xF w' ov x.objs/\ab xF w' rv x.roots)):
 xC 3 #[.agg #[xL r0 n0 c0,xL r1 n1 c1,xL r2 n2 c2],qv] w (cr (xB true) w):=by
 obtain⟨i0,ed,ej,dO,er⟩:=info_parts Qw;have TK:=af YK;have HGW:=af hG;have HQC:Hd (∀i y,q[i]? =some y->_):=λi y hy=>mA hq hy;have HQI:=af hqi;obtain⟨qa,qc,rfl,T2,XW,-⟩:=hq.open_;have jN:=af (Bx.eD w (xK #[xL r0 n0 c0,xL r1 n1 c1,xL r2 n2 c2] 26));have Uu:=gG (w:=w) (λW hb=>Qv W (hG.below hb));clear YK hG hq hqi;generalize TF:q.length=qn at*;have HQN:=af TF;clear TF;go_enter func3,ntmps3;go_wp2_with fail;refine bY (Uu.o _ jN.o.1) λw1 aF=> ?_;have aY:=af (jN.o.below aF);obtain⟨y0,y1,y2⟩:=aD (aY.o.bG rfl);clear aF jN Uu;go_wp2_with fail;refine(TK.o _ aY.o.1).mono ?_;rintro e w2⟨_,rfl,⟨x,lv,ov,rv,hx,rfl,ja,kq,iM⟩,bC⟩;obtain⟨la,lc,rfl,-⟩:=ja.open_;obtain⟨oa,oc,rfl,-⟩:=kq.open_;obtain⟨ra,rc,rfl,-⟩:=iM.open_;have HX:=af hx.wr;have aQ:=af (aY.o.below bC);have qs:=af (And.intro ja (And.intro kq iM));clear bC hx ja kq iM y0 y1 y2 aY TK;have UC:1<=x.next/\x.next<=100001:=HX.o.next;go_upto_region 3 with fail;obtain⟨W2,gS⟩:=bS (w2.alloc (xK #[xL la x.lines.length lc,xL oa x.objs.length oc,xL ra x.roots.length rc,xI x.next] 35));have bO:=af (show Bx w _ W2 by rw[gS];exact aQ.o.alloc _);have zO:=af (show aq w2 W2/\di W2 w2 (xK #[xL la x.lines.length lc,xL oa x.objs.length oc,xL ra x.roots.length rc,xI x.next] 35)by rw[gS];exact⟨bM,Qbh w2 _⟩);rw[<-gS];clear gS aQ;have R6:=af (qi x W2 _ _ _ HX.o (HGW.o.below bO.o.1) (qs.o.1.below zO.o.1) (qs.o.2.1.below zO.o.1) (qs.o.2.2.below zO.o.1));obtain⟨k0,k1,k2,k3⟩:=ae zO.o.2;go_wp2_with fail;refine(R6.o).mono ?_;rintro e w3⟨_,rfl,⟨L,mv,rfl,hL,NT,jZ⟩,bP⟩;have HLC:Hd (∀i y,L[i]? =some y->_):=λi y hy=>mA hL hy;obtain⟨ma,mc,rfl,hmc,hmm,-⟩:=hL.open_;have dI:=af (bO.o.below bP);have vM:Hd (aq w2 w3/\w3.heap[w2.heap.size]? =_):=⟨zO.o.1.trans (bP.mono zO.o.1.size),(bP.block _ (Qaa.1 zO.o.2).1).trans zO.o.2⟩;have HM:=af jZ;have j7:=af (show L.length<=500 by
  have h1:=eV (cL x.objs) L (NT.imp (λ{a b}h e=>by omega)) (λn hn=>HX.o.closed.Rw ((jZ n).1 hn));have h2:=HX.o.len;unfold cL at h1;rw[Qdc]at h1;omega);generalize Xl:L.length=ll at*;clear bP hL jZ NT k0 k1 k2 k3 R6 zO bO;have CV:=af Xl;clear Xl;have qf8:Hd (∀W tv os,aq w3 W->os.length<=20->(∀o∈os,rr x o)->ab xF W tv os->_):=λW tv os hb h20 hr hs=>MT x HX.o os h20 hr xF W (λi hi=>hi.elim) (HGW.o.below (dI.o.below hb).1) _ _ _ tv (qs.o.1.below (vM.o.1.trans (hb.mono vM.o.1.size))) (qs.o.2.1.below (vM.o.1.trans (hb.mono vM.o.1.size))) (qs.o.2.2.below (vM.o.1.trans (hb.mono vM.o.1.size))) hs;have NV:=gG (w:=w3) (λW hb=>ae ((hb.block _ (Qaa.1 vM.o.2).1).trans vM.o.2));have qf9:Hd (Qx x 0 w3 w3 (xL none 0 0) []):=⟨aK.nil _ _ _ _,rfl,by simp,dQ⟩;have hlen:=j7.o;have qcn:Hd (∀(W:aj)(c:Int)(n:Nat),I6 c->1<=n->n<=500->_):=λW c n hc h1 h2=>Qy c n W hc h1 h2;have aF:∀(id:Int)(W:aj),(Instr.build 53 #[(0,xI 7),(1,xI id)]).run prog W= .ok (A6 7 id ⟨#[]⟩ ⟨#[]⟩ (xL none 0 0) ⟨#[]⟩ (xL none 0 0)) W:=λ_ W=>run_build W _ _ _ (by kernel_rfl);have bC:∀(n:aM)(W:aj),(Instr.build 53 #[(0,xI 8),(3,xS n)]).run prog W= .ok (A6 8 0 ⟨#[]⟩ n (xL none 0 0) ⟨#[]⟩ (xL none 0 0)) W:=λ_ W=>run_build W _ _ _ (by kernel_rfl);go_wp2;go_loopg [9,10]8(λgg tv iv wr=>∃(i:Nat)(os:List pF)(ta:fA)(tc:Nat),gg=8-i/\i<=8/\i<=qn/\iv=xI i/\tv=xL ta i tc/\Hd (Qx x i w3 wr (xL ta i tc) os));case atStart=>exact⟨0,[],none,0,rfl,by omega,by omega,rfl,rfl,qf9⟩
 case round=>
  obtain⟨i,os,ta,tc,rfl,hi8,hiq,rfl,rfl,HS⟩:=hrel;rename World=>wr;by_cases bu:i<qn/\i<8
  .obtain⟨h1,h2⟩:=bu;have h1i:(i:Int)<(qn:Int):=by omega
   have h2i:(i:Int)<8:=by omega
   obtain⟨y,hy⟩:=eB q i (by rw[HQN.o];exact h1);obtain⟨qb,qo,qcc,hqv,-,T2⟩:=HQC.o i y hy;obtain⟨rfl,rfl⟩:=iB hqv;have HQV:=af T2;have tp:Hd (Bx w _ wr):=dI.o.below HS.o.bel;have hyi:=HQI.o y (Qaf hy);have hq0:=HQV.o wr tp.o.1;clear hqv T2 hy;go_upto_region 8 with fail;go_cut [43](λv wx=>∃b:Bool,v=xB b/\wr=wx/\Hd (b=true->0<ll));case first=>
    by_cases hl:0<ll
    .have hli:(0:Int)<(ll:Int):=by omega
     go_wp2;go_meet;exact⟨_,rfl,rfl,af λ_=>hl⟩
    .have hli:¬(0:Int)<(ll:Int):=by omega
     go_wp2;go_meet;exact⟨false,rfl,rfl,af λh=>by cases h⟩
   case rest=>
    obtain⟨bb,rfl,rfl,HL⟩:=hcut;cases bb
    .have hq1:∀o,(wr.alloc o).cell? ⟨qb,qo+i,none⟩=some (xI y):=λo=>HQV.o _ (tp.o.1.alloc tp.o.1.size o);go_wp2_with fail;refine(qcn.o _ y 3 hyi (by omega) (by omega)).mono ?_;rintro e w5⟨⟨k,hk,rfl⟩,Td⟩;subst Td;have Kv:(0:Int)<=(k:Int):=by omega
     have Bm:(k:Int)<3:=by omega
     have Yf:=S8 (Qbh wr n3O) hk;unfold n3O at Yf;have HRO:Hd (rr x (rq (Ry k))):= .inr ⟨_,rfl,M7 k hk⟩;go_wp2_with(at_builtin;refine aW (α:=pF) rfl _ _ _ rfl (λk=>k<w3.heap.size) w3.heap.size 53 i0 _ 272 underlying40 ed ej dO er rfl (by decide) (.slice ta i tc) os rfl (HS.o.acc.below (bM.alloc (by simp) _)) (λ_=>True) _ [.int .i64 8, .int .i64 0, .string ⟨#[]⟩, .string (Ry k), .int .i64 0, .int .i64 0, .string ⟨#[]⟩, .slice none 0 0, .slice none 0 0, .string ⟨#[]⟩, .slice none 0 0, .int .i64 0, .string ⟨#[]⟩, .string ⟨#[]⟩, .string ⟨#[]⟩, .int .i64 0, .int .i64 0, .string ⟨#[]⟩, .string ⟨#[]⟩] (rq (Ry k)) rfl (fF _ _ #[.int .i64 8, .int .i64 0, .string ⟨#[]⟩, .string (Ry k), .int .i64 0, .int .i64 0, .string ⟨#[]⟩, .slice none 0 0, .slice none 0 0, .string ⟨#[]⟩, .slice none 0 0, .int .i64 0, .string ⟨#[]⟩, .string ⟨#[]⟩, .string ⟨#[]⟩, .int .i64 0, .int .i64 0, .string ⟨#[]⟩, .string ⟨#[]⟩] _ 19 rfl (by simp) trivial) ⟨_,_,rfl,ab.nil _ _,ab.nil _ _,(show yC _ _ _ from⟨λ_=>rfl,λ_=>rfl⟩)⟩ (by rw[HS.o.len];unfold maxLen;omega) (by rw[HS.o.len];omega) (by have:=HS.o.bel.size;simp;omega) ?_;rw[HS.o.len];intro a2 c2 w6 bj dz jz;have HN:=af (HS.o.next (bM.alloc (by simp) _) HRO.o bj jz);clear bj dz jz);go_roundg(8-(i+1));case measure=>omega
     case rel=>exact⟨i+1,_,a2,c2,rfl,by omega,by omega,by go_num,rfl,HN⟩
    .have hl:=HL.o rfl;go_wp2_with fail;refine(qcn.o _ y ll hyi hl j7.o).mono ?_;rintro e w5⟨⟨k,hk,rfl⟩,rfl⟩;have Kv:(0:Int)<=(k:Int):=by omega
     have CL:(k:Int)<(ll:Int):=by omega
     obtain⟨id,hid⟩:=eB L k (by rw[CV.o];exact hk);obtain⟨b2,zY,rz,zW,-,CO⟩:=HLC.o k id hid;obtain⟨rfl,rfl⟩:=iB zW;have aL:=CO wr HS.o.bel;have HRO:Hd (rr x (nW id)):= .inl ⟨id,rfl,(HM.o id).1 (Qaf hid)⟩;clear zW CO hid;go_wp2_with(at_builtin;refine aW (α:=pF) rfl _ _ _ rfl (λk=>k<w3.heap.size) w3.heap.size 53 i0 _ 272 underlying40 ed ej dO er rfl (by decide) (.slice ta i tc) os rfl (HS.o.acc.below bM) (λ_=>True) _ [.int .i64 7, .int .i64 id, .string ⟨#[]⟩, .string ⟨#[]⟩, .int .i64 0, .int .i64 0, .string ⟨#[]⟩, .slice none 0 0, .slice none 0 0, .string ⟨#[]⟩, .slice none 0 0, .int .i64 0, .string ⟨#[]⟩, .string ⟨#[]⟩, .string ⟨#[]⟩, .int .i64 0, .int .i64 0, .string ⟨#[]⟩, .string ⟨#[]⟩] (nW id) rfl (fF _ _ #[.int .i64 7, .int .i64 id, .string ⟨#[]⟩, .string ⟨#[]⟩, .int .i64 0, .int .i64 0, .string ⟨#[]⟩, .slice none 0 0, .slice none 0 0, .string ⟨#[]⟩, .slice none 0 0, .int .i64 0, .string ⟨#[]⟩, .string ⟨#[]⟩, .string ⟨#[]⟩, .int .i64 0, .int .i64 0, .string ⟨#[]⟩, .string ⟨#[]⟩] _ 19 rfl rfl trivial) ⟨_,_,rfl,ab.nil _ _,ab.nil _ _,(show yC _ _ _ from⟨λ_=>rfl,λ_=>rfl⟩)⟩ (by rw[HS.o.len];unfold maxLen;omega) (by rw[HS.o.len];omega) (by have:=HS.o.bel.size;simp;omega) ?_;rw[HS.o.len];intro a2 c2 w6 bj dz jz;have HN:=af (HS.o.next bM HRO.o bj jz);clear bj dz jz);go_roundg(8-(i+1));case measure=>omega
     case rel=>exact⟨i+1,_,a2,c2,rfl,by omega,by omega,by go_num,rfl,HN⟩
  .have HKW:=af (NV.o wr HS.o.bel);have gp:Hd (ab xF wr (xL ta i tc) os):=(HS.o.acc.slice λi hi=>hi).ev (Ev.dD _ λi hi=>hi.elim);have RG:=af (show(i<qn/\¬i<8)\/¬i<qn by omega);clear bu;rcases RG.o with⟨h1,h2⟩|h1;all_goals
    first
     |(have h1i:(i:Int)<(qn:Int):=by omega
       have h2i:¬(i:Int)<8:=by omega)
     |(have h1i:¬(i:Int)<(qn:Int):=by omega)
     |fail
    obtain⟨k0,k1,k2,k3⟩:=HKW.o;go_wp2_with fail;refine(qf8.o wr _ os HS.o.bel (by rw[HS.o.len];omega) HS.o.all gp.o).mono ?_;rintro e w7⟨_,rfl,⟨cv,kv,ks,rfl,vN,YJ,hle,hne⟩,iJ⟩;have zh:=af (NV.o w7 (HS.o.bel.trans (iJ.mono HS.o.bel.size)));have HBZ:Hd (aq w w7):=dI.o.1.trans ((HS.o.bel.trans (iJ.mono HS.o.bel.size)).mono dI.o.1.size);obtain⟨za,zc,rfl,-⟩:=vN.open_;obtain⟨ya,yc,rfl,-⟩:=YJ.open_;rw[HS.o.len]at hle hne;have Nc:(0<i->0<ks.length):=λh=>List.length_pos_iff.2 (hne h);clear vN YJ hne k0 k1 k2 k3;generalize ks.length=kn at*;obtain⟨k0,k1,k2,k3⟩:=zh.o;clear k0 k1 k2;dsimp only[List.length_nil];have Z2:(kn:Int)<=(i:Int):=by omega
    by_cases ed:0<i
    .have Kv:=Nc ed;have NN:(0:Int)<(i:Int):=by omega
     have oF:(0:Int)<(kn:Int):=by omega
     clear Nc hle;go_wp2;go_ret;exact⟨rfl,HBZ.o⟩
    .first
      |(exfalso;omega)
      |(have NN:¬(0:Int)<(i:Int):=by omega
        have oF:¬(0:Int)<(kn:Int):=by omega
        have ou:¬0<kn:=by omega
        clear Nc hle;go_wp2;go_ret;exact⟨rfl,HBZ.o⟩)
      |fail
