/- a part; no condition -/
import Derived.Test.YtepaofffbkfodaaGreatDoorM30
import Derived.Test.YtepaofffbkfodaaGreatDoorM35
set_option linter.all false
set_option maxHeartbeats 8000000
set_option maxRecDepth 100000
namespace Go.Proofs.YtepaofffbkfodaaGreatDoor
open Go.Proofs.Tryz
variable{M M':aN}{l:List aA}{W w w' W':aj}{cur:Array an}{base k i g b B clk:Nat}{o1:Obj}{v fv sv:an}
section
open Go.RowKit Go.Shelf
theorem Kf.slice {w':aj}{v:an}(h:Kf W l v w')(hl:l.length<=maxLen)(hM:∀i,M i->i<W.heap.size):ab M w' v l:=by
 rcases h with⟨rfl,rfl⟩|⟨B,h0,hB,rfl,hr⟩
 .exact ab.nil _ _
 .exact hr.slice hl λi hi=>by have:=hM i hi;omega
def Uj(N:aN)(K r:Nat):Nat->Prop:=λi=>N i\/i=K\/i=r
def ZM(N:aN)(K z:Nat):Nat->Prop:=λi=>N i\/i=K\/z<=i
structure WaA(x:aX)(N:aN)(W0:aj)(K:Nat)(lv:an)(wx:aj):Prop where
 low:aq W0 wx
 new:W0.heap.size<=K
 blk:wx.heap[K]? =some (cw lv (xL none 0 0) (xL none 0 0) x.next)
 lines:ab (orM N K) wx lv x.lines
section
variable {x:aX}{N:aN}{W0 w4 w5:aj}{K:Nat}{lv:an}{o:Obj}
def ZN(hj:aq W0 w4)(hs:ab N w4 lv x.lines):WaA x N W0 w4.heap.size lv (w4.alloc (xK #[lv,xL none 0 0,xL none 0 0,xI x.next] 35)):=by
 have hb:aq w4 (w4.alloc (xK #[lv,xL none 0 0,xL none 0 0,xI x.next] 35)):=bM;exact⟨hj.trans (hb.mono hj.size),hj.size,Qbh w4 _,hs.ev ⟨ai.ao hb,λi hi=>hi.imp_right λe=>by omega⟩⟩
def ZO(hx:bR w5 K (.cells cur 35 (0,0))/\W0.heap.size<=K)(h4:cur.size=4)(hj:aq W0 w5)(hs:ab (orM N K) w5 lv x.lines):WaA x N W0 K lv (((((w5.setCell ⟨K,0,none⟩ lv).setCell ⟨K,1,none⟩ (xL none 0 0)).setCell ⟨K,2,none⟩ (xL none 0 0)).setCell ⟨K,3,none⟩ (xI x.next))):=by
 refine⟨cW hj hx.2,hx.2,?_,hs.ev (((((Ev.refl _ w5).setCell (p:=⟨K,0,none⟩) (.inl (.inr rfl)) _).setCell (p:=⟨K,1,none⟩) (.inl (.inr rfl)) _).setCell (p:=⟨K,2,none⟩) (.inl (.inr rfl)) _).setCell (p:=⟨K,3,none⟩) (.inl (.inr rfl)) _)⟩;obtain⟨l⟩:=cur;match l,h4 with
 |[_,_,_,_],_=>exact iE (o:=0) hx.1 _ _ _ _
end
structure CI {α β:Type} [au α](e:TypeId)(mk:an->Obj)(N:aN)(W2:aj)(K r mb clk:Nat)(v:an)(V:List (β×an×Nat))(os:List α)(wr:aj):Prop where
 only:ai (λk=>k=K\/k=r) W2 wr
 blk:wr.heap[K]? =some (mk v)
 iter:IterM wr r mb V clk
 acc:aK (Uj N K r) W2.heap.size e wr v os
structure PX {α β:Type}(key:α->β)(l:List α)(es V:List (β×an×Nat))(os:List α):Prop where
 sub:∀p∈V,p∈es
 nod:(V.map (·.2.2)).Nodup
 ids:os.map key=V.map (·.1)
 mem:∀o∈os,o∈l
theorem aK.sT {α:Type} [au α]{e:TypeId}{w':aj}{v:an}{xs:List α}{S:aN}(h:aK M base e w v xs)(ho:ai S w w')(hS:∀i,S i->M i)(hg:∀g,v.ownBlock=some g->¬S g):aK M base e w' v xs:=by
 obtain⟨css,h1,h2,h3⟩:=h;refine⟨css,⟨h1.1,?_⟩,h2,λi cs x hc hx=>au.ev (h3 i cs x hc hx) ⟨ho.mono λk hk=> .inl (hS k hk),λk hk=> .inl hk⟩⟩;rcases h1.2 with h0|⟨g,cap,cur,k1,k2,k3,k4⟩
 .exact .inl h0
 .exact .inr ⟨g,cap,cur,k1,k2,(ho.block g (Qaa.1 k3).1 (hg g (by rw[k1];rfl))).trans k3,k4⟩
theorem aK.more {α:Type} [au α]{e:TypeId}{v:an}{xs:List α}(h:aK M base e w v xs)(hM:∀i,M' i->M i\/w.heap.size<=i):aK M' base e w v xs:=by
 obtain⟨css,h1,h2,h3⟩:=h;refine⟨css,h1,h2,λi cs x hc hx=>au.ev (h3 i cs x hc hx) ⟨ai.refl _ _,λk hk=> ?_⟩⟩;rcases hk with hk|hk
 .exact(hM k hk).imp_left .inl
 .exact .inl (.inr hk)
theorem aK.VW {e:TypeId}{w':aj}{v:an}{xs:List aV}{S:aN}(h:aK M base e w v xs)(ho:ai S w w')(hg:∀g,v.ownBlock=some g->¬S g):aK M' base e w' v xs:=by
 obtain⟨css,h1,h2,h3⟩:=h;refine⟨css,⟨h1.1,?_⟩,h2,h3⟩;rcases h1.2 with h0|⟨g,cap,cur,k1,k2,k3,k4⟩
 .exact .inl h0
 .exact .inr ⟨g,cap,cur,k1,k2,(ho.block g (Qaa.1 k3).1 (hg g (by rw[k1];rfl))).trans k3,k4⟩
section
variable {α β:Type} [au α]{e:TypeId}{mk:an->Obj}{N:aN}{W2 wr w' w5 w6:aj}{K r mb clk:Nat}{v v2:an}{V V':List (β×an×Nat)}{os os':List α}
theorem CI.below(h:CI e mk N W2 K r mb clk v V os wr)(hb:aq wr w'):CI e mk N W2 K r mb clk v V os w':=
 ⟨h.only.trans (ai.ao hb),(hb.block _ (Qaa.1 h.blk).1).trans h.blk,(hb.block _ (Qaa.1 h.iter).1).trans h.iter,h.acc.below hb⟩
theorem CI.drawn(h:CI e mk N W2 K r mb clk v V os wr)(Tr:K≠r)(hr:r<W2.heap.size)(ho:ai (λi=>i=r) wr w')(hi:IterM w' r mb V' clk):CI e mk N W2 K r mb clk v V' os w':=
 ⟨h.only.trans (ho.mono λi hi=> .inr hi),(ho.block K (Qaa.1 h.blk).1 Tr).trans h.blk,hi,h.acc.sT ho (λi hi=> .inr (.inr hi)) λg hg he=>by have h1:=(h.acc.cJ g hg).1;have h2:g=r:=he;omega⟩
theorem CI.next(h:CI e mk N W2 K r mb clk v V os w5)(hK:K<W2.heap.size)(hr:r<W2.heap.size)(Tr:K≠r)(hb:Below W2.heap.size (w5.alloc o1) w6)(ha:aK (Uj N K r) W2.heap.size e w6 v2 os'){c:Nat}(hm:∀W:aj,bR W K (mk v)->(W.setCell ⟨K,c,none⟩ v2).heap[K]? =some (mk v2)):
 CI e mk N W2 K r mb clk v2 V os' (w6.setCell ⟨K,c,none⟩ v2):=by
 have hz:=h.only.size;have hk:∀k,k<W2.heap.size->w6.heap[k]? =w5.heap[k]? :=λk hk=>(hb.block k hk).trans (Qcb w5 o1 k (by omega));have h2:ai (λk=>k=K\/k=r) W2 w6:=⟨hb.os.trans h.only.os,hb.tape.trans h.only.tape,hb.output.trans h.only.output,Qcg hz (Qcg (by simp) hb.size),λk k1 k2=>(hk k k1).trans (h.only.block k k1 k2)⟩;have o3:ai (λi=>i=K) w6 (w6.setCell ⟨K,c,none⟩ v2):=(ai.refl (λi=>i=K) w6).setCell (.inl rfl) _;refine⟨h2.trans (o3.mono λi hi=> .inl hi),hm _ ((hk K hK).trans h.blk),?_,ha.sT o3 (λi hi=> .inr (.inl hi)) λg hg he=>by have h1:=(ha.cJ g hg).1;have h3:g=K:=he;omega⟩;exact(o3.block r (by have:=h2.size;omega) (λe=>Tr e.symm)).trans ((hk r hr).trans h.iter)
theorem CI.map(h:CI e mk N W2 K r mb clk v V os wr){Ky:β->an}{es:List (β×an×Nat)}(hm:fq Ky W2 mb es clk)(h1:mb≠K)(h2:mb≠r):fq Ky wr mb es clk:=
 hm.same _ (h.only.block _ hm.lt (λhh=>hh.elim h1 h2))
end
theorem PX.more {α β:Type}{key:α->β}{l:List α}{es V:List (β×an×Nat)}{os:List α}(h:PX key l es V os){p:β×an×Nat}(hp:p∈es)(hn:((V++[p]).map (·.2.2)).Nodup){o:α}(ho:o∈l)(hk:p.1=key o):PX key l es (V++[p]) (os++[o]):=by
 refine⟨λq hq=> ?_,hn,?_,λq hq=> ?_⟩
 .rcases Qch.1 hq with hq|hq
  .exact h.sub q hq
  .rw[List.mem_singleton.1 hq];exact hp
 .rw[List.map_append,List.map_append,h.ids,List.map_cons,List.map_cons,hk];rfl
 .rcases Qch.1 hq with hq|hq
  .exact h.mem q hq
  .rw[List.mem_singleton.1 hq];exact ho
def qc5 {K:Nat}{lv v rv v2:an}{nx:Int}(h:bR W K (cw lv v rv nx)):(W.setCell ⟨K,1,none⟩ v2).heap[K]? =some (cw lv v2 rv nx):=by
 have:=Qca W K 1 _ _ v2 h;simpa [cw]using this
def qc6 {K:Nat}{lv v ov v2:an}{nx:Int}(h:bR W K (cw lv ov v nx)):(W.setCell ⟨K,2,none⟩ v2).heap[K]? =some (cw lv ov v2 nx):=by
 have:=Qca W K 2 _ _ v2 h;simpa [cw]using this
def szA(w:aj)(o:Obj):w.heap.size<(w.alloc o).heap.size:=by simp
def szD(w:aj)(o:Obj):w.heap.size<(w.alloc o).drew.heap.size:=szA w o
def szE(w:aj)(o:Obj):w.heap.size<(w.drew.alloc o).heap.size:=szA w.drew o
def MC(x:aX)(hx:dK x.lines)(hr:(cL x.objs).Pairwise (·< ·))(hn:gJ x.roots)(Wo:x.objs.length<=1000)(hr5:x.roots.length<=1000)(Nz:∀o∈x.objs,∃k v l,iS x.lines 100000 o k v l)(YY:∀r∈x.roots,r.name.size<=maxLen)(N:aN)(W:aj)(hN:Bd N W)(B p b mo mr:Nat)(sv:an)(hB:cP x N B p b mo mr sv W):
 xG 38 #[xP B] W λu w'=>∃lv ov rv,u= .agg #[lv,ov,rv,xI x.next]/\ab N w' lv x.lines/\ab N w' ov x.objs/\ab N w' rv x.roots:=by
 obtain⟨i0,ed,ej,dO,er⟩:=info_parts EV;obtain⟨i1,NN,hy0,RJ,QL⟩:=info_parts Av;have CZ:Hd (∀(N':aN)W',aq W W'->(∀i,N' i->N i\/W.heap.size<=i)->Bd N' W'->_):=λN' W' hb hi vS=>yr x.lines (by have:=hx.len;omega) (λy hy=>⟨by have:=((bo _).1 (hx.lines y hy).first.right).2.1;omega,(hx.lines y hy).len⟩) N' W' sv vS (hB.book.lines.ev ⟨ai.ao hb,hi⟩);have HFO:Hd (∀(o:bE),o∈x.objs->∀(N':aN)W' v,Bd N' W'->ab N' W' v o.aR->_):=λo ho N' W' v vS hs=>by
  obtain⟨k,v',l,hk⟩:=Nz o ho;have h6:=hx.lines l (Qaf hk.line);have h8:=((bo (aI l v')).1 (h6.kk v').right).2.1;have h9:=hk.aR.1;exact EW hk.aR (by omega) N' W' v vS hs
 have CP:Hd (∀o∈x.objs,o.aR.length<=12):=λo ho=>by
  obtain⟨k,v',l,hk⟩:=Nz o ho;have h6:=hx.lines l (Qaf hk.line);have h8:=((bo (aI l v')).1 (h6.kk v').right).2.1;have h9:=hk.aR.1;omega
 have nJ:=af hB;have HNW:=af hN;have N0:=af hr;have Gc:=af hn;have XL:=af YY;obtain⟨sa,sc,rfl,_⟩:=hB.book.lines.open_;obtain⟨es,clk,hm,JA,mR⟩:=hB.objs;obtain⟨fs,pM,CR,cq,Rj⟩:=hB.roots;have Bk:=af hm;have FH:=af CR;have HES:=af JA;have iL:=af cq;have NX:=af mR;have RD:=af Rj;have WM:es.length<=1000:=by
  have h1:=mG (x.objs.map bE.id) (es.map (·.1)) hm.keys (λq hq=>by
   obtain⟨p,hp,rfl⟩:=List.mem_map.1 hq;obtain⟨o,vv,j1,j2,_⟩:=JA p hp;exact List.mem_map.2 ⟨o,j1,j2.symm⟩);simp at h1;omega
 have Np:fs.length<=1000:=by
  have h1:=mG (x.roots.map aV.name) (fs.map (·.1)) CR.keys (λq hq=>by
   obtain⟨p,hp,rfl⟩:=List.mem_map.1 hq;obtain⟨o,j1,j2,_⟩:=cq p hp;exact List.mem_map.2 ⟨o,j1,j2.symm⟩);simp at h1;omega
 clear hm CR JA cq mR Rj hB hN hr hn Nz hx YY;generalize tJ:x.next=nx at*;have uK:=af tJ;clear tJ;have bW:=af (Bx.eD W (cw (xL none 0 0) (xL none 0 0) (xL none 0 0) 0));go_enter func38,ntmps38;go_upto_region 1 with fail;obtain⟨W0,vT⟩:=bS (W.alloc (cw (xL none 0 0) (xL none 0 0) (xL none 0 0) 0));rw[<-vT]at bW;unfold cw at vT;rw[<-vT];clear vT;have Wt:=bW.o.bF;simp only[Qcc,Qcd]at Wt;have KP:=af Wt;have HJ:Hd (aq W0 W0):=dQ;have jN:Hd (∀V,aq W0 V->aq W V):=λV hb=>(bW.o.below hb).1;have dr:Hd (∀V,aq W0 V->bt V B 0 (xL sa x.lines.length sc)/\bt V B 4 (xI nx)):=λV hb=>by
  obtain⟨k0,k1,k2,k3,k4⟩:=dX (nJ.o.below (jN.o V hb)).cell;rw[uK.o]at k4;exact⟨k0,k4⟩
 obtain⟨n1,yN⟩:∃N1:aN,N1=(λi=>N i\/i=W.heap.size):=⟨_,rfl⟩;have vP:=af yN;clear yN;have Rk:Hd (∀i,n1 i->i<W0.heap.size):=λi hi=>by
  rw[vP.o]at hi;have h0:=KP.o;rcases hi with hi|hi
  .have:=HNW.o i hi;omega
  .omega
 have XM:Hd (∀i,n1 i->N i\/W.heap.size<=i):=λi hi=>by
  rw[vP.o]at hi;rcases hi with hi|hi
  .exact .inl hi
  .right;omega
 have Ny:Hd (∀V,aq W0 V->_):=λV hb=>CZ.o n1 V (jN.o V hb) XM.o (λi hi=>Qde (Rk.o i hi) hb.size);have wm:Hd (∀V K,aq W0 V->W0.heap.size<=K->K<V.heap.size->_):=λV K hb h1 h2=>CZ.o (orM n1 K) V (jN.o V hb) (λi hi=>hi.elim (XM.o i) λe=>by have:=KP.o;right;omega) (λi hi=>hi.elim (λh=>Qde (Rk.o i h) hb.size) λe=>by omega);obtain⟨z0,z1⟩:=dr.o _ HJ.o;go_cut [3](λs3 wx=>∃(K:Nat)(ta:fA)(tc:Nat),s3=xP K/\Hd (WaA x n1 W0 K (xL ta x.lines.length tc) wx));case first=>
  rw[<-uK.o]at*;go_region_held3(λV=>bt V B 0 (xL sa x.lines.length sc)/\bt V B 4 (xI x.next))
   (with_reducible first|exact dr.o _ dE.o|exact dr.o _ dE.o.drew|exact dr.o _ HJ.o|exact dr.o _ HJ.o.drew|exact dr.o _ (dE.o.alloc dE.o.size _)|exact dr.o _ (HJ.o.alloc HJ.o.size _)|exact dr.o _ (HJ.o.alloc HJ.o.size _).drew|exact dr.o _ (HJ.o.drew.alloc HJ.o.size _)|exact dr.o _ (cW dE.o CB.o.2)|fail)
   (first
     |(go_at_call 87;first
       |(with_reducible refine(Ny.o _ HJ.o).mono ?_)
       |(with_reducible refine(Ny.o _ HJ.o.drew).mono ?_)
       |(with_reducible refine(wm.o _ W0.heap.size (HJ.o.alloc HJ.o.size _) bN (szA _ _)).mono ?_)
       |(with_reducible refine(wm.o _ W0.heap.size (HJ.o.alloc HJ.o.size _).drew bN (szD _ _)).mono ?_)
       |(with_reducible refine(wm.o _ W0.heap.size (HJ.o.drew.alloc HJ.o.size _) bN (szE _ _)).mono ?_)
       |fail
       rintro e w3⟨_,rfl,⟨u,rfl,hu⟩,bP⟩;obtain⟨a1,c1,rfl,_⟩:=hu.open_;have HU:=af hu;try(with_reducible(have CB:=af (VN HJ.o bP)))
       try(with_reducible(have CB:=af (ZE HJ.o bP)))
       try(with_reducible(have CB:=af (ZF HJ.o bP)))
       try(have g0:=ag CB.o.1 0)
       try(have g1:=ag CB.o.1 1)
       try(have g2:=ag CB.o.1 2)
       try(have g3:=ag CB.o.1 3)
       try(have hq:=ae CB.o.1)
       have dE:Hd (aq W0 w3):=(by with_reducible first|exact af bP|exact af (VP bP)|exact af (VO bP)|exact af (ZG bP)|exact af (ZH bP));clear bP hu)
     |fail);all_goals(go_wp2;go_meet)
  all_goals first
   |exact⟨_,_,_,rfl,af (ZO CB.o rfl dE.o HU.o)⟩
   |exact⟨_,_,_,rfl,af (ZN dE.o HU.o)⟩
   |trace_state
 case rest=>
 obtain⟨K,ta,tc,rfl,HA⟩:=hcut;rename World=>W1;have XN:Hd (aq W W1):=jN.o _ HA.o.low;have zh:=af (show W.heap.size<K/\K<W1.heap.size/\mo<W.heap.size/\mr<W.heap.size/\W.heap.size+1<=W1.heap.size by
  have h1:=HA.o.new;have h2:=(Qaa.1 HA.o.blk).1;have h3:=KP.o;exact⟨by omega,h2,Bk.o.lt,FH.o.lt,by omega⟩);have zJ:Hd (fq dC W1 mo es clk):=Bk.o.same _ (XN.o.block _ Bk.o.lt);have mY:Hd (∀w,w.heap[mo]? =W1.heap[mo]?->(Instr.range 113 (.map (some mo))).run prog w= .ok (.pointer (some ⟨w.heap.size,0,none⟩)) (w.alloc (.mapIter (some mo) clk #[] clk))):=λw hw=>run_range_map (P:=prog) w _ _ _ mo _ clk underlying113 (hw.trans zJ.o.is_);have rC:=mY.o W1 rfl;obtain⟨b0,b1,b2,b3,b4⟩:=dX (nJ.o.below XN.o).cell;clear z0 z1;go_upto_region 3 with fail;clear rC b0 b1 b2 b3 b4;obtain⟨W2,gS⟩:=bS (W1.alloc (.mapIter (some mo) clk #[] clk));have tx:=af (show aq W1 W2 by rw[gS];exact bM);have me:=af (show IterM W2 W1.heap.size mo ([]:List (Int×an×Nat)) clk by rw[gS];exact Qbh W1 _);have Bq:=af (show W2.heap.size=W1.heap.size+1 by rw[gS];simp);rw[<-gS];clear gS;generalize rC:W1.heap.size=r1 at*;have JC:=af rC;clear rC;have hgs:CI 66 (λv=>cw (xL ta x.lines.length tc) v (xL none 0 0) nx) n1 W2 K r1 mo clk (xL none 0 0) ([]:List (Int×an×Nat)) ([]:List bE) W2:=⟨ai.refl _ _,by
  have h1:=(tx.o.block K (by have:=zh.o;have:=JC.o;omega)).trans HA.o.blk;rw[uK.o]at h1;exact h1,me.o,aK.nil _ _ _ _⟩;have gM:Hd (CI 66 (λv=>cw (xL ta x.lines.length tc) v (xL none 0 0) nx) n1 W2 K r1 mo clk (xL none 0 0) ([]:List (Int×an×Nat)) ([]:List bE) W2/\PX bE.id x.objs es [] []):=⟨hgs,⟨by simp,by simp,by simp,by simp⟩⟩;have Jk:Hd (fq dC W2 mo es clk):=zJ.o.same _ (tx.o.block _ (by have:=zh.o;have:=JC.o;omega));have qe6:Hd (aq W W2):=XN.o.trans (tx.o.mono (by have:=zh.o;have:=JC.o;omega));clear hgs;generalize yU:es.length=n at*;have tz:=af yU;clear yU;go_loopg [5]n(λgg _ wr=>∃(V:List (Int×an×Nat))(os:List bE)(v:an),gg=n-V.length/\Hd (CI 66 (λv=>cw (xL ta x.lines.length tc) v (xL none 0 0) nx) n1 W2 K r1 mo clk v V os wr/\PX bE.id x.objs es V os));case atStart=>exact⟨[],[],_,by simp,gM⟩
 case round=>
  obtain⟨V,os,v,rfl,HS⟩:=hrel;rename World=>wr;have XO:=HS.o.1.map Jk.o (by have:=zh.o;omega) (by have:=zh.o;omega);rcases XO.step (P:=prog) dC HS.o.1.iter HS.o.2.sub HS.o.2.nod 0 with⟨mU,jh⟩|⟨q,w1,hp,YL,jh,CE,pN,rF,kg,jE⟩;rotate_left
  .have Gb:=iG (es:=es) pN (λz hz=>by
    rcases Qch.1 hz with hz|hz
    .exact HS.o.2.sub z hz
    .rw[List.mem_singleton.1 hz];exact hp);rw[Qda,List.length_singleton,tz.o]at Gb;obtain⟨o,vv,ho,e1,e2,dA⟩:=HES.o q hp;have HD:=af (HS.o.1.drawn (V':=V++[q]) (by have:=zh.o;omega) (by have:=Bq.o;omega) kg CE);have HQ:=af (HS.o.2.more hp pN ho e1);have TX:=af (show os.length=V.length by have:=congrArg List.length HS.o.2.ids;simpa using this);have Rh:=dA;obtain⟨va,vc,rfl,_⟩:=Rh.open_;have zj:=af dA;obtain⟨q1,q2,q3⟩:=q;dsimp only at e1 e2 jh jE;subst e1;subst e2;dsimp only[dC,rh]at jh jE;have HO:=af ho;clear dA Rh CE pN rF kg hp YL ho;go_upto_region 5 with fail;clear jh jE;obtain⟨W4,j8⟩:=bS (w1.alloc (dV o (xL va o.aR.length vc)));have pL:=af (show di W4 w1 (dV o (xL va o.aR.length vc))by rw[j8];exact Qbh w1 _);have Gf:=af (show CI 66 (λv=>cw (xL ta x.lines.length tc) v (xL none 0 0) nx) n1 W2 K r1 mo clk v (V++[(o.id,rh o (xL va o.aR.length vc),q3)]) os W4 by rw[j8];exact HD.o.below bM);unfold dV at j8;rw[<-j8];clear j8;obtain⟨ga,gc,rfl,_,_⟩:=Gf.o.acc.open_;have KM:Hd (∀i,bg (xL ga os.length gc) (Uj n1 K r1) i->i<W4.heap.size):=λi hi=>by
    have h1:=Gf.o.only.size;have h2:=Bq.o;have h3:=zh.o;have h4:=KP.o;have h5:=HA.o.low.size;have h6:=JC.o;rcases hi with(hi|hi|hi)|hi
    .have:=Rk.o i hi;omega
    .omega
    .omega
    .exact(Gf.o.acc.cJ i hi).2
   have hV4:ab (bg (xL ga os.length gc) (Uj n1 K r1)) W4 (xL va o.aR.length vc) o.aR:=zj.o.ev ⟨(ai.ao qe6.o).cO Gf.o.only (λi hi bu=>by have:=zh.o;rcases hi with hi|hi<;>omega),λi hi=>by
    have h2:=Bq.o;have h3:=zh.o;rcases hi with(hi|hi|hi)|hi
    .exact XM.o i hi
    .right;omega
    .right;omega
    .right;have:=(Gf.o.acc.cJ i hi).1;omega⟩;have Jv:=af (HFO.o o HO.o (bg (xL ga os.length gc) (Uj n1 K r1)) W4.drew (xL va o.aR.length vc) KM.o (hV4.below (Qbg _ W4).drew));have qe7:=af (CP.o o HO.o);clear hV4;have p1:=(ae Gf.o.blk).2.1;obtain⟨x0,x1,x2,x3⟩:=ae pL.o;have h48:(os.length+1)*48<=140737488355328:=by have:=TX.o;omega
   have HQ2:=HQ;go_region_law(first
    |(go_simp;go_at_call 88;refine Jv.o.mono ?_;rintro e w5⟨_,rfl,⟨za,rfl,yY⟩,jg⟩;have mT:=af (Gf.o.below ((Qbg _ W4).drew.trans jg));have eX:Hd (∀o1,au.rep (α:=bE) (bg (xL ga os.length gc) (Uj n1 K r1)) (w5.alloc o1) [xI o.id,xI o.cls,xI o.ver,xL za o.aR.length o.aR.length] o):=λo1=>⟨_,rfl,((yY W4.drew (Nat.le_add_right _ _)).slice (by have:=qe7.o;unfold maxLen;omega) KM.o).below (dQ.alloc bN o1)⟩;have q1':=(ae mT.o.blk).2.1;have q2':∀o1,(w5.alloc o1).cell? ⟨K,1,none⟩=some (xL ga os.length gc):=λo1=>(ae ((Qcb w5 o1 K (Qaa.1 mT.o.blk).1).trans mT.o.blk)).2.1;clear yY jg p1 x0 x1 x2 x3)
    |(refine dJ (α:=bE) rfl _ _ _ rfl (Uj n1 K r1) W2.heap.size 66 i0 _ 48 underlying32 ed ej dO er rfl (by decide) (.slice ga os.length gc) os rfl (mT.o.acc.alloc _) (λ_=>True) _ _ o rfl (cD _ _ _ _ rfl trivial) (eX.o _) (by unfold maxLen;omega) h48 (by have:=mT.o.only.size;simp;omega) ?_;intro a2 c2 w6 bj dz jz;have XP:=af (mT.o.next (by have:=zh.o;have:=Bq.o;omega) (by have:=Bq.o;omega) (by have:=zh.o;omega) jz bj (c:=1) (λW h=>qc5 h));have TO:K<W2.heap.size:=by have:=zh.o;have:=Bq.o;omega
      have iJ:=(jz.block K TO).trans ((Qcb w5 _ K (by have:=mT.o.only.size;omega)).trans mT.o.blk);have s6:=(ae iJ).2.1;have f6:=ag iJ 1;clear bj dz jz iJ q1' q2')
    |fail);all_goals
    go_wp2;go_roundg(n-(V.length+1));case measure=>omega
    case rel=>exact⟨V++[(o.id,rh o (xL va o.aR.length vc),q3)],os++[o],_,by simp,af ⟨XP.o,HQ2.o⟩⟩
  .have TY:=af (show aq W1 W2 by first|exact tx.o|(rw[JC.o];exact tx.o));have XQ:Hd (aq W0 wr):=aS (HA.o.low.trans (TY.o.mono (by have:=HA.o.low.size;omega))) (by have:=HA.o.low.size;have:=TY.o.size;omega) HS.o.1.only (λi hi=>by
    have h1:=HA.o.new;have h5:=HA.o.low.size;have h6:=JC.o;rcases hi with rfl|rfl<;>omega);have eF:Hd (ab (ZM n1 K r1) wr (xL ta x.lines.length tc) x.lines):=HA.o.lines.ev ⟨(ai.ao TY.o).cO HS.o.1.only (λi hi bu=>by
    have h6:=JC.o;rcases hi with hi|hi
    .exact .inr hi
    .omega),λi hi=>by
    have h6:=JC.o;rcases hi with hi|hi|hi
    .exact .inl (.inl hi)
    .exact .inl (.inr hi)
    .right;omega⟩;have hzw:=HS.o.1.only.size;have UU:Hd (aK (ZM n1 K wr.heap.size) W2.heap.size 66 wr v os):=HS.o.1.acc.more λi hi=>by
    rcases hi with hi|hi|hi
    .exact .inl (.inl hi)
    .exact .inl (.inr (.inl hi))
    .exact .inr hi
   have HGA:=af HS.o.2;have Gh:=af HS.o.1.blk;have HMP:=af mU;obtain⟨ga,gc,rfl,hga,Jr⟩:=UU.o.open_;have HZW:Hd (W2.heap.size<=wr.heap.size):=hzw;clear mU HS XO hga Jr hzw;go_upto_region 6 with fail;clear jh;have qbz:Hd (aq W wr):=jN.o _ XQ.o;have XR:Hd (fq fe wr mr fs pM):=FH.o.same _ (qbz.o.block _ FH.o.lt);have CN:=run_range_map (P:=prog) wr 114 _ _ mr _ pM underlying114 XR.o.is_;obtain⟨b0,b1,b2,b3,b4⟩:=dX (nJ.o.below qbz.o).cell;go_upto_region 7 with fail;clear CN b0 b1 b2 b3 b4;obtain⟨W3,fw⟩:=bS (wr.alloc (.mapIter (some mr) pM #[] pM));have TZ:=af (show aq wr W3 by rw[fw];exact bM);have tq:=af (show IterM W3 wr.heap.size mr ([]:List (aM×an×Nat)) pM by rw[fw];exact Qbh wr _);have KY:=af (show W3.heap.size=wr.heap.size+1 by rw[fw];simp);rw[<-fw];clear fw;generalize CN:wr.heap.size=r2 at*;have Aa:=af CN;clear CN;have Tr:K<r2:=by have h1:=(Qaa.1 Gh.o).1;have:=Aa.o;omega
   have Fu:=af Tr;have hgs:CI 86 (λv=>cw (xL ta x.lines.length tc) (xL ga os.length gc) v nx) n1 W3 K r2 mr pM (xL none 0 0) ([]:List (aM×an×Nat)) ([]:List aV) W3:=⟨ai.refl _ _,(TZ.o.block K (by have:=Aa.o;omega)).trans Gh.o,tq.o,aK.nil _ _ _ _⟩;have JD:Hd (CI 86 (λv=>cw (xL ta x.lines.length tc) (xL ga os.length gc) v nx) n1 W3 K r2 mr pM (xL none 0 0) ([]:List (aM×an×Nat)) ([]:List aV) W3/\PX aV.name x.roots fs [] []):=⟨hgs,⟨by simp,by simp,by simp,by simp⟩⟩;have HM3:Hd (fq fe W3 mr fs pM):=XR.o.same _ (TZ.o.block _ (by have:=XR.o.lt;have:=Aa.o;omega));clear hgs;have HKM:=af (show mr≠K/\mr≠r2 by have:=zh.o;omega);generalize XS:fs.length=n2 at*;have Rl:=af XS;clear XS;clear Tr;go_loopg [6,7]n2(λgg _ _ wq=>∃(V2:List (aM×an×Nat))(rs:List aV)(v2:an),gg=n2-V2.length/\Hd (CI 86 (λv=>cw (xL ta x.lines.length tc) (xL ga os.length gc) v nx) n1 W3 K r2 mr pM v2 V2 rs wq/\PX aV.name x.roots fs V2 rs));case atStart=>exact⟨[],[],_,by simp,JD⟩
   case round=>
    obtain⟨V2,rs,v2,rfl,HS⟩:=hrel;rename World=>wq;have XO:=HS.o.1.map HM3.o HKM.o.1 HKM.o.2;rcases XO.step (P:=prog) fe HS.o.1.iter HS.o.2.sub HS.o.2.nod 0 with⟨mU,jh⟩|⟨q,w1,hp,YL,jh,CE,pN,rF,kg,jE⟩;rotate_left
    .have Gb:=iG (es:=fs) pN (λz hz=>by
      rcases Qch.1 hz with hz|hz
      .exact HS.o.2.sub z hz
      .rw[List.mem_singleton.1 hz];exact hp);rw[Qda,List.length_singleton,Rl.o]at Gb;obtain⟨o,ho,e1,e2⟩:=iL.o q hp;have HD:=af (HS.o.1.drawn (V':=V2++[q]) (by have:=Fu.o;omega) (by have:=KY.o;omega) kg CE);have HQ:=af (HS.o.2.more hp pN ho e1);have TX:=af (show rs.length=V2.length by have:=congrArg List.length HS.o.2.ids;simpa using this);have Nv:rs.length<=1000:=by have:=TX.o;omega
     obtain⟨q1,q2,q3⟩:=q;dsimp only at e1 e2 jh jE;subst e1;subst e2;dsimp only[fe]at jh jE;have HRO:=af ho;clear CE pN rF kg hp YL ho;obtain⟨xa,xc,rfl,_,_⟩:=HD.o.acc.open_;have p2:=(ae HD.o.blk).2.2.1;have f2:=ag HD.o.blk 2;have qb0:(rs.length+1)*24<=140737488355328:=by omega
     obtain⟨rn,ri⟩:=o;dsimp only at jh jE;have HDS:Hd (W3.heap.size<=w1.heap.size):=HD.o.only.size;go_wp2_with(at_builtin;refine aW (α:=aV) rfl _ _ _ rfl (Uj n1 K r2) W3.heap.size 86 i1 _ 24 underlying33 NN hy0 RJ QL rfl (by decide) (.slice xa rs.length xc) rs rfl (HD.o.acc.alloc _) (λ_=>True) _ _ (⟨rn,ri⟩:aV) rfl (cD _ _ _ _ rfl trivial) ⟨rfl,XL.o _ HRO.o⟩ (by unfold maxLen;omega) qb0 (by have:=HDS.o;simp;omega) ?_;intro a2 c2 w6 bj dz jz;have XP:=af (HD.o.next (by have:=Fu.o;have:=KY.o;omega) (by have:=KY.o;omega) (by have:=Fu.o;omega) jz bj (c:=2) (λW h=>qc6 h));have TO:K<W3.heap.size:=(by have:=Fu.o;have:=KY.o;omega);have iJ:=(jz.block K TO).trans ((Qcb w1 _ K (by have:=HDS.o;omega)).trans HD.o.blk);have s6:=(ae iJ).2.2.1;have f6:=ag iJ 2;clear bj dz jz iJ);go_roundg(n2-(V2.length+1));case measure=>omega
     case rel=>exact⟨V2++[(rn,xI ri,q3)],rs++[⟨rn,ri⟩],_,by simp,af ⟨XP.o,HQ.o⟩⟩
    .have qb1:Hd (aq W0 wq):=aS (XQ.o.trans (TZ.o.mono (by have:=XQ.o.size;have:=Aa.o;omega))) (by have:=XQ.o.size;have:=KY.o;have:=Aa.o;omega) HS.o.1.only (λi hi=>by
      have h1:=HA.o.new;have h2:=XQ.o.size;have h3:=Aa.o;rcases hi with rfl|rfl<;>omega);have hzq:=HS.o.1.only.size;have qb2:=af (show aq wr W3 by first|exact TZ.o|(rw[Aa.o];exact TZ.o));have Ga:r1<=r2:=by have:=HZW.o;have:=Bq.o;omega
     have qe8:Hd (ab (ZM n1 K r1) wq (xL ta x.lines.length tc) x.lines):=(eF.o.below qb2.o).ev ⟨HS.o.1.only.mono λi hi=>by
      rcases hi with hi|hi
      .exact .inr (.inl hi)
      .right;right;omega,λi hi=> .inl hi⟩;have TU:Hd (∀g,(Value.slice ga os.length gc).ownBlock=some g->W2.heap.size<=g/\g<r2):=λg hg=>by have h1:=UU.o.cJ g hg;rw[Aa.o]at h1;exact h1
     have qe9:Hd (aK (ZM n1 K r2) W2.heap.size 66 wq (xL ga os.length gc) os):=(UU.o.below qb2.o).sT HS.o.1.only (λi hi=>by
      rcases hi with hi|hi
      .exact .inr (.inl hi)
      .right;right;omega) (λg hg hi=>by
      have h1:=TU.o g hg;have h2:=zh.o;have h3:=Bq.o;rcases hi with hi|hi<;>omega);have TN:=af (IJ (ZM n1 K r2) W2.heap.size wq (xL ga os.length gc) os qe9.o (λg hg hi=>by
      have h1:=TU.o g hg;have h2:=zh.o;have h3:=Bq.o;have h4:=HA.o.low.size;have h5:=JC.o;rcases hi with hi|hi|hi
      .have:=Rk.o g hi;omega
      .omega
      .omega) (by
      have h1:=congrArg List.length HGA.o.ids;have h2:=iG (es:=es) HGA.o.nod HGA.o.sub;have h3:=tz.o;simp at h1;omega));have HGR:=af HS.o.2;have XT:=af HS.o.1.blk;have XU:=af HS.o.1.acc;have qb3:=af mU;have HQZ:Hd (W3.heap.size<=wq.heap.size/\r1<=r2):=⟨hzq,Ga⟩;have UZ:=af (show rs.length<1000000 by
      have h1:=congrArg List.length HS.o.2.ids;have h2:=iG (es:=fs) HS.o.2.nod HS.o.2.sub;have h3:=Rl.o;simp at h1;omega);obtain⟨xa,xc,rfl,_,_⟩:=XU.o.open_;have p1:=(ae XT.o).2.1;clear mU HS XO hzq Ga;go_wp2_with fail;go_at_call 89;refine TN.o.mono ?_;rintro e w4⟨rfl,ys,hys,hsy,bI,NS⟩;have hz4:=NS.size;have HKG:Hd (∀g,(Value.slice ga os.length gc).ownBlock=some g->g≠K):=λg hg=>by have:=TU.o g hg;have:=zh.o;have:=Bq.o;omega
     have XV:Hd (bR w4 K (cw (xL ta x.lines.length tc) (xL ga os.length gc) (xL xa rs.length xc) nx)):=(NS.block K (Qaa.1 XT.o).1 (λhi=>HKG.o K hi rfl)).trans XT.o;have Jo:Hd (∀g,(Value.slice xa rs.length xc).ownBlock=some g->W3.heap.size<=g):=λg hg=>(XU.o.cJ g hg).1;have qfa:Hd (aK (orM n1 K) W3.heap.size 86 w4 (xL xa rs.length xc) rs):=XU.o.VW NS (λg hg hi=>by have h1:=Jo.o g hg;have h2:=(TU.o g hi).2;have:=KY.o;omega);have HYS:=af (And.intro hys (And.intro hsy (And.intro bI NS)));have HSR:=af (EP (orM n1 K) W3.heap.size w4 (xL xa rs.length xc) rs qfa.o (λg hg hi=>by
      have h1:=Jo.o g hg;have h2:=Fu.o;have h3:=KY.o;have h4:=XQ.o.size;have h5:=Aa.o;rcases hi with hi|hi
      .have:=Rk.o g hi;omega
      .omega) UZ.o);have p2:=(ae XV.o).2.2.1;clear hys hsy bI NS hz4 p1;go_wp2_with fail;go_at_call 91;refine HSR.o.mono ?_;rintro e w5⟨rfl,zs,hzs,hsz,qfb,zb⟩;have HZS:=af (And.intro hzs (And.intro hsz (And.intro qfb zb)));have qfc:Hd (bR w5 K (cw (xL ta x.lines.length tc) (xL ga os.length gc) (xL xa rs.length xc) nx)):=(zb.block K (Qaa.1 XV.o).1 (λhi=>by have:=Jo.o K hi;have:=Fu.o;have:=KY.o;omega)).trans XV.o;have U0:aq W0 w4:=aS qb1.o qb1.o.size HYS.o.2.2.2 (λi hi=>by have:=TU.o i hi;have:=Bq.o;have:=JC.o;have:=HA.o.low.size;omega);have qb4:Hd (aq W0 w5):=aS U0 U0.size HZS.o.2.2.2 (λi hi=>by have:=Jo.o i hi;have:=KY.o;have:=Aa.o;have:=XQ.o.size;omega);have Nu:Hd (di w5 W (cw (xL none 0 0) (xL none 0 0) (xL none 0 0) 0)):=(qb4.o.block _ (by have:=KP.o;omega)).trans (bW.o.bG rfl);obtain⟨p0,p1,p2',p3⟩:=ae qfc.o;obtain⟨x0,x1,x2,x3⟩:=ae Nu.o;obtain⟨g0,g1,g2,g3⟩:=iK Nu.o;have HEY:Hd (ys=x.objs/\zs=x.roots):=⟨EO N0.o (ks:=V.map (·.1)) ((HMP.o.map (·.1)).nodup_iff.2 zJ.o.keys) (show cL os=V.map (·.1)from HGA.o.ids) HGA.o.mem (λo ho=>(HMP.o.map (·.1)).mem_iff.2 (NX.o o ho)) HYS.o.1 HYS.o.2.1,Ca Gc.o (ks:=V2.map (·.1)) ((qb3.o.map (·.1)).nodup_iff.2 HM3.o.keys) HGR.o.ids HGR.o.mem (λo ho=>(qb3.o.map (·.1)).mem_iff.2 (RD.o o ho)) hzs hsz⟩;have pH:Hd (∀W',W'=((((w5.setCell ⟨W.heap.size,0,none⟩ (xL ta x.lines.length tc)).setCell ⟨W.heap.size,1,none⟩ (xL ga os.length gc)).setCell ⟨W.heap.size,2,none⟩ (xL xa rs.length xc)).setCell ⟨W.heap.size,3,none⟩ (xI nx))->(∃lv ov rv,Value.agg #[xL ta x.lines.length tc,xL ga os.length gc,xL xa rs.length xc,xI nx]= .agg #[lv,ov,rv,xI nx]/\ab N W' lv x.lines/\ab N W' ov x.objs/\ab N W' rv x.roots)/\aq W W'):=λW' gU=>by
      have ho:ai (λi=>i=W.heap.size) w5 W':=by
       rw[gU];exact((((ai.refl (λi=>i=W.heap.size) w5).setCell (p:=⟨W.heap.size,0,none⟩) (.inl rfl) _).setCell (p:=⟨W.heap.size,1,none⟩) (.inl rfl) _).setCell (p:=⟨W.heap.size,2,none⟩) (.inl rfl) _).setCell (p:=⟨W.heap.size,3,none⟩) (.inl rfl) _
      have hn:∀i,i=W.heap.size->n1 i:=λi hi=>by rw[vP.o];exact .inr hi
      have hN:∀i,N i->n1 i:=λi hi=>by rw[vP.o];exact .inl hi
      obtain⟨e1,e2⟩:=HEY.o;have h3:=KY.o;have h2:=Bq.o;have h4:=HQZ.o;have k4:=HYS.o.2.2.2;have k5:=HZS.o.2.2.2;have kl:ab N W' (xL ta x.lines.length tc) x.lines:=qe8.o.ev ⟨((k4.mono λi hi=> .inr (.inr (by have:=TU.o i hi;omega))).trans (k5.mono λi hi=> .inr (.inr (by have:=Jo.o i hi;omega)))).trans (ho.mono λi hi=> .inl (hn i hi)),λi hi=> .inl (.inl (hN i hi))⟩;have ko:ab N W' (xL ga os.length gc) ys:=HYS.o.2.2.1.ev ⟨(k5.mono λi hi=> .inr (.inr (by have:=Jo.o i hi;omega))).trans (ho.mono λi hi=> .inl (hn i hi)),λi hi=> .inl (.inl (hN i hi))⟩;have kr:ab N W' (xL xa rs.length xc) zs:=HZS.o.2.2.1.ev ⟨ho.mono λi hi=> .inl (hn i hi),λi hi=> .inl (.inl (hN i hi))⟩;rw[e1]at ko;rw[e2]at kr;have jg:aq W w5:=jN.o _ qb4.o;exact⟨⟨_,_,_,rfl,kl,ko,kr⟩,aS jg jg.size ho (λi hi=>by have hi:i=W.heap.size:=hi;omega)⟩
     clear hzs hsz qfb zb p2 U0;go_wp2_with fail;exact Qae (v:= .agg #[xL ta x.lines.length tc,xL ga os.length gc,xL xa rs.length xc,xI nx]) (by simp[results,results38,go_sem,x0,x1,x2,x3,g0,g1,g2,g3]) rfl ⟨_,rfl,pH.o _ rfl⟩
def E3(x:aX)(h:gi x)(M:aN)(w:aj)(hM:Bd M w)(hG:Gd w)(lv ov rv:an)(ja:ab M w lv x.lines)(kq:ab M w ov x.objs)(iM:ab M w rv x.roots):
 xC 31 #[.agg #[lv,ov,rv,xI x.next]] w (cr (xI 0) w):=by
 have HS:=af (yq x h M (w.alloc (cw lv ov rv x.next)) (λi hi=>Qde (hM i hi) (by simp)) (hG.below bM) lv ov rv (ja.below bM) (kq.below bM) (iM.below bM));have bW:=af (Bx.eD w (cw lv ov rv x.next));obtain⟨la,lc,rfl,_⟩:=ja.open_;obtain⟨oa,oc,rfl,_⟩:=kq.open_;obtain⟨ra,rc,rfl,_⟩:=iM.open_;clear ja kq iM hM hG h;generalize x.next=nx at*;generalize x.lines.length=m1 at*;generalize x.objs.length=m2 at*;generalize x.roots.length=m3 at*;go_enter func31,ntmps31;go_upto_region 1 with fail;obtain⟨W1,bT⟩:=bS (w.alloc (cw (xL la m1 lc) (xL oa m2 oc) (xL ra m3 rc) nx));rw[<-bT]at bW HS;unfold cw at bT;rw[<-bT];clear bT;obtain⟨a0,a1,a2,a3⟩:=ae (bW.o.bG rfl);go_wp2_with fail;go_at_call 21;refine HS.o.mono ?_;rintro e w2⟨_,rfl,⟨lt,pm,rfl,hg⟩,hb⟩;obtain⟨ls,Gi,-⟩:=hg.late;obtain⟨za,zc,rfl,_⟩:=Gi.open_;have HF:=af (bW.o.below hb);clear hg Gi hb a0 a1 a2 a3;go_wp2;go_ret;exact⟨rfl,HF.o.1.alloc HF.o.1.size _⟩
def Kn(x:aX)(r:eW)(y:aX):Prop:=∃F:Nat,((r.kind=1/\F=33)\/(r.kind=2/\F=34)\/(r.kind=3/\F=35))/\
 ∀(M:aN)(w0 W:aj),Bd M w0->Gd w0->aq w0 W->∀B p b mo mr:Nat,Cb w0 B p b mo mr->∀sv vv fv:an,cP x (kX M B b mo mr) B p b mo mr sv W->ab M w0 vv r.obj.aR->ab M w0 fv r.cls.fields->
  xC F #[xP B,zC r vv fv] W λe w'=>e=xR (xI 0)/\cP y (kX M B b mo mr) B p b mo mr sv w'/\ai (Uh B b mo mr) W w'
inductive kT:aX->List eW->aX->Prop
 |nil(x:aX):kT x [] x
 |cons {x y z:aX}{r:eW}{l:List eW}:Kn x r y->kT y l z->kT x (r::l) z
def PZ {x:aX}(hx:dK x.lines){r:eW}{v:Nat}{l:aH}(hk:r.kind=1)(ho:iS x.lines 100000 r.obj k v l)(hid:1<=r.obj.id/\r.obj.id<=100000)(tJ:1<=x.next/\x.next<=100001):Kn x r ⟨x.lines,qA x.objs r.obj,x.roots,ES x.next (r.obj.id+1)⟩:=
 ⟨_, .inl ⟨hk,rfl⟩,λM w0 W hM hG hb B p b mo mr hC sv vv fv hB hv hf=>VV x hx r k v l ho hid tJ M w0 W hM hG hb B p b mo mr hC sv vv fv hB hv (by obtain⟨a,c,e,_⟩:=hf.open_;exact⟨_,_,_,e⟩)⟩
def MD {x:aX}{r:eW}(hk:r.kind=2)(hn:aB r.name=true/\r.name.size<=maxLen)(hid:1<=r.id/\r.id<=100000):Kn x r ⟨x.lines,x.objs,sM x.roots ⟨r.name,r.id⟩,x.next⟩:=
 ⟨_, .inr (.inl ⟨hk,rfl⟩),λM w0 W hM hG hb B p b mo mr hC sv vv fv hB hv hf=>SQ x r hn hid M w0 W hb B p b mo mr hC sv vv fv hB (by obtain⟨a,c,e,_⟩:=hv.open_;exact⟨_,_,_,e⟩) (by obtain⟨a,c,e,_⟩:=hf.open_;exact⟨_,_,_,e⟩)⟩
abbrev yt(r:eW)(vv fv:an):List an:=[xI r.kind,xI r.obj.id,xI r.obj.cls,xI r.obj.ver,vv,xI r.id,xI r.ver,xS r.name,xS r.cls.name,fv,xI r.chg.kind,xS r.chg.field,xS r.chg.name,xS r.chg.more,xI r.chg.type.kind,xI r.chg.type.of,xS r.chg.expr,xS r.chg.other]
def Cd {l:List eW}(h:ab M w v l){r:eW}(hr:l[i]? =some r):∃b off cap vv fv,v=xL (some ⟨b,off,none⟩) l.length cap/\ab M w vv r.obj.aR/\ab M w fv r.cls.fields/\∀W,aq w W->W.rangeAt b (off+i*18) (yt r vv fv):=by
 obtain⟨a,cap,rfl,hl,_,hc⟩:=h.open_;have hk:=(Qad.1 hr).1;obtain⟨b,off,rfl,_,hb,aL⟩:=hc (by omega);obtain⟨cs,⟨vv,fv,rfl,hs,hf,_⟩,bJ⟩:=aL i _ hr;refine⟨b,off,cap,vv,fv,rfl,hs,hf,λW hB j u hu=> ?_⟩;exact(hB.cell (p:=⟨b,off+i*18+j,none⟩) hb).trans (bJ j u hu)
def E4:(Tryz.prog.info? 75).map (·.size)=some 18:=by kernel_rfl
def nV {ops:Array Oper}{rest:List Oper}{op:Oper}{a:Act}{Q:Exit->Act->aj->Prop}(hw:Region.wanted op (yielded ops a.tmps)=true)(x:Operand)(ho:op.op= .load 75 x)(b o:Nat)(hx:a.eval x= .pointer (some ⟨b,o,none⟩)){r:eW}{vv:an}(h:w.rangeAt b o (yt r vv fv))
 (hk:wpList prog ops Q rest (a.put op.dst (zC r vv fv)) w):wpList prog ops Q (op::rest) a w:=
 wpList_step λK hK=>by rw[if_pos hw];exact wp_load_mid 75 x ho b o hx _ _ h underlying75 rfl E4 (hK _ _ hk)
def ME {r:eW}{vv:an}(h:bR W g (og r vv fv)):W.rangeAt g 0 (yt r vv fv):=λj v hv=>by
 rw[Nat.zero_add];unfold og at h;simp only[World.cell?,h];simpa using hv
abbrev yu(f B:Nat):an:= .func (.func f) #[xP B] #[]
def rj(w:aj)(b B:Nat):Prop:=∃es clk,bD dC w b es clk/\
 aZ es 1=some (yu 33 B)/\aZ es 2=some (yu 34 B)/\aZ es 3=some (yu 35 B)
theorem rj.same(h:rj w b B)(hb:w'.heap[b]? =w.heap[b]?):rj w' b B:=by
 obtain⟨es,clk,h1,h2⟩:=h;exact⟨es,clk,hb.trans h1,h2⟩
theorem rj.look(h:rj w b B){r:eW}{F:Nat}(hk:(r.kind=1/\F=33)\/(r.kind=2/\F=34)\/(r.kind=3/\F=35)):(Instr.lookup 122 (.map (some b)) (xI r.kind) true).run prog w= .ok (.tuple #[yu F B,xB true]) w:=by
 obtain⟨es,clk,h1,h2,h3,h4⟩:=h;rcases hk with⟨e1,rfl⟩|⟨e1,rfl⟩|⟨e1,rfl⟩;all_goals rw[e1]
 .exact bD.Er dC underlying122 dW ey h1 1 _ h2
 .exact bD.Er dC underlying122 dW ey h1 2 _ h3
 .exact bD.Er dC underlying122 dW ey h1 3 _ h4
def sU {es:List (Int×an×Nat)}(h:bD dC w b es clk)(x:Int)(v:an)(hv:aZ es x=none):∃w',(Instr.mapUpdate 122 (.map (some b)) (xI x) v).run prog w= .ok () w'/\bD dC w' b (es++[(x,v,clk)]) (clk+1)/\ai (λi=>i=b) w w':=by
 obtain⟨h1,h2⟩:=bD.insert dC (.int .i64) oY (P:=prog) underlying122 underlying3 ey h x v hv;exact⟨_,h1,h2,(ai.refl (λi=>i=b) w).putObj (.inl rfl) _⟩
structure VY(x z:aX)(M:aN)(recs:List eW)(w4:aj)(bw B p b mo mr:Nat)(sv:an)(i:Nat)(wr:aj):Prop where
 st:∃y,kT y (recs.drop i) z/\cP y (kX M B b mo mr) B p b mo mr sv wr
 only:ai (Uh B b mo mr) w4 wr
 ways:rj wr bw B
def SR {y z:aX}{recs:List eW}(h:kT y (recs.drop i) z){r:eW}(hr:recs[i]? =some r):∃y',Kn y r y'/\kT y' (recs.drop (i+1)) z:=by
 have hi:=(Qad.1 hr).1;rw[List.drop_eq_getElem_cons hi]at h;have:recs[i]=r:=(Qad.1 hr).2;rw[this]at h;cases h with
 |cons h1 h2=>exact⟨_,h1,h2⟩
def P2 {y z:aX}{recs:List eW}(h:kT y (recs.drop i) z)(hi:recs.length<=i):y=z:=by
 rw[List.drop_eq_nil_of_le hi]at h;cases h;rfl
def A5(x z:aX)(hx:gi x)(hz:gi z)(recs:List eW)(hd:kT x recs z)(hn:recs.length<=1000)(M:aN)(w:aj)(hM:Bd M w)(hG:Gd w)(lv ov rv qv:an)(ja:ab M w lv x.lines)(kq:ab M w ov x.objs)(iM:ab M w rv x.roots)(hqv:ab M w qv recs):
 xG 10 #[.agg #[lv,ov,rv,xI x.next],qv] w λu w'=>∃UI UJ UK,u= .tuple #[.agg #[UI,UJ,UK,xI z.next],xI (recs.length:Int),xI 0]/\ab M w' UI z.lines/\ab M w' UJ z.objs/\ab M w' UK z.roots:=by
 have FW:=gG (w:=w) (λW hb=>E3 x hx M W (hM.below hb) (hG.below hb) lv ov rv (ja.below hb) (kq.below hb) (iM.below hb));obtain⟨M1,Rm⟩:∃M1:aN,M1=(λi=>M i\/i=w.heap.size+1):=⟨_,rfl⟩;have hMM:∀i,M1 i->M i\/w.heap.size<=i:=λi hi=>by
  rw[Rm]at hi;exact hi.imp_right λe=>by omega
 have CY:Hd (∀W,aq w W->w.heap.size+2<=W.heap.size->Bd M1 W):=λW hb hz i hi=>by
  rw[Rm]at hi;rcases hi with hi|hi
  .have:=hM i hi;omega
  .omega
 have hE:∀W,aq w W->Ev M w M1 W:=λW hb=>⟨ai.ao hb,hMM⟩;have HLY:Hd (∀W,aq w W->w.heap.size+2<=W.heap.size->_):=λW hb hz=>VU x hx.rise hx.AN (by have:=hx.len;omega) (by have:=hx.rlen;omega) M1 W (CY.o W hb hz) lv ov rv (ja.ev (hE W hb)) (kq.ev (hE W hb)) (iM.ev (hE W hb));have zf:Hd (∀W,aq w W->∀i r,recs[i]? =some r->_):=λW hb i r hr=>Cd (hqv.ev (hE W hb)) hr;have zJ:=af Rm;clear hE hMM Rm;have HZ:=af hz;have HX:=af hx;have HD:=af hd;have HM:=af hM;have HG:=af hG;obtain⟨la,lc,rfl,-⟩:=ja.open_;obtain⟨oa,oc,rfl,-⟩:=kq.open_;obtain⟨ra,rc,rfl,-⟩:=iM.open_;obtain⟨qa,qc,rfl,T2,XW,-⟩:=hqv.open_;clear ja kq iM hM hG hx hz hd hqv;generalize tJ:x.next=nx at*;generalize rF:x.lines.length=m1 at*;generalize CR:x.objs.length=m2 at*;generalize Ns:x.roots.length=m3 at*;generalize yU:recs.length=n at*;have uK:=af tJ;clear tJ;have zK:=af rF;clear rF;have lK:=af CR;clear CR;have HA3:=af Ns;clear Ns;have tz:=af yU;clear yU;have bW:=af (Bx.dq w (cw (xL la m1 lc) (xL oa m2 oc) (xL ra m3 rc) nx) (cw (xL none 0 0) (xL none 0 0) (xL none 0 0) 0));go_enter func10,ntmps10;go_upto_region 1 with fail;obtain⟨W1,bT⟩:=bS ((w.alloc (cw (xL la m1 lc) (xL oa m2 oc) (xL ra m3 rc) nx)).alloc (cw (xL none 0 0) (xL none 0 0) (xL none 0 0) 0));rw[<-bT]at bW;unfold cw at bT;rw[<-bT];clear bT;obtain⟨a0,a1,a2,a3⟩:=ae (bW.o.bG rfl);go_wp2_with fail;go_at_call 31;refine bY (FW.o _ bW.o.1) λw2 bC=> ?_;have aQ:=af (bW.o.below bC);clear bC a0 a1 a2 a3;obtain⟨a0,a1,a2,a3⟩:=ae (aQ.o.bG rfl);go_wp2_with fail;go_at_call 32;refine(HLY.o _ aQ.o.1 aQ.o.bF).mono ?_;rintro e w3⟨B,p,b,mo,mr,rfl,hC,hB,bP⟩;have HC:=af hC;clear hC;have HB:=af hB;clear hB;have bO:=af bP;clear bP;clear a0 a1 a2 a3;have h0:bD dC (w3.alloc (.map #[] 0)) w3.heap.size [] 0:=(MapKept.heap_alloc w3 _).1;obtain⟨w0,uF⟩:=bS (w3.alloc (.map #[] 0));rw[<-uF]at h0;obtain⟨y1,e1,h1,o1⟩:=sU h0 1 (yu 33 B) rfl;obtain⟨y2,e2,h2,o2⟩:=sU h1 2 (yu 34 B) rfl;obtain⟨y3,e3,h3,o3⟩:=sU h2 3 (yu 35 B) rfl;obtain⟨y4,e4,h4,o4⟩:=sU h3 4 (yu 36 B) rfl;obtain⟨y5,e5,h5,o5⟩:=sU h4 5 (yu 37 B) rfl;have HO:Hd (aq w3 y5):=((((ai.refl xF w3).alloc (.map #[] 0)).cO (uF▸((((o1.trans o2).trans o3).trans o4).trans o5)) (λi hi bu=>by subst hi;omega)).below);have HWY:Hd (rj y5 w3.heap.size B):=⟨_,_,h5,rfl,rfl,rfl⟩;clear h0 h1 h2 h3 h4 h5 o1 o2 o3 o4 o5;unfold yu at e1 e2 e3 e4 e5;have CA:∀(fn:Fn)(first cap:Array an)(w:aj),(Instr.makeFunc fn first cap).run prog w= .ok (.func fn first cap) w:=λ_ _ _ _=>rfl;have wj:=eQ 122 w3;rw[<-uF]at wj;clear uF;go_upto_region 7 with fail;clear wj e1 e2 e3 e4 e5;have ow:=af ((HB.o).book.lt);have fJ:VY x z M1 recs y5 w3.heap.size B p b mo mr (xL la m1 lc) 0 y5:=⟨⟨x,by rw[List.drop_zero];exact HD.o,HB.o.below HO.o⟩,ai.refl _ _,HWY.o⟩;have gM:=af fJ;clear fJ;have HWS:=af (show w3.heap.size<y5.heap.size/\B<w3.heap.size/\p<w3.heap.size/\b<w3.heap.size/\mo<w3.heap.size/\mr<w3.heap.size by
  obtain⟨es,clk,h1,-⟩:=HWY.o;exact⟨(Qaa.1 h1).1,(Qaa.1 HB.o.cell).1,ow.o.1,ow.o.2,HB.o.objs.lt,HB.o.roots.lt⟩);have kK:Hd (aq w2 y5):=bO.o.trans (HO.o.mono bO.o.size);generalize RR:w3.heap.size=bw at*;have tp:=af RR;clear RR;go_loopg [5,6,10,11,12,13,14,39]n(λgg _ _ _ _ _ _ _ iv wr=>∃i:Nat,gg=n-i/\i<=n/\iv=xI i/\Hd (VY x z M1 recs y5 bw B p b mo mr (xL la m1 lc) i wr));case atStart=>exact⟨0,rfl,Qbf _,rfl,gM⟩
 case round=>
  obtain⟨i,rfl,hi,rfl,HS⟩:=hrel;rename World=>wr;have Ab:Hd (aq w2 wr):=HC.o.below kK.o HS.o.only;by_cases bu:i<n
  .obtain⟨r,hr⟩:=eB recs i (by have:=tz.o;omega);obtain⟨b1,off,cap,vv,fv,C2,kZ,Nk,JE⟩:=zf.o w2 aQ.o.1 i r hr;obtain⟨rfl,rfl⟩:=iB C2;obtain⟨y,R5,y9⟩:=HS.o.st;obtain⟨y',⟨F,hF,Ng⟩,qfd⟩:=SR R5 hr;obtain⟨va,vc,rfl,-⟩:=kZ.open_;obtain⟨fa,fc,rfl,-⟩:=Nk.open_;have NB:=af (JE wr Ab.o);have HVV:=af kZ;have HFV:=af Nk;have KF:=af Ng;have HDO:=af qfd;have nJ:=af y9;have HF:=af hF;clear C2 kZ Nk JE R5 y9 hF Ng qfd hr;have HDS:=gG (w:=wr) (λW hb=>KF.o M1 w2 W (CY.o _ aQ.o.1 aQ.o.bF) (HG.o.below aQ.o.1) (Ab.o.trans (hb.mono Ab.o.size)) B p b mo mr HC.o _ _ _ (nJ.o.below hb) HVV.o HFV.o);have HWL:=gG (w:=wr) (λW hb=>(HS.o.ways.same (hb.block _ (by have:=HS.o.only.size;have:=HWS.o;omega))).look HF.o);have hF:=HF.o;clear HF KF nJ HVV HFV;go_upto_region 8 with fail;go_upto_region 9 with(refine nV rfl (.tmp 42) rfl b1 (off+i*18) rfl NB.o ?_);obtain⟨W5,nM⟩:=bS (wr.alloc (og r (xL va r.obj.aR.length vc) (xL fa r.cls.fields.length fc)));have oq:=af (show di W5 wr (og r (xL va r.obj.aR.length vc) (xL fa r.cls.fields.length fc))by rw[nM];exact Qbh wr _);have tp:=af (show aq wr W5 by rw[nM];exact bM);unfold og at nM;rw[<-nM];clear nM;have qq:=HWL.o _ tp.o;have c0:=(gD oq.o).1;have HD5:=af (HDS.o _ tp.o);clear HDS HWL NB;dsimp only[yu]at qq;rcases hF with⟨-,rfl⟩|⟨-,rfl⟩|⟨-,rfl⟩;all_goals
    go_wp2_with(refine nV rfl (.tmp 11) rfl wr.heap.size 0 rfl (ME oq.o) ?_);refine(HD5.o).mono ?_;rintro e w6⟨rfl,qfe,Xw⟩;have vw:Hd (VY x z M1 recs y5 bw B p b mo mr (xL la m1 lc) (i+1) w6):=⟨⟨y',HDO.o,qfe⟩,(HS.o.only.trans (ai.ao tp.o)).trans Xw,HS.o.ways.same ((Xw.block bw (by have:=tp.o.size;have:=HS.o.only.size;have:=HWS.o;omega) (λhi=>by have:=HWS.o;rcases hi with hi|hi|hi|hi<;>omega)).trans (tp.o.block bw (by have:=HS.o.only.size;have:=HWS.o;omega)))⟩;clear qfe Xw qq c0;go_wp2;go_roundg(n-(i+1));case measure=>omega
    case rel=>exact⟨i+1,rfl,by omega,by go_num,vw⟩
  .have kp:n<=i:=by omega
   obtain⟨y,R5,y9⟩:=HS.o.st;obtain rfl:=P2 R5 (by have:=tz.o;omega);have nJ:=af y9;have KM:=af (HC.o.bd nJ.o Ab.o (CY.o _ aQ.o.1 aQ.o.bF));have HWD:=af (MC y HZ.o.sch HZ.o.rise HZ.o.AN (by have:=HZ.o.len;omega) (by have:=HZ.o.rlen;omega) (λo ho=>by
    obtain⟨j,hj⟩:=List.getElem?_of_mem ho;exact(HZ.o.objs j o hj).2.2) (λr hr=>by have:=(HZ.o.oV r hr).2;unfold maxLen;omega) _ wr KM.o B p b mo mr _ nJ.o);obtain rfl:i=n:=by omega
   clear R5 y9 kp;generalize qff:y.next=U1 at*;have HZN:=af qff;clear qff;go_wp2_with fail;go_at_call 38;refine HWD.o.mono ?_;rintro e w7⟨_,rfl,⟨l7,o7,r7,rfl,hl7,Jl,YF⟩,iJ⟩;have HCZ:Hd (∀W,aq w7 W->xC 31 #[.agg #[l7,o7,r7,xI U1]] W (cr (xI 0) W)):=λW hb=>by
    have h:=E3 y HZ.o _ W (λk hk=>Qde (KM.o k hk) (Qcg iJ.size hb.size)) ((HG.o.below aQ.o.1).below (((Ab.o.trans (iJ.mono Ab.o.size)).trans (hb.mono (Qcg Ab.o.size iJ.size))))) l7 o7 r7 (hl7.below hb) (Jl.below hb) (YF.below hb);rw[HZN.o]at h;exact h
   have pJ:Hd (aq w2 w7):=Ab.o.trans (iJ.mono Ab.o.size);have Ur:=af (And.intro hl7 (And.intro Jl YF));obtain⟨YZ,Y0,rfl,-⟩:=hl7.open_;obtain⟨Y1,Y2,rfl,-⟩:=Jl.open_;obtain⟨Y3,Y4,rfl,-⟩:=YF.open_;clear hl7 Jl YF iJ;go_upto_region 17 with fail;obtain⟨W8,KT⟩:=bS (w7.alloc (cw (xL YZ y.lines.length Y0) (xL Y1 y.objs.length Y2) (xL Y3 y.roots.length Y4) U1));have HB8:=af (show aq w7 W8 by rw[KT];exact bM);have Rn:=af (show di W8 w7 (cw (xL YZ y.lines.length Y0) (xL Y1 y.objs.length Y2) (xL Y3 y.roots.length Y4) U1)by rw[KT];exact Qbh w7 _);unfold cw at KT;rw[<-KT];clear KT;obtain⟨a0,a1,a2,a3⟩:=ae Rn.o;have UQ:=af (HCZ.o _ HB8.o);go_wp2_with fail;go_at_call 31;refine UQ.o.mono ?_;rintro e w9⟨rfl,vR⟩;have FF:Hd (di w9 w7 (cw (xL YZ y.lines.length Y0) (xL Y1 y.objs.length Y2) (xL Y3 y.roots.length Y4) U1)):=(vR.block _ (Qaa.1 Rn.o).1).trans Rn.o;have FK:Hd (aq w7 w9):=HB8.o.trans (vR.mono HB8.o.size);have uB:=af ((aQ.o.below pJ.o).below FK.o);clear a0 a1 a2 a3 vR;obtain⟨a0,a1,a2,a3⟩:=ae FF.o;obtain⟨x0,x1,x2,x3⟩:=ae (uB.o.bU rfl);obtain⟨g0,g1,g2,g3⟩:=iK (uB.o.bU rfl);have pH:Hd (∀W',W'=((((w9.setCell ⟨w.heap.size+1,0,none⟩ (xL YZ y.lines.length Y0)).setCell ⟨w.heap.size+1,1,none⟩ (xL Y1 y.objs.length Y2)).setCell ⟨w.heap.size+1,2,none⟩ (xL Y3 y.roots.length Y4)).setCell ⟨w.heap.size+1,3,none⟩ (xI U1))->(∃UI UJ UK,Value.tuple #[.agg #[xL YZ y.lines.length Y0,xL Y1 y.objs.length Y2,xL Y3 y.roots.length Y4,xI U1],xI (i:Int),xI 0]= .tuple #[.agg #[UI,UJ,UK,xI U1],xI (i:Int),xI 0]/\ab M W' UI y.lines/\ab M W' UJ y.objs/\ab M W' UK y.roots)/\aq w W'):=λW' gU=>by
    have ho:ai (λi=>i=w.heap.size+1) w9 W':=by
     rw[gU];exact((((ai.refl (λi=>i=w.heap.size+1) w9).setCell (p:=⟨w.heap.size+1,0,none⟩) (.inl rfl) _).setCell (p:=⟨w.heap.size+1,1,none⟩) (.inl rfl) _).setCell (p:=⟨w.heap.size+1,2,none⟩) (.inl rfl) _).setCell (p:=⟨w.heap.size+1,3,none⟩) (.inl rfl) _
    have hE:Ev (kX M1 B b mo mr) w9 M W':=⟨ho.mono λk hk=> .inl (by rw[zJ.o];exact .inr hk),λk hk=> .inl (.inl (by rw[zJ.o];exact .inl hk))⟩;obtain⟨k1,k2,k3⟩:=Ur.o;exact⟨⟨_,_,_,rfl,(k1.below FK.o).ev hE,(k2.below FK.o).ev hE,(k3.below FK.o).ev hE⟩,aS uB.o.1 uB.o.1.size ho (λk hk=>by have hk:k=w.heap.size+1:=hk;omega)⟩
   go_wp2_with fail;exact Qae (v:= .tuple #[.agg #[xL YZ y.lines.length Y0,xL Y1 y.objs.length Y2,xL Y3 y.roots.length Y4,xI U1],xI (i:Int),xI 0]) (by simp[results,results10,go_sem,x0,x1,x2,x3,g0,g1,g2,g3]) rfl ⟨_,rfl,by rw[HZN.o];exact pH.o _ rfl⟩
def Cj(n:Int):List PanicEntry:=[{v:= .iface 99 (.agg #[xI n]),recovered:=false}]
def qh(w:aj):xC 26 #[xI 0] w λe w'=>e=xR (.tuple #[])/\w'=w:=by
 go_enter func26,ntmps26;go_wp2_with fail;exact bodyPost_end (by simp[results,results26,go_sem]) rfl ⟨rfl,rfl⟩
def MH(n:Int)(hn:n≠0)(w:aj):xC 26 #[xI n] w λe w'=>e= .panicked (Cj n)/\w'=w:=by
 unfold Cj;go_enter func26,ntmps26;go_wp2_with fail;exact⟨rfl,rfl,rfl⟩
def kI(n:Int)(w:aj):xC 63 #[xB true,xI n] w λe w'=>e=xR (.tuple #[])/\w'=w:=by
 go_enter func63,ntmps63;go_wp2_with fail;exact bodyPost_end (by simp[results,results63,go_sem]) rfl ⟨rfl,rfl⟩
def A7(n:Int)(w:aj):xC 63 #[xB false,xI n] w λe w'=>e= .panicked (Cj n)/\w'=w:=by
 unfold Cj;go_enter func63,ntmps63;go_wp2_with fail;exact⟨rfl,rfl,rfl⟩
def gj {α:Type} [DecidableEq α](K:α->an)(w:aj)(b:Nat)(S:List α):Prop:=∃es clk,fq K w b es clk/\(∀p∈es,p.2.1=xB true)/\∀n,n∈es.map (·.1)↔n∈S
section
variable {α:Type} [DecidableEq α]{K:α->an}{w w':aj}{b:Nat}{S:List α}{kt mt:TypeId}
theorem gj.lt(h:gj K w b S):b<w.heap.size:=by obtain⟨es,clk,h1,_⟩:=h;exact h1.lt
theorem gj.same(h:gj K w b S)(hb:w'.heap[b]? =w.heap[b]?):gj K w' b S:=by
 obtain⟨es,clk,h1,h2⟩:=h;exact⟨es,clk,h1.same _ hb,h2⟩
theorem gj.at_(h:bR w b (.map #[] 0)):gj K w b []:=⟨[],0,⟨h,by simp,by simp,by simp⟩,by simp,by simp⟩
theorem gj.look(h:gj K w b S)(hm:Tryz.prog.underlying mt=some (.map kt 4))(hF:lS K prog kt)(hchk:∀(e:Bool)(x:α)(w:aj),(Instr.checkKey e 10000 kt (K x)).run prog w= .ok () w)(n:α)(hn:n∈S):(Instr.lookup mt (.map (some b)) (K n) false).run prog w= .ok (.bool true) w:=by
 obtain⟨es,clk,h1,h2,h3⟩:=h;cases hv:aZ es n with
 |none=>exact absurd ((h3 n).2 hn) (dH.1 hv)
 |some v=>
  obtain⟨p,hp,_,e⟩:=mI hv;rw[h2 p hp]at e;subst e;exact bD.ye K hm hF hchk h1.is_ n _ hv
theorem gj.SB(h:gj K w b S)(hm:Tryz.prog.underlying mt=some (.map kt 4))(hF:lS K prog kt)(hchk:∀(e:Bool)(x:α)(w:aj),(Instr.checkKey e 10000 kt (K x)).run prog w= .ok () w)(n:α)(hn:n∉S):(Instr.lookup mt (.map (some b)) (K n) false).run prog w= .ok (.bool false) w:=by
 obtain⟨es,clk,h1,h2,h3⟩:=h;have hz:(zeroValue 4).run prog w= .ok (xB false) w:=by kernel_rfl
 have hf:=hF n es w;have hv:aZ es n=none:=dH.2 (λhh=>hn ((h3 n).1 hh));simp only[Instr.lookup,Sem.run_bind,run_underlying hm,Result.andThen_ok,MapKept.run_getObj_map h1.is_,Sem.run_pure,hchk];rw[hf];have h2:=eO n es;rw[hv]at h2;cases hq:es.findIdx? λp=>decide (n=p.1)with
 |some j=>rw[hq]at h2;cases h2
 |none=>simp[hz]
theorem gj.put(h:gj K w b S)(hm:Tryz.prog.underlying mt=some (.map kt 4))(hF:lS K prog kt)(hchk:∀(e:Bool)(x:α)(w:aj),(Instr.checkKey e 10000 kt (K x)).run prog w= .ok () w)(fJ:∀x w,(Instr.keyThatStays (K x) (K x)).run prog w= .ok (K x) w)(n:α):∃w',(Instr.mapUpdate mt (.map (some b)) (K n) (.bool true)).run prog w= .ok () w'/\gj K w' b (S++[n])/\ai (λi=>i=b) w w':=by
 obtain⟨es,clk,h1,h2,h3⟩:=h;obtain⟨w',TM,Jw,k1,k2,k3,_,k5⟩:=fq.put (K:=K) (P:=prog) hm hF hchk fJ h1 n (xB true);refine⟨w',k1,⟨TM,Jw,k2,λp hp=> ?_,λq=> ?_⟩,k5⟩
 .have e:=mH k2.keys hp;rw[k3]at e;by_cases We:p.1=n
  .rw[if_pos We]at e;exact(Option.some.inj e).symm
  .rw[if_neg We]at e;obtain⟨q,hq,_,e2⟩:=mI e;rw[<-e2];exact h2 q hq
 .have e:=k3 q;rw[Qch,List.mem_singleton,<-h3 q];by_cases TF:q=n
  .rw[if_pos TF]at e;refine⟨λ_=> .inr TF,λ_=> ?_⟩;refine Classical.byContradiction λhh=> ?_;rw[dH.2 hh]at e;cases e
  .rw[if_neg TF]at e;refine⟨λhh=> .inl (Classical.byContradiction λhn=> ?_),λhh=>Classical.byContradiction λhn=> ?_⟩
   .rw[dH.2 hn]at e;exact dH.1 e hh
   .rw[dH.2 hn]at e;rcases hh with hh|hh
    .exact dH.1 e.symm hh
    .exact TF hh
end
instance:au aM where
 size:=1
 rep:=λ_ _ cs x=>cs=[xS x]
 len:=λh=>by rw[h];rfl
 flat:=λh u hu=>by rw[h]at hu;simp at hu;subst hu;rfl
 ev:=λh _=>h
structure oh where
 sch:List aH
 next:Int
 reach:List Int
 news:Int
 made:Int
 objs:List bE
 roots:List aV
 defs:List eW
 reads:List aM
structure tB where
 T:Nat
 rb:Nat
 mo:Nat
 ml:Nat
 mr:Nat
 ms:Nat
 sb:Nat
 ov:an
 rv:an
def E6(p:tB)(sv:an)(next news made:Int)(dv kv:an):Obj:=xK #[sv,p.ov,p.rv,xI next, .map (some p.rb),xI news,xI made, .map (some p.mo), .map (some p.ml), .map (some p.mr), .map (some p.ms),dv,kv, .map (some p.sb)] 117
def lI(p:tB):Nat->Prop:=λi=>i=p.T\/i=p.rb\/i=p.mo\/i=p.ml\/i=p.mr\/i=p.ms\/i=p.sb
def Ck(p:tB)(z:Nat):Nat->Prop:=λi=>lI p i\/z<=i
def qD(M:aN)(p:tB):Nat->Prop:=λi=>M i\/lI p i
structure IU(M:aN)(z:Nat)(p:tB):Prop where
 lt:∀i,lI p i->i<z
 far:∀i,M i->i<z
 apart:[p.T,p.rb,p.mo,p.ml,p.mr,p.ms,p.sb].Nodup
structure lV(x:oh)(M:aN)(z:Nat)(p:tB)(W:aj):Prop where
 st:∃sv dv kv,W.heap[p.T]? =some (E6 p sv x.next x.news x.made dv kv)/\ab (bg kv (qD M p)) W sv x.sch/\ab (bg kv (qD M p)) W dv x.defs/\aK (qD M p) z 9 W kv x.reads/\fW (bg kv (qD M p)) W p.mo x.objs
 reach:gj dC W p.rb x.reach
 roots:ia W p.mr x.roots
 snaps:W.heap[p.ms]? =some (.map #[] 0)
 seen:gj fe W p.sb x.reads
 low:z<=W.heap.size
def ec {p:tB}{dv kv:an}{next news made:Int}(h:bR W p.T (E6 p sv next news made dv kv)):bt W p.T 0 sv/\bt W p.T 3 (xI next)/\bt W p.T 4 (.map (some p.rb))/\bt W p.T 5 (xI news)/\bt W p.T 6 (xI made)/\bt W p.T 7 (.map (some p.mo))/\bt W p.T 9 (.map (some p.mr))/\bt W p.T 10 (.map (some p.ms))/\bt W p.T 11 dv/\bt W p.T 12 kv/\bt W p.T 13 (.map (some p.sb)):=by
 unfold E6 at h;simp[World.cell?,h]
def VZ {p:tB}{dv kv kv':an}{next news made:Int}(h:bR W p.T (E6 p sv next news made dv kv)):(W.setCell ⟨p.T,12,none⟩ kv').heap[p.T]? =some (E6 p sv next news made dv kv'):=by
 have:=Qca W p.T 12 _ _ kv' h;simpa [E6]using this
theorem lV.below {x:oh}{z:Nat}{p:tB}(h:lV x M z p W)(hb:aq W W'):lV x M z p W':=by
 obtain⟨sv,dv,kv,h1,h2,h3,h4,h5⟩:=h.st;exact⟨⟨sv,dv,kv,(hb.block _ (Qaa.1 h1).1).trans h1,h2.below hb,h3.below hb,h4.below hb,h5.below hb⟩,h.reach.same (hb.block _ h.reach.lt),h.roots.below hb,(hb.block _ (Qaa.1 h.snaps).1).trans h.snaps,h.seen.same (hb.block _ h.seen.lt),Qcg h.low hb.size⟩
def MI {w:aj}{b:Nat}{S:List aM}(h:gj fe w b S)(n:aM)(hn:n∈S):(Instr.lookup 115 (.map (some b)) (.string n) false).run prog w= .ok (.bool true) w:=h.look underlying115 qd jJ n hn
def MJ {w:aj}{b:Nat}{S:List aM}(h:gj fe w b S)(n:aM)(hn:n∉S):(Instr.lookup 115 (.map (some b)) (.string n) false).run prog w= .ok (.bool false) w:=h.SB underlying115 qd jJ n hn
def P6 {w:aj}{b:Nat}{S:List aM}(h:gj fe w b S)(n:aM):∃w',(Instr.mapUpdate 115 (.map (some b)) (.string n) (.bool true)).run prog w= .ok () w'/\gj fe w' b (S++[n])/\ai (λi=>i=b) w w':=h.put underlying115 qd jJ AW n
def IV {w:aj}{b:Nat}{S:List Int}(h:gj dC w b S)(n:Int)(hn:n∈S):(Instr.lookup 96 (.map (some b)) (.int .i64 n) false).run prog w= .ok (.bool true) w:=h.look underlying96 dW ey n hn
def IW {w:aj}{b:Nat}{S:List Int}(h:gj dC w b S)(n:Int)(hn:n∉S):(Instr.lookup 96 (.map (some b)) (.int .i64 n) false).run prog w= .ok (.bool false) w:=h.SB underlying96 dW ey n hn
def MK {w:aj}{b:Nat}{S:List Int}(h:gj dC w b S)(n:Int):∃w',(Instr.mapUpdate 96 (.map (some b)) (.int .i64 n) (.bool true)).run prog w= .ok () w'/\gj dC w' b (S++[n])/\ai (λi=>i=b) w w':=h.put underlying96 dW ey AV n
def P7:(Tryz.prog.info? 9).map (λi=>(i.zero,i.size,i.bytes))=some (some (xS ⟨#[]⟩),1,16):=by kernel_rfl
def oh.lW(x:oh)(k:aM)(x':oh):Prop:=(k∈x.reads/\x'=x)\/(k∉x.reads/\x'={x with reads:=x.reads++[k]})
theorem IU.ne {M:aN}{z:Nat}{p:tB}(h:IU M z p):(p.T≠p.rb/\p.T≠p.mo/\p.T≠p.ml/\p.T≠p.mr/\p.T≠p.ms/\p.T≠p.sb)/\(p.rb≠p.mo/\p.rb≠p.mr/\p.rb≠p.ms/\p.rb≠p.sb)/\(p.mo≠p.mr/\p.mo≠p.ms/\p.mo≠p.sb)/\(p.mr≠p.ms/\p.mr≠p.sb)/\p.ms≠p.sb:=by
 have h1:=h.apart;simp only[List.nodup_cons,Qdf,List.not_mem_nil,or_false,not_or,List.nodup_nil,and_true,not_false_eq_true]at h1;obtain⟨⟨a1,a2,a3,a4,a5,a6⟩,⟨b2,b3,b4,b5,b6⟩,⟨c3,c4,c5,c6⟩,⟨d4,d5,d6⟩,⟨e5,e6⟩,f6⟩:=h1;exact⟨⟨a1,a2,a3,a4,a5,a6⟩,⟨b2,b4,b5,b6⟩,⟨c4,c5,c6⟩,⟨e5,e6⟩,f6⟩
section
variable {x:oh}{M:aN}{z:Nat}{p:tB}{W W1 w6:aj}{sv dv kv kv':an}{k:aM}{o:Obj}
theorem lV.ZQ(h:lV x M z p W)(ha:IU M z p)(h1:bR W p.T (E6 p sv x.next x.news x.made dv kv))(h2:ab (bg kv (qD M p)) W sv x.sch)(h3:ab (bg kv (qD M p)) W dv x.defs)(h5:fW (bg kv (qD M p)) W p.mo x.objs)
 (o1:ai (λi=>i=p.sb) W W1)(s1:gj fe W1 p.sb (x.reads++[k]))(a6:aK (qD M p) z 9 w6 kv' (x.reads++[k]))(e6:Ev (bg kv (qD M p)) (W1.alloc o) (bg kv' (qD M p)) w6)(b6:Below z (W1.alloc o) w6):
 lV {x with reads:=x.reads++[k]} M z p (w6.setCell ⟨p.T,12,none⟩ kv')/\ai (Ck p z) W (w6.setCell ⟨p.T,12,none⟩ kv'):=by
 obtain⟨⟨n1,n2,n3,n4,n5,n6⟩,⟨n7,n8,n9,n10⟩,⟨n11,n12,n13⟩,⟨n14,n15⟩,n16⟩:=ha.ne;have hT:=ha.lt p.T (.inl rfl);have KG:=h.low;have fu:=o1.size;have hb:∀i,i<z->i≠p.sb->w6.heap[i]? =W.heap[i]? :=λi hi hne=>(b6.block i hi).trans ((Qcb W1 o i (by omega)).trans (o1.block i (by omega) hne));have hsb:w6.heap[p.sb]? =W1.heap[p.sb]? :=(b6.block _ (ha.lt _ (by unfold lI;simp))).trans (Qcb W1 o _ (by have:=ha.lt p.sb (by unfold lI;simp);omega));have o7:ai (λi=>i=p.T) w6 (w6.setCell ⟨p.T,12,none⟩ kv'):=(ai.refl (λi=>i=p.T) w6).setCell (.inl rfl) _;have jz:z<=w6.heap.size:=by have:=b6.size;simp at this;omega
 have KZ:∀i,lI p i->i≠p.sb->i≠p.T->(w6.setCell ⟨p.T,12,none⟩ kv').heap[i]? =W.heap[i]? :=λi hi n1 n2=>(o7.block i (by have:=ha.lt i hi;omega) n2).trans (hb i (ha.lt i hi) n1);have aL:=VZ (kv':=kv') ((hb p.T hT n6).trans h1);have E1:Ev (bg kv (qD M p)) W (bg kv (qD M p)) (W1.alloc o):=⟨(o1.mono λi hi=> .inl (.inr (.inr (.inr (.inr (.inr (.inr (.inr hi)))))))).trans (ai.ao bM),λi hi=> .inl hi⟩;have E7:Ev (bg kv' (qD M p)) w6 (bg kv' (qD M p)) (w6.setCell ⟨p.T,12,none⟩ kv'):=⟨o7.mono λi hi=> .inl (.inr (.inl hi)),λi hi=> .inl hi⟩;have E:=(E1.trans e6).trans E7;have a7:=a6.sT o7 (λi hi=> .inr (.inl hi)) (λg hg he=>by have h1:=(a6.cJ g hg).1;have h2:g=p.T:=he;omega);refine⟨⟨⟨sv,dv,kv',aL,h2.ev E,h3.ev E,a7,h5.ev E (KZ _ (by unfold lI;simp) n13 (λe=>n2 e.symm))⟩,h.reach.same (KZ _ (by unfold lI;simp) n10 (λe=>n1 e.symm)),h.roots.ev (KZ _ (by unfold lI;simp) n15 (λe=>n4 e.symm)),(KZ _ (by unfold lI;simp) n16 (λe=>n5 e.symm)).trans h.snaps,s1.same ((o7.block _ (by have:=ha.lt p.sb (by unfold lI;simp);omega) (λe=>n6 e.symm)).trans hsb),Qcg jz o7.size⟩,?_⟩;refine⟨o7.os.trans (b6.os.trans (o1.os)),o7.tape.trans (b6.tape.trans o1.tape),o7.output.trans (b6.output.trans o1.output),by have:=b6.size;have:=o7.size;simp at*;omega,λi hi hn=> ?_⟩;have RB:i<z:=Classical.byContradiction λhh=>hn (.inr (by omega));have hns:¬lI p i:=λhh=>hn (.inl hh);exact(o7.block i (by omega) (λe=>hns (.inl e))).trans (hb i RB (λe=>hns (.inr (.inr (.inr (.inr (.inr (.inr e))))))))
end
def Cl(x:oh)(M:aN)(z:Nat)(p:tB)(ha:IU M z p)(W:aj)(h:lV x M z p W)(k:aM)(b off c:Nat)(hc:bt W b off (xS k))(hl:x.reads.length<=1000):
 xC 73 #[xP p.T,xL (some ⟨b,off,none⟩) 1 c] W λe w'=>e=xR (.tuple #[])/\(∃x',x.lW k x'/\lV x' M z p w')/\ai (Ck p z) W w':=by
 obtain⟨i0,ed,ej,dO,er⟩:=info_parts P7;have HH:=af h;have HA:=af ha;have HC:=af hc;go_enter func73,ntmps73;go_wp2;go_loopg [5,8]1(λgg _ iv wr=>∃i:Nat,gg=1-i/\i<=1/\iv=xI i/\Hd ((i=0/\wr=W)\/(i=1/\(∃x',x.lW k x'/\lV x' M z p wr)/\ai (Ck p z) W wr)));case atStart=>exact⟨0,rfl,by omega,rfl,af (.inl ⟨rfl,rfl⟩)⟩
 case round=>
  obtain⟨i,rfl,hi,rfl,HS⟩:=hrel;rename World=>wr;by_cases bu:i<1
  .obtain rfl:i=0:=by omega
   obtain rfl:wr=W:=by
    rcases HS.o with⟨_,e⟩|⟨e,_⟩
    .exact e
    .cases e
   obtain⟨sv,dv,kv,h1,h2,h3,h4,h5⟩:=HH.o.st;obtain⟨-,-,-,-,-,-,-,-,-,-,c13⟩:=ec h1;have tC:=HC.o;by_cases hk:k∈x.reads
   .have qq:=MI HH.o.seen k hk;have HK:Hd (x.lW k x):= .inl ⟨hk,rfl⟩;go_wp2;go_roundg 0;case measure=>omega
    case rel=>exact⟨1,rfl,by omega,by go_num,af (.inr ⟨rfl,⟨x,HK.o,HH.o⟩,ai.refl _ _⟩)⟩
   .have qq:=MJ HH.o.seen k hk;have HK:Hd (x.lW k {x with reads:=x.reads++[k]}):= .inr ⟨hk,rfl⟩;obtain⟨W1,T3,fu,kg⟩:=P6 HH.o.seen k;obtain⟨ka,kc,rfl,_,_⟩:=h4.open_;have hne:=HA.o.ne;have hs:=kg.size;have ha1:aK (qD M p) z 9 W1 (xL ka x.reads.length kc) x.reads:=h4.sT kg (λi hi=> .inr (.inr (.inr (.inr (.inr (.inr (.inr hi))))))) (λg hg he=>by have h1:=(h4.cJ g hg).1;have h2:g=p.sb:=he;have:=HA.o.lt p.sb (by unfold lI;simp);omega);have Ro:bR W1 p.T (E6 p sv x.next x.news x.made dv (xL ka x.reads.length kc)):=(kg.block _ (Qaa.1 h1).1 hne.1.2.2.2.2.2).trans h1;obtain⟨-,-,-,-,-,-,-,-,-,d12,d13⟩:=ec Ro;have RS:=af (show z<=W1.heap.size by have:=HH.o.low;omega);have H1:=af h1;have H2:=af h2;have H3:=af h3;have H4:=af h4;have H5:=af h5;have qH:=af fu;have rE:=af kg;have zK:=af ha1;have Q3:=af Ro;go_wp2_with(at_builtin;refine aW (α:=aM) rfl _ _ _ rfl (qD M p) z 9 i0 _ 16 underlying54 ed ej dO er rfl (by decide) (.slice ka x.reads.length kc) x.reads rfl (zK.o.alloc _) (λ_=>True) _ [.string k] k rfl (fF _ _ #[.string k] _ 1 rfl rfl trivial) (show _=_ from rfl) (by unfold maxLen;omega) (by omega) (by have:=RS.o;simp;omega) ?_;intro a2 c2 w6 bj dz jz;have Tn:=af (HH.o.ZQ HA.o H1.o H2.o H3.o H5.o rE.o qH.o bj dz jz);have iJ:=(jz.block p.T (HA.o.lt _ (.inl rfl))).trans ((Qcb W1 _ p.T (by have:=RS.o;have:=HA.o.lt p.T (.inl rfl);omega)).trans Q3.o);have s6:=(ec iJ).2.2.2.2.2.2.2.2.2.1;have f6:=ag iJ 12;clear bj dz jz iJ);go_roundg 0;case measure=>omega
    case rel=>exact⟨1,rfl,by omega,by go_num,af (.inr ⟨rfl,⟨_,HK.o,Tn.o.1⟩,Tn.o.2⟩)⟩
  .obtain rfl:i=1:=by omega
   go_wp2_with fail;rcases HS.o with⟨e,_⟩|⟨_,h1,h2⟩
   .cases e
   .exact bodyPost_end (results_none rfl _ _ _) rfl ⟨rfl,h1,h2⟩
def P8(x:oh)(M:aN)(z:Nat)(p:tB)(W:aj)(h:lV x M z p W)(n:Int)(hn:n∈x.reach):xC 143 #[xP p.T,xI n] W λe w'=>e=xR (xB true)/\w'=W:=by
 have qq:=IV h.reach n hn;obtain⟨sv,dv,kv,h1,-⟩:=h.st;obtain⟨-,-,c4,-⟩:=ec h1;clear h1 h hn;go_enter func143,ntmps143;go_wp2;go_ret;exact⟨rfl,rfl⟩
def A8(x:oh)(M:aN)(z:Nat)(p:tB)(W:aj)(h:lV x M z p W)(n:Int)(hn:n∉x.reach):xC 143 #[xP p.T,xI n] W λe w'=>e=xR (xB false)/\w'=W:=by
 have qq:=IW h.reach n hn;obtain⟨sv,dv,kv,h1,-⟩:=h.st;obtain⟨-,-,c4,-⟩:=ec h1;clear h1 h hn;go_enter func143,ntmps143;go_wp2;go_ret;exact⟨rfl,rfl⟩
def numberT_ok(x:oh)(M:aN)(z:Nat)(p:tB)(W:aj)(h:lV x M z p W)(n:Int)(hn: -1000<=n/\n<=1000000)(hx:0<=x.next/\x.next<=1000000):xC 142 #[xP p.T,xI n] W λe w'=>e=xR (xI (if n<0 then x.next-n-1 else n))/\w'=W:=by
 obtain⟨sv,dv,kv,h1,-⟩:=h.st;obtain⟨-,c3,-⟩:=ec h1;clear h1 h;generalize x.next=nx at*;obtain⟨g1,g2⟩:=hn;obtain⟨g3,g4⟩:=hx;by_cases bu:n<0
 .rw[if_pos bu];go_enter func142,ntmps142;go_wp2;go_ret;refine⟨?_,rfl⟩;first|rfl|(rw[Qbe _ (by omega),Qbe _ (by omega)])|trace_state
 .rw[if_neg bu];go_enter func142,ntmps142;go_wp2;go_ret;exact⟨rfl,rfl⟩
def V0(n:Int)(hn:sf n)(w:aj)(hg:Gd w):xC 145 #[xI n] w λe w'=>∃s,e=xR (xS s)/\aq w w':=by
 have HI:=af (J3 n hn w hg);clear hn hg;go_enter func145,ntmps145;go_wp2_with fail;refine(HI.o).mono ?_;rintro e w1⟨s,-,hs,rfl,hb⟩;have HB:=af hb;clear hb;go_wp2;go_ret;exact⟨_,rfl,HB.o⟩
def gK(k:Int):Int:=if k=3 then 1 else if k=4 then 2 else if k=1 then 3 else if k=2 then 4 else 5
def Ko(k:Int)(hk:1<=k/\k<=5)(w:aj):xC 80 #[xI k] w λe w'=>e=xR (xI (gK k))/\w'=w:=by
 have h:k=1\/k=2\/k=3\/k=4\/k=5:=by omega
 clear hk;rcases h with rfl|rfl|rfl|rfl|rfl;all_goals
  go_enter func80,ntmps80;go_wp2;go_ret;exact⟨rfl,rfl⟩
def look_ok(x:oh)(M:aN)(z:Nat)(p:tB)(ha:IU M z p)(W:aj)(h:lV x M z p W)(hg:Gd W)(id:Int)(hid:1<=id/\id<=100000)(hr:id∈x.reach)(hl:x.reads.length<=1000):
 xC 71 #[xP p.T,A6 7 id ⟨#[]⟩ ⟨#[]⟩ (xL none 0 0) ⟨#[]⟩ (xL none 0 0)] W λe w'=>e=xR (.tuple #[])/\(∃k x',x.lW k x'/\lV x' M z p w')/\ai (Ck p z) W w':=by
 have HF:Hd (∀V,aq W V->_):=λV hb=>P8 x M z p V (h.below hb) id hr;have HK:Hd (∀V,aq W V->_):=λV hb=>V0 id ⟨by omega,by omega⟩ V (hg.below hb);have HU:=af (kI 101);have HR:Hd (∀V k b off c,aq W V->bt V b off (xS k)->_):=λV k b off c hb hc=>Cl x M z p ha V (h.below hb) k b off c hc hl;have HW:=af h.low;have HX:=af (Bx.eD W (eG 7 id ⟨#[]⟩ ⟨#[]⟩ (xL none 0 0) ⟨#[]⟩ (xL none 0 0)));clear h hg hr hl ha;go_enter func71,ntmps71;go_upto_region 1 with fail;obtain⟨W1,bT⟩:=bS (W.alloc (eG 7 id ⟨#[]⟩ ⟨#[]⟩ (xL none 0 0) ⟨#[]⟩ (xL none 0 0)));rw[<-bT]at HX;unfold eG at bT;rw[<-bT];clear bT;have a1:=(bB (HX.o.bG rfl)).c1;go_region_law(first
  |(go_simp;go_at_call 143;refine(HF.o _ HX.o.1.drew).mono ?_;rintro e w2⟨rfl,rfl⟩)
  |(go_simp;go_at_call 63;refine(HU.o _).mono ?_;rintro e w3⟨rfl,rfl⟩)
  |fail);go_wp2_with fail;refine(HK.o _ HX.o.1.drew).mono ?_;rintro e w4⟨s,rfl,hb⟩;have dI:Hd (aq W w4):=HX.o.1.drew.trans (hb.mono HX.o.1.size);clear hb a1;have FJ:∀o,(w4.alloc (xK #[xS s] o)).cell? ⟨w4.heap.size,0,none⟩=some (xS s):=λo=>one_cell (Qbh w4 _);go_wp2_with fail;refine(HR.o _ s _ 0 _ (dI.o.alloc dI.o.size _) (FJ _)).mono ?_;rintro e w5⟨rfl,⟨x',h1,h2⟩,h3⟩;have HE:=af (And.intro h1 (And.intro h2 h3));clear h1 h2 h3;go_wp2_with fail;refine bodyPost_end (results_none rfl _ _ _) rfl ⟨rfl,⟨_,x',HE.o.1,HE.o.2.1⟩,?_⟩;exact(ai.ao (dI.o.alloc dI.o.size _)).cO HE.o.2.2 (λi hi _=>hi)
def ML(x:oh)(M:aN)(z:Nat)(p:tB)(W:aj)(h:lV x M z p W)(id:Int)(hr:id∉x.reach):
 xC 71 #[xP p.T,A6 7 id ⟨#[]⟩ ⟨#[]⟩ (xL none 0 0) ⟨#[]⟩ (xL none 0 0)] W λe w'=>e= .panicked (Cj 101)/\aq W w':=by
 have HF:Hd (∀V,aq W V->_):=λV hb=>A8 x M z p V (h.below hb) id hr;have HU:=af (A7 101);have HX:=af (Bx.eD W (eG 7 id ⟨#[]⟩ ⟨#[]⟩ (xL none 0 0) ⟨#[]⟩ (xL none 0 0)));clear h hr;go_enter func71,ntmps71;go_upto_region 1 with fail;obtain⟨W1,bT⟩:=bS (W.alloc (eG 7 id ⟨#[]⟩ ⟨#[]⟩ (xL none 0 0) ⟨#[]⟩ (xL none 0 0)));rw[<-bT]at HX;unfold eG at bT;rw[<-bT];clear bT;have a1:=(bB (HX.o.bG rfl)).c1;have ow:=af (show W.heap.size<W1.heap.size by have:=HX.o.bF;simp at this;omega);clear a1;refine' pD 6 ?hl ?hm ?hB1 ?hB ?hh;case hl=>exact rfl
 case hm=>kernel_rfl
 case hB1=>kernel_rfl
 case hB=>kernel_rfl
 intro ι _ F lg C4;have s0:=λi=>(bB (((lg i).block _ ow.o).trans (HX.o.bG rfl))).c1;have jy:=af lg;have zP:=af C4;clear lg C4;simp only[List.take_succ_cons,List.take_zero,Act.put,List.setIfInBounds_toArray,List.set_cons_zero,List.set_cons_succ];repeat(go_big_quiet_step(first
  |(go_at_call 143;refine(HF.o _ (HX.o.1.trans ((jy.o _).mono HX.o.1.size))).mono ?_;rintro e w3⟨rfl,rfl⟩;exact⟨rfl,zP.o _ (jy.o _)⟩)))
 refine wpQuiet_nil ?_;rintro _⟨nq,rfl⟩;have HBn:Hd (aq W (F nq)):=HX.o.1.trans ((jy.o nq).mono HX.o.1.size);clear s0;go_simp;go_at_call 63;refine(HU.o _).mono ?_;rintro e w3⟨rfl,rfl⟩;exact⟨rfl,rfl,HBn.o⟩
def E8(x:oh)(M:aN)(z:Nat)(p:tB)(ha:IU M z p)(W:aj)(h:lV x M z p W)(n:aM)(hn:n.size<=20)(hl:x.reads.length<=1000):
 xC 72 #[xP p.T,A6 8 0 ⟨#[]⟩ n (xL none 0 0) ⟨#[]⟩ (xL none 0 0)] W λe w'=>e=xR (.tuple #[])/\(∃k x',x.lW k x'/\lV x' M z p w')/\ai (Ck p z) W w':=by
 have HR:Hd (∀V k b off c,aq W V->bt V b off (xS k)->_):=λV k b off c hb hc=>Cl x M z p ha V (h.below hb) k b off c hc hl;have HX:=af (Bx.eD W (eG 8 0 ⟨#[]⟩ n (xL none 0 0) ⟨#[]⟩ (xL none 0 0)));clear h hl ha;go_enter func72,ntmps72;go_upto_region 1 with fail;obtain⟨W1,bT⟩:=bS (W.alloc (eG 8 0 ⟨#[]⟩ n (xL none 0 0) ⟨#[]⟩ (xL none 0 0)));rw[<-bT]at HX;unfold eG at bT;rw[<-bT];clear bT;have a3:=(bB (HX.o.bG rfl)).c3;have FJ:∀s o,(W1.alloc (xK #[xS s] o)).cell? ⟨W1.heap.size,0,none⟩=some (xS s):=λs o=>one_cell (Qbh W1 _);go_wp2_with fail;refine(HR.o _ _ _ 0 _ (HX.o.1.alloc HX.o.1.size _) (FJ _ _)).mono ?_;rintro e w5⟨rfl,⟨x',h1,h2⟩,h3⟩;have HE:=af (And.intro h1 (And.intro h2 h3));clear h1 h2 h3;go_wp2_with fail;refine bodyPost_end (results_none rfl _ _ _) rfl ⟨rfl,⟨_,x',HE.o.1,HE.o.2.1⟩,?_⟩;exact(ai.ao (HX.o.1.alloc HX.o.1.size _)).cO HE.o.2.2 (λi hi _=>hi)
end
section
open Go.RowKit Go.Shelf Go.Lib
open Go.Sort (SWO grow alloc_eq_grow grow_grow)
def E9:Go.Shelf.Ren:=⟨λ|6=>77|15=>131|14=>147|28=>196|29=>197|20=>205|21=>206|22=>207|23=>208|24=>209|25=>210|26=>211|27=>212|46=>258|47=>249|48=>250|49=>259|50=>260|57=>284|n=>n,λ|22=>55|24=>75|25=>166|3=>3|39=>216|0=>0|53=>279|55=>281|4=>4|46=>272|45=>271|50=>63|5=>5|9=>9|66=>329|70=>333|76=>366|77=>367|n=>n,λ|n=>n⟩
def SV:Go.Proofs.SlLaysF0.n6 prog E9:={
 mixed:=by kernel_rfl
 f6:=⟨Tryz.f77.name,by decide,Tryz.func77.trans (congrArg some (by kernel_rfl))⟩
 f14:=⟨Tryz.f147.name,by decide,Tryz.func147.trans (congrArg some (by kernel_rfl))⟩
 f15:=Tryz.func131.trans (congrArg some (by kernel_rfl))
 f20:=⟨Tryz.f205.name,by decide,Tryz.func205.trans (congrArg some (by kernel_rfl))⟩
 f21:=⟨Tryz.f206.name,by decide,Tryz.func206.trans (congrArg some (by kernel_rfl))⟩
 f22:=⟨Tryz.f207.name,by decide,Tryz.func207.trans (congrArg some (by kernel_rfl))⟩
 f23:=⟨Tryz.f208.name,by decide,Tryz.func208.trans (congrArg some (by kernel_rfl))⟩
 f24:=⟨Tryz.f209.name,by decide,Tryz.func209.trans (congrArg some (by kernel_rfl))⟩
 f25:=⟨Tryz.f210.name,by decide,Tryz.func210.trans (congrArg some (by kernel_rfl))⟩
 f26:=⟨Tryz.f211.name,by decide,Tryz.func211.trans (congrArg some (by kernel_rfl))⟩
 f27:=⟨Tryz.f212.name,by decide,Tryz.func212.trans (congrArg some (by kernel_rfl))⟩
 f28:=Tryz.func196.trans (congrArg some (by kernel_rfl))
 f29:=Tryz.func197.trans (congrArg some (by kernel_rfl))
 f46:=⟨Tryz.f258.name,by decide,Tryz.func258.trans (congrArg some (by kernel_rfl))⟩
 f47:=Tryz.func249.trans (congrArg some (by kernel_rfl))
 f48:=Tryz.func250.trans (congrArg some (by kernel_rfl))
 f49:=⟨Tryz.f259.name,by decide,Tryz.func259.trans (congrArg some (by kernel_rfl))⟩
 f50:=⟨Tryz.f260.name,by decide,Tryz.func260.trans (congrArg some (by kernel_rfl))⟩
 f57:=⟨Tryz.f284.name,by decide,Tryz.func284.trans (congrArg some (by kernel_rfl))⟩
 t0:=underlying0
 a0:=isAgg0
 z0:=sizeOf0
 v0:=zeroValue0
 t3:=underlying3
 a3:=isAgg3
 z3:=sizeOf3
 v3:=zeroValue3
 t4:=underlying4
 a4:=isAgg4
 z4:=sizeOf4
 v4:=zeroValue4
 t5:=underlying5
 a5:=isAgg5
 z5:=sizeOf5
 v5:=zeroValue5
 t9:=underlying9
 a9:=isAgg9
 z9:=sizeOf9
 v9:=zeroValue9
 t22:=underlying55
 a22:=isAgg55
 z22:=sizeOf55
 v22:=zeroValue55
 t25:=underlying166
 a25:=isAgg166
 z25:=sizeOf166
 v25:=zeroValue166
 t39:=underlying216
 a39:=isAgg216
 z39:=sizeOf216
 v39:=zeroValue216
 t45:=underlying271
 a45:=isAgg271
 z45:=sizeOf271
 v45:=zeroValue271
 t46:=underlying272
 a46:=isAgg272
 z46:=sizeOf272
 v46:=zeroValue272
 t50:=underlying63
 a50:=isAgg63
 z50:=sizeOf63
 v50:=zeroValue63
 t53:=underlying279
 a53:=isAgg279
 z53:=sizeOf279
 v53:=zeroValue279
 t55:=underlying281
 a55:=isAgg281
 z55:=sizeOf281
 v55:=zeroValue281
 t66:=underlying329
 a66:=isAgg329
 z66:=sizeOf329
 v66:=zeroValue329
 t70:=underlying333
 a70:=isAgg333
 z70:=sizeOf333
 v70:=zeroValue333
 t76:=underlying366
 a76:=isAgg366
 z76:=sizeOf366
 v76:=zeroValue366
 t77:=underlying367
 a77:=isAgg367
 z77:=sizeOf367
 v77:=zeroValue367}
abbrev lp:={r:eW//1<=r.kind/\r.kind<=3}
instance:au lp where
 size:=18
 rep:=λM w cs x=>au.rep M w cs x.1
 len:=λh=>au.len (α:=eW) h
 flat:=λh=>au.flat (α:=eW) h
 ev:=λh k=>au.ev (α:=eW) h k
def yA(r:eW):Int×Int×Int×aM:=if r.kind=1 then(3,r.obj.id,0,⟨#[]⟩)else if r.kind=2 then(4,0,0,r.name)else(1,r.id,r.ver,⟨#[]⟩)
def A9(a b:Int×Int×Int×aM):Bool:=decide (a.1<b.1)||(decide (a.1=b.1)&&(decide (a.2.1<b.2.1)||(decide (a.2.1=b.2.1)&&(decide (a.2.2.1<b.2.2.1)||(decide (a.2.2.1=b.2.2.1)&&fz a.2.2.2 b.2.2.2)))))
def V1(a b:eW):Int:=if Lib.compareInt (gK a.kind) (gK b.kind)≠0 then Lib.compareInt (gK a.kind) (gK b.kind)else if a.kind=1 then Lib.compareInt a.obj.id b.obj.id else if a.kind=2 then pB a.name b.name else if Lib.compareInt a.id b.id≠0 then Lib.compareInt a.id b.id else Lib.compareInt a.ver b.ver
def V3 {x y:Int}:Lib.compareInt x y=0↔x=y:=by
 unfold Lib.compareInt;by_cases h1:x<y
 .simp[h1];omega
 .by_cases h2:y<x
  .simp[h1,h2];omega
  .simp[h1,h2];omega
def P9 {x y:Int}:Lib.compareInt x y<0↔x<y:=by
 have:=ltInt x y;simpa using this
def Qa {k:Int}(h:1<=k/\k<=3):k=1\/k=2\/k=3:=by omega
def pE(a b:eW)(ha:1<=a.kind/\a.kind<=3)(hb:1<=b.kind/\b.kind<=3):decide (V1 a b<0)=A9 (yA a) (yA b):=by
 have c1:gK 1=3:=rfl;have c2:gK 2=4:=rfl;have c3:gK 3=1:=rfl;have e:∀r:Int,Lib.compareInt r r=0:=λr=>V3.2 rfl;rcases Qa ha with h|h|h<;>rcases Qa hb with k|k|k;all_goals
  unfold V1 yA A9;rw[h,k];simp only[c1,c2,c3,e]
 .simp[P9,dj]
 .simp[Lib.compareInt]
 .simp[Lib.compareInt]
 .simp[Lib.compareInt]
 .simpa using PU a.name b.name
 .simp[Lib.compareInt]
 .simp[Lib.compareInt]
 .simp[Lib.compareInt]
 .by_cases hq:a.id=b.id
  .simp[hq,V3,P9,e,dj]
  .have:Lib.compareInt a.id b.id≠0:=λhh=>hq (V3.1 hh);simp[this,hq,P9]
def IX(a:Int×Int×Int×aM):A9 a a=false:=by simp[A9,dj]
def Cm {a b:Int×Int×Int×aM}:A9 a b=true↔a.1<b.1\/(a.1=b.1/\(a.2.1<b.2.1\/(a.2.1=b.2.1/\(a.2.2.1<b.2.2.1\/(a.2.2.1=b.2.2.1/\fz a.2.2.2 b.2.2.2=true))))):=by simp[A9]
def MM {a b c:Int×Int×Int×aM}(h:A9 a b=true)(k:A9 b c=true):A9 a c=true:=by
 rw[Cm]at*;rcases h with h|⟨h0,h|⟨h1,h|⟨h2,h⟩⟩⟩<;>rcases k with k|⟨k0,k|⟨k1,k|⟨k2,k⟩⟩⟩;all_goals first
  |(left;omega)
  |(refine .inr ⟨by omega, .inl (by omega)⟩)
  |(refine .inr ⟨by omega, .inr ⟨by omega, .inl (by omega)⟩⟩)
  |(refine .inr ⟨by omega, .inr ⟨by omega, .inr ⟨by omega,ju h k⟩⟩⟩)
def IY {a b c:Int×Int×Int×aM}(h:A9 a b=false)(k:A9 b c=false):A9 a c=false:=by
 have h':¬(A9 a b=true):=by simp[h]
 have k':¬(A9 b c=true):=by simp[k]
 rw[Cm]at h' k';cases hq:A9 a c with
 |false=>rfl
 |true=>
  rw[Cm]at hq;exfalso;rcases hq with q|⟨q0,q|⟨q1,q|⟨q2,q⟩⟩⟩
  .have h1:¬a.1<b.1:=λe=>h' (.inl e);have k1:¬b.1<c.1:=λe=>k' (.inl e);omega
  .have h1:¬a.1<b.1:=λe=>h' (.inl e);have k1:¬b.1<c.1:=λe=>k' (.inl e);have h2:¬a.2.1<b.2.1:=λe=>h' (.inr ⟨by omega, .inl e⟩);have k2:¬b.2.1<c.2.1:=λe=>k' (.inr ⟨by omega, .inl e⟩);omega
  .have h1:¬a.1<b.1:=λe=>h' (.inl e);have k1:¬b.1<c.1:=λe=>k' (.inl e);have h2:¬a.2.1<b.2.1:=λe=>h' (.inr ⟨by omega, .inl e⟩);have k2:¬b.2.1<c.2.1:=λe=>k' (.inr ⟨by omega, .inl e⟩);have h3:¬a.2.2.1<b.2.2.1:=λe=>h' (.inr ⟨by omega, .inr ⟨by omega, .inl e⟩⟩);have k3:¬b.2.2.1<c.2.2.1:=λe=>k' (.inr ⟨by omega, .inr ⟨by omega, .inl e⟩⟩);omega
  .have h1:¬a.1<b.1:=λe=>h' (.inl e);have k1:¬b.1<c.1:=λe=>k' (.inl e);have h2:¬a.2.1<b.2.1:=λe=>h' (.inr ⟨by omega, .inl e⟩);have k2:¬b.2.1<c.2.1:=λe=>k' (.inr ⟨by omega, .inl e⟩);have h3:¬a.2.2.1<b.2.2.1:=λe=>h' (.inr ⟨by omega, .inr ⟨by omega, .inl e⟩⟩);have k3:¬b.2.2.1<c.2.2.1:=λe=>k' (.inr ⟨by omega, .inr ⟨by omega, .inl e⟩⟩);have h4:fz a.2.2.2 b.2.2.2=false:=by
    cases hh:fz a.2.2.2 b.2.2.2 with
    |false=>rfl
    |true=>exact absurd (.inr ⟨by omega, .inr ⟨by omega, .inr ⟨by omega,hh⟩⟩⟩) h'
   have k4:fz b.2.2.2 c.2.2.2=false:=by
    cases hh:fz b.2.2.2 c.2.2.2 with
    |false=>rfl
    |true=>exact absurd (.inr ⟨by omega, .inr ⟨by omega, .inr ⟨by omega,hh⟩⟩⟩) k'
   have:=vg h4 k4;rw[q]at this;cases this
theorem Kp {β κ:Type}(f:β->κ)(lt:κ->κ->Bool):∀{l m:List β},l.Perm m->l.Pairwise (λa b=>lt (f b) (f a)=false)->m.Pairwise (λa b=>lt (f a) (f b)=true)->l=m
 |[],m,h,_,_=>by rw[List.nil_perm.1 h]
 |a::l,[],h,_,_=>by have:=h.length_eq;simp at this
 |a::l,b::m,h,h1,h2=>by
  rw[List.pairwise_cons]at h1 h2;have ha:a∈b::m:=h.mem_iff.1 List.mem_cons_self;have hb:b∈a::l:=h.mem_iff.2 List.mem_cons_self;have e:a=b:=by
   rcases Qdf.1 ha with e|ha
   .exact e
   .rcases Qdf.1 hb with e|hb
    .exact e.symm
    .have k1:=h1.1 b hb;have k2:=h2.1 a ha;rw[k1]at k2;cases k2
  subst e;rw[Kp f lt (List.perm_cons a|>.1 h) h1.2 h2.2]
abbrev RC:={t:eW×(Option Addr×Nat×Nat)×(Option Addr×Nat×Nat)//1<=t.1.kind/\t.1.kind<=3}
instance:Inhabited RC:=⟨⟨(⟨1,⟨0,0,0,[]⟩,0,0,⟨#[]⟩,⟨⟨#[]⟩,[]⟩,⟨0,⟨#[]⟩,⟨#[]⟩,⟨#[]⟩,⟨0,0⟩,⟨#[]⟩,⟨#[]⟩⟩⟩,(none,0,0),(none,0,0)),by decide⟩⟩
def ZR:D4 lp RC (Int×Int×Int×aM)where
 enc b:=yt b.1.1 (xL b.1.2.1.1 b.1.2.1.2.1 b.1.2.1.2.2) (xL b.1.2.2.1 b.1.2.2.2.1 b.1.2.2.2.2)
 key b:=yA b.1.1
 keyA x:=yA x.1
 len _:=rfl
 one b v hv:=by simp at hv;rcases hv with rfl|rfl|rfl|rfl|rfl|rfl|rfl|rfl|rfl|rfl|rfl|rfl|rfl|rfl|rfl|rfl|rfl|rfl<;>rfl
 dec {M w cs x}:=λ⟨vv,fv,h,h1,h2,_⟩=>by
  obtain⟨a,c,rfl,_⟩:=h1.open_;obtain⟨a2,c2,rfl,_⟩:=h2.open_;exact⟨⟨(x.1,(a,_,c),(a2,_,c2)),x.2⟩,h.symm,rfl⟩
def ZS:SWO (ltOf λx y:RC=>V1 x.1.1 y.1.1)where
 irrefl x:=by unfold ltOf;rw[pE _ _ x.2 x.2];exact IX _
 trans x y z h1 h2:=by unfold ltOf at*;rw[pE _ _ x.2 y.2]at h1;rw[pE _ _ y.2 z.2]at h2;rw[pE _ _ x.2 z.2];exact MM h1 h2
 ntrans x y z h1 h2:=by unfold ltOf at*;rw[pE _ _ x.2 y.2]at h1;rw[pE _ _ y.2 z.2]at h2;rw[pE _ _ x.2 z.2];exact IY h1 h2
def qc7(a b:eW)(ha:1<=a.kind/\a.kind<=3)(hb:1<=b.kind/\b.kind<=3)(va fa vb fb:an)(hva:∃p n c,va=xL p n c)(RU:∃p n c,fa=xL p n c)(hvb:∃p n c,vb=xL p n c)(hfb:∃p n c,fb=xL p n c)(W:aj):xC 78 #[zC a va fa,zC b vb fb] W λe w'=>e=xR (xI (V1 a b))/\∃q os',w'=grow (W.drewN q) os':=by
 obtain⟨va1,va2,va3,rfl⟩:=hva;obtain⟨Tu,fa2,fa3,rfl⟩:=RU;obtain⟨vb1,vb2,vb3,rfl⟩:=hvb;obtain⟨fb1,fb2,fb3,rfl⟩:=hfb;have HRA:=af (λV=>Ko a.kind (by omega) V);have HRB:=af (λV=>Ko b.kind (by omega) V);have Ny:Hd (∀V,xC 79 #[xI (gK a.kind),xI (gK b.kind)] V λe w'=>e=xR (xI (Lib.compareInt (gK a.kind) (gK b.kind)))/\w'=V):=λV=>(sR (gK a.kind) (gK b.kind) V).mono λ_ _ h=>⟨h.1,h.2.symm⟩;have wm:=af (λV=>sR a.obj.id b.obj.id V);have QS:=af (λV=>Kk a.name b.name V);have HC3:=af (λV=>sR a.id b.id V);have KK:=af (λV=>sR a.ver b.ver V);have Nj:Hd (V1 a b=if Lib.compareInt (gK a.kind) (gK b.kind)≠0 then Lib.compareInt (gK a.kind) (gK b.kind)else if a.kind=1 then Lib.compareInt a.obj.id b.obj.id else if a.kind=2 then pB a.name b.name else if Lib.compareInt a.id b.id≠0 then Lib.compareInt a.id b.id else Lib.compareInt a.ver b.ver):=rfl;have HX:=af (Bx.dq W (og a (xL va1 va2 va3) (xL Tu fa2 fa3)) (og b (xL vb1 vb2 vb3) (xL fb1 fb2 fb3)));have hk:=Qa ha;clear ha hb;generalize V1 a b=cf at*;generalize Lib.compareInt (gK a.kind) (gK b.kind)=c0 at*;generalize Lib.compareInt a.obj.id b.obj.id=c1 at*;generalize pB a.name b.name=c2 at*;generalize Lib.compareInt a.id b.id=c3 at*;generalize Lib.compareInt a.ver b.ver=c4 at*;generalize gK a.kind=ra at*;generalize gK b.kind=rb at*;go_enter func78,ntmps78;go_upto_region 1 with fail;obtain⟨W1,bT⟩:=bS ((W.alloc (og a (xL va1 va2 va3) (xL Tu fa2 fa3))).alloc (og b (xL vb1 vb2 vb3) (xL fb1 fb2 fb3)));rw[<-bT]at HX;have HG:Hd (∀q,∃q' os',W1.drewN q=grow (W.drewN q') os'):=λq=>⟨q,_,by rw[bT,alloc_eq_grow,alloc_eq_grow,grow_grow];rfl⟩;unfold og at bT;rw[<-bT];clear bT;obtain⟨a0,a1,-,-,-,a5,a6,a7,-,-⟩:=gD (HX.o.bG rfl);obtain⟨b0,b1,-,-,-,b5,b6,b7,-,-⟩:=gD (HX.o.bU rfl);go_quiet(first
  |(go_at_call 80;(with_reducible first|exact Calls.quiet_of_same (HRA.o _)|exact Calls.quiet_of_same (HRB.o _)))
  |(go_at_call 79;exact Calls.quiet_of_same (Ny.o _)));by_cases hc:c0=0
 .subst hc;rcases hk with hk|hk|hk
  .have e:cf=c1:=by rw[Nj.o];simp[hk]
   subst e;rw[hk]at a0;clear Nj hk;go_wp2_with fail;refine cT (wm.o _) ?_;go_wp2;go_ret;exact⟨rfl,HG.o nq⟩
  .have e:cf=c2:=by rw[Nj.o];simp[hk]
   subst e;rw[hk]at a0;clear Nj hk;go_wp2_with fail;refine cT (QS.o _) ?_;go_wp2;go_ret;exact⟨rfl,HG.o nq⟩
  .rw[hk]at a0;by_cases Ys:c3=0
   .have e:cf=c4:=by rw[Nj.o];simp[hk,Ys]
    subst e;subst Ys;clear Nj hk;go_wp2_with fail;refine cT (HC3.o _) ?_;go_wp2_with fail;refine cT (KK.o _) ?_;go_wp2;go_ret;exact⟨rfl,HG.o nq⟩
   .have e:cf=c3:=by rw[Nj.o];simp[hk,Ys]
    subst e;clear Nj hk;go_wp2_with fail;refine cT (HC3.o _) ?_;go_wp2;go_ret;exact⟨rfl,HG.o nq⟩
 .have e:cf=c0:=by rw[Nj.o];simp[hc]
  subst e;clear Nj;go_wp2;go_ret;exact⟨rfl,HG.o nq⟩
def IZ(M:aN)(base:Nat)(w:aj)(v:an)(xs:List lp)(h:aK M base 75 w v xs)(hM:∀g,v.ownBlock=some g->¬M g)(hx:xs.length<1000000):
 xC 77 #[v, .func (.func 78) #[] #[]] w λe w'=>e=xR (.tuple #[])/\∃ys,xs.Perm ys/\(ys.map λx:lp=>yA x.1).Pairwise (λa b=>A9 b a=false)/\ab M w' v ys/\ai (λi=>v.ownBlock=some i) w w':=by
 have h1:=xO ZR SV isAgg75 sizeOf75 (λx y=>V1 x.1.1 y.1.1) A9 (λb c=>pE _ _ b.2 c.2) ZS 78 (enters_of func78 (by kernel_rfl) rfl) (λx y W=>qc7 x.1.1 y.1.1 x.2 y.2 _ _ _ _ ⟨_,_,_,rfl⟩ ⟨_,_,_,rfl⟩ ⟨_,_,_,rfl⟩ ⟨_,_,_,rfl⟩ W) M base 75 w v xs h hM hx;exact h1
end
section
open Go.RowKit Go.Shelf
def Ba:(Tryz.prog.info? 75).map (λi=>(i.zero,i.size,i.bytes))=some (some (.agg #[xI 0,xI 0,xI 0,xI 0,xL none 0 0,xI 0,xI 0,xS ⟨#[]⟩,xS ⟨#[]⟩,xL none 0 0,xI 0,xS ⟨#[]⟩,xS ⟨#[]⟩,xS ⟨#[]⟩,xI 0,xI 0,xS ⟨#[]⟩,xS ⟨#[]⟩]),18,232):=by kernel_rfl
def V4:aC:=⟨0,⟨#[]⟩,⟨#[]⟩,⟨#[]⟩,⟨0,0⟩,⟨#[]⟩,⟨#[]⟩⟩
def sX(o:bE):eW:=⟨1,o,0,0,⟨#[]⟩,⟨⟨#[]⟩,[]⟩,V4⟩
def lJ(r:aV):eW:=⟨2,⟨0,0,0,[]⟩,r.id,0,r.name,⟨⟨#[]⟩,[]⟩,V4⟩
def zI(o:bE):lp:=⟨sX o,by show 1<=(1:Int)/\(1:Int)<=3;omega⟩
def qV(r:aV):lp:=⟨lJ r,by show 1<=(2:Int)/\(2:Int)<=3;omega⟩
def Qb {M:aN}{w:aj}{v:an}{l:List lp}:ab M w v l↔ab M w v (l.map Subtype.val):=by
 constructor
 .rintro⟨css,h1,h2,h3⟩;refine⟨css,by rw[Qdc];exact h1,by rw[Qdc];exact h2,λi cs x hc hx=> ?_⟩;rw[List.getElem?_map]at hx;obtain⟨y,hy,rfl⟩:=Option.map_eq_some_iff.1 hx;exact h3 i cs y hc hy
 .rintro⟨css,h1,h2,h3⟩;rw[Qdc]at h1 h2;exact⟨css,h1,h2,λi cs x hc hx=>h3 i cs x.1 hc (by rw[List.getElem?_map,hx];rfl)⟩
section
variable {P:Program}{α:Type} [au α]{o:Oper}{a:Act}{w:aj}{ops:Array Oper}{rest:List Oper}{Q:Exit->Act->aj->Prop}(hgd:o.guard=none)(s x:Operand)(t:TypeId)
 (ho:o.op= .call {callee:= .builtin .append,args:= #[s,x],argTypes:= #[t,t]})
 (M:aN)(base:Nat)(e:TypeId)(i:TypeInfo)(z:an)(bytes:Nat)(ht:P.underlying t=some (.slice e))(hi:P.info? e=some i)(hz:i.zero=some z)
 (hsize:i.size=au.size α)(hby:i.bytes=bytes)(hzs:z.cells.size=au.size α)(hsz:0<au.size α)
 (v:an)(xs:List α)(hs:a.eval s=v)(hacc:aK M base e w v xs)
 (F:aN)(sv:an)(cs:List an)(y:α)(hx:a.eval x=sv)(hr:cA F w (au.size α) sv 1 cs)(hy:au.rep (bg v M) w cs y)
 (h63:xs.length+1<=maxLen)(hbytes:(xs.length+1)*bytes<=140737488355328)(hbase:base<=w.heap.size)
include hgd ho ht hi hz hsize hby hzs hsz hs hacc hx hr hy h63 hbytes hbase
def kV
 (h:∀a' c' w',aK M base e w' (xL a' (xs.length+1) c') (xs++[y])->ai (λk=>v.ownBlock=some k) w w'->((Value.slice a' (xs.length+1) c').ownBlock=v.ownBlock\/(Value.slice a' (xs.length+1) c').ownBlock=some w.heap.size)->wpList P ops Q rest (a.put o.dst (xL a' (xs.length+1) c')) w'):wpList P ops Q (o::rest) a w:=by
 obtain⟨css,h1,h2,h3⟩:=hacc;refine gN w hgd s x t ho base e i z (au.size α) bytes ht hi hz hsize hby hzs hsz v xs.length css.flatten hs h1 sv 1 cs hx hr (au.flat hy) h63 hbytes hbase λa' c' w' k1 k2 k3=> ?_;exact h a' c' w' (aK.snoc h2 h3 hy k1 k2 k3) ((ai.refl (λk=>v.ownBlock=some k) w).grown k2 λg hg=> .inl hg) k3
end
structure Fa {β:Type}(M:aN)(base r mb clk:Nat)(W3:aj)(v:an)(V:List (β×an×Nat))(rs:List lp)(wr:aj):Prop where
 low:Below base W3 wr
 iter:IterM wr r mb V clk
 acc:aK (orM M r) base 75 wr v rs
 own:∀g,v.ownBlock=some g->g≠r
 big:base<=wr.heap.size
section
variable {β:Type}{M:aN}{base r mb clk:Nat}{W3 wr w' w5 w6:aj}{v v2:an}{V V':List (β×an×Nat)}{rs rs':List lp}
theorem Fa.below(h:Fa M base r mb clk W3 v V rs wr)(hb:aq wr w'):Fa M base r mb clk W3 v V rs w':=
 ⟨h.low.trans (hb.mono h.big),(hb.block _ (Qaa.1 h.iter).1).trans h.iter,h.acc.below hb,h.own,Qcg h.big hb.size⟩
theorem Fa.drawn(h:Fa M base r mb clk W3 v V rs wr)(hr:base<=r)(ho:ai (λi=>i=r) wr w')(hi:IterM w' r mb V' clk):Fa M base r mb clk W3 v V' rs w':=
 ⟨aS h.low h.big ho (λi hi=>by have hi:i=r:=hi;omega),hi,h.acc.sT ho (λi hi=> .inr hi) h.own,h.own,Qcg h.big ho.size⟩
theorem Fa.next(h:Fa M base r mb clk W3 v V rs w5)(ha:aK (orM M r) base 75 w6 v2 rs')(ho:ai (λk=>v.ownBlock=some k) (w5.alloc o1) w6)(hv:v2.ownBlock=v.ownBlock\/v2.ownBlock=some (w5.alloc o1).heap.size):Fa M base r mb clk W3 v2 V rs' w6:=by
 have hr:=(Qaa.1 h.iter).1;have hz:(w5.alloc o1).heap.size=w5.heap.size+1:=by simp
 refine⟨aS (h.low.alloc h.big o1) (by have:=h.big;omega) ho (λi hi=>(h.acc.cJ i hi).1),?_,ha,λg hg=> ?_,by have:=h.big;have:=ho.size;omega⟩
 .exact(ho.block r (by omega) (λe=>h.own r e rfl)).trans ((Qcb w5 o1 r hr).trans h.iter)
 .rcases hv with hv|hv
  .exact h.own g (by rw[<-hv];exact hg)
  .rw[hv]at hg;cases hg;omega
theorem Fa.map(h:Fa M base r mb clk W3 v V rs wr){Ky:β->an}{es:List (β×an×Nat)}(hm:fq Ky W3 mb es clk)(hmb:mb<base):fq Ky wr mb es clk:=hm.same _ (h.low.block _ hmb)
end
def Fb(M:aN)(w:aj)(v:an)(l:List lp)(h:ab M w v l)(hl:l.length<=40):
 xG 76 #[v] w λv w'=>aK M w.heap.size 75 w' v l:=by
 obtain⟨i0,ed,ej,dO,er⟩:=info_parts Ba;have HS:=af h;obtain⟨a,c,rfl,cV,lL,ho⟩:=h.open_;have HE:Hd (aK (α:=lp) M w.heap.size 75 (w.alloc (xK #[] 75)) (xL (some ⟨w.heap.size,0,none⟩) 0 0) []):=aK.made M #[] 0 bN (by unfold maxLen;omega) rfl;have q89:∀(w:aj)(a:fA)(n c n' c':Nat),(binOp .eql 55 (.slice a n c) (.slice none n' c')).run prog w= .ok (.bool a.isNone) w:=λw a n c n' c'=>Lib.run_eql_slice_nil w _ _ a n c n' c' underlying55;obtain⟨n,hn⟩:=jO (l.length);have HO:Hd (a=none->l=[]):=λha=>by
  by_cases hp:0<l.length
  .obtain⟨b,off,h1,_⟩:=ho hp;rw[ha]at h1;cases h1
  .exact List.length_eq_zero_iff.1 (by omega)
 rw[hn]at hl cV⊢;have gE:=af (show ab M w (xL a n c) l by rw[<-hn];exact HS.o);have HN:=af hn;cases a with
 |none=>
  obtain rfl:=HO.o rfl;go_enter func76,ntmps76;go_wp2;go_ret;exact⟨_,rfl,aK.nil _ _ _ _,dQ⟩
 |some adr=>
 go_enter func76,ntmps76;go_wp2_with(at_builtin;go_loud(refine cZ (α:=lp) rfl _ _ _ rfl M w.heap.size 75 i0 _ 232 underlying55 ed ej dO er rfl (by decide) (.slice (some ⟨w.heap.size,0,none⟩) 0 0) [] rfl HE.o (.slice (some adr) n c) l rfl (gE.o.ev (v8 HE.o rfl bM)) (by rw[HN.o];simp;unfold maxLen;omega) (by rw[HN.o];simp;omega) (by simp) ?_);rw[HN.o];simp only[Qcd,Nat.zero_add,List.nil_append];intro a2 c2 w2 bj dz bC;have dh:=af bj;have bO:Hd (aq w w2):=bM.trans bC;clear bj dz bC);go_ret;exact⟨_,rfl,dh.o,bO.o⟩
def yB(ds:List lp)(os:List bE)(rs:List aV):List lp:=ds++os.map zI++rs.map qV
def MN {l ys:List bE}{ks:List Int}(hl:(cL l).Pairwise (·< ·))(hk:ks.Nodup)(hy:ys.map bE.id=ks)(kp:∀o∈ys,o∈l)(mR:∀o∈l,o.id∈ks):ys.Perm l:=by
 have YD:ys.Nodup:=by
  have h1:(ys.map bE.id).Nodup:=by rw[hy];exact hk
  rw[List.nodup_iff_pairwise_ne,List.pairwise_map]at h1;exact h1.imp λh e=>h (by rw[e])
 have Nl:l.Nodup:=by
  have h1:(l.map bE.id).Pairwise (·< ·):=hl;rw[List.pairwise_map]at h1;exact h1.imp λh e=>by rw[e]at h;omega
 refine(List.perm_ext_iff_of_nodup YD Nl).2 λo=>⟨kp o,λho=> ?_⟩;have h1:=mR o ho;rw[<-hy]at h1;obtain⟨o',zT,e⟩:=List.mem_map.1 h1;obtain⟨i,hi⟩:=List.getElem?_of_mem ho;obtain⟨j,hj⟩:=List.getElem?_of_mem (kp o' zT);obtain rfl:=jt hl hi hj e.symm;rw[hi]at hj;cases hj;exact zT
def I0 {l ys:List aV}{ks:List aM}(hl:gJ l)(hk:ks.Nodup)(hy:ys.map aV.name=ks)(kp:∀o∈ys,o∈l)(mR:∀o∈l,o.name∈ks):ys.Perm l:=by
 have YD:ys.Nodup:=by
  have h1:(ys.map aV.name).Nodup:=by rw[hy];exact hk
  rw[List.nodup_iff_pairwise_ne,List.pairwise_map]at h1;exact h1.imp λh e=>h (by rw[e])
 have Nl:l.Nodup:=by
  have h1:(l.map aV.name).Pairwise (λa b=>fz a b=true):=hl;rw[List.pairwise_map]at h1;exact h1.imp λh e=>by rw[e,dj]at h;cases h
 refine(List.perm_ext_iff_of_nodup YD Nl).2 λo=>⟨kp o,λho=> ?_⟩;have h1:=mR o ho;rw[<-hy]at h1;obtain⟨o',zT,e⟩:=List.mem_map.1 h1;obtain⟨i,hi⟩:=List.getElem?_of_mem ho;obtain⟨j,hj⟩:=List.getElem?_of_mem (kp o' zT);obtain rfl:=pA hl hi hj e.symm;rw[hi]at hj;cases hj;exact zT
def I1(x:oh)(M:aN)(z:Nat)(p:tB)(ha:IU M z p)(W:aj)(h:lV x M z p W)(ds:List lp)(U2:x.defs=ds.map Subtype.val)(hd:ds.length<=40)(YY:∀r∈x.roots,r.name.size<=maxLen)(qb5:(cL x.objs).Pairwise (·< ·))(hrn:gJ x.roots)(uI:x.objs.length<=1000)(hlr:x.roots.length<=1000)
 (fJ:(yB ds x.objs x.roots).Pairwise (λa b=>A9 (yA a.1) (yA b.1)=true)):
 xG 30 #[xP p.T] W λv w'=>ab M w' v ((yB ds x.objs x.roots).map Subtype.val):=by
 obtain⟨i0,ed,ej,dO,er⟩:=info_parts Ba;obtain⟨sv,dv,kv,h1,h2,h3,h4,h5⟩:=h.st;obtain⟨n1,yN⟩:∃N:aN,N=bg kv (qD M p):=⟨_,rfl⟩;have HNB:Hd (∀i,n1 i->i<W.heap.size):=λi hi=>by
  rw[yN]at hi;have:=h.low;rcases hi with(hi|hi)|hi
  .have:=ha.far i hi;omega
  .have:=ha.lt i hi;omega
  .exact(h4.cJ i hi).2
 have tl:Hd (∀i,M i->n1 i):=λi hi=>by rw[yN];exact .inl (.inl hi)
 rw[<-yN]at h3 h5;clear yN h2 h4;obtain⟨es,clk,hm,JA,mR⟩:=h5;obtain⟨fs,pM,CR,cq,Rj⟩:=h.roots;have Ns:fq fe W p.ms [] 0:=⟨h.snaps,by simp,by simp,by simp⟩;rw[U2]at h3;have HDF:=af (Qb.2 h3);have uC:=af (show p.T<W.heap.size/\p.mo<W.heap.size/\p.mr<W.heap.size/\p.ms<W.heap.size by
  have:=h.low;have h1:=ha.lt p.T (by unfold lI;simp);have h2:=ha.lt p.mo (by unfold lI;simp);have h3:=ha.lt p.mr (by unfold lI;simp);have h4:=ha.lt p.ms (by unfold lI;simp);omega);have Bk:=af hm;have FH:=af CR;have HMS:=af Ns;have HES:=af JA;have iL:=af cq;have NX:=af mR;have RD:=af Rj;have N0:=af qb5;have Gc:=af hrn;have XL:=af YY;have gM:=af fJ;have Jv:=af h1;have WM:es.length<=1000:=by
  have h1:=mG (x.objs.map bE.id) (es.map (·.1)) hm.keys (λq hq=>by
   obtain⟨p,hp,rfl⟩:=List.mem_map.1 hq;obtain⟨o,vv,j1,j2,_⟩:=JA p hp;exact List.mem_map.2 ⟨o,j1,j2.symm⟩);simp at h1;omega
 have Np:fs.length<=1000:=by
  have h1:=mG (x.roots.map aV.name) (fs.map (·.1)) CR.keys (λq hq=>by
   obtain⟨p,hp,rfl⟩:=List.mem_map.1 hq;obtain⟨o,j1,j2,_⟩:=cq p hp;exact List.mem_map.2 ⟨o,j1,j2.symm⟩);simp at h1;omega
 clear hm CR Ns JA cq mR Rj h qb5 hrn YY fJ ha U2;obtain⟨-,-,-,-,-,c7,-,-,c11,-⟩:=ec h1;obtain⟨da,dc,rfl,-⟩:=HDF.o.open_;clear h1 h3;generalize hdn:ds.length=dn at*;have HDN:=af hdn;clear hdn;generalize x.objs=xo at*;generalize x.roots=xr at*;have mP:=af (Fb n1 W _ ds HDF.o (by rw[HDN.o];exact hd));go_enter func30,ntmps30;go_wp2_with fail;refine(mP.o).mono ?_;rintro e w1⟨_,rfl,hacc,aF⟩;have aY:=af aF;have HAC:=af hacc;obtain⟨va,vc,hve,-,-⟩:=hacc.open_;rw[HDN.o]at hve;subst hve;obtain⟨-,-,-,-,-,k7,-⟩:=ec ((aF.block _ uC.o.1).trans Jv.o);have rC:=run_range_map (P:=prog) w1 113 _ _ p.mo _ clk underlying113 ((aF.block _ uC.o.2.1).trans Bk.o.is_);clear hacc aF c7 c11;go_upto_region 3 with fail;clear rC k7;obtain⟨W2,gS⟩:=bS (w1.alloc (.mapIter (some p.mo) clk #[] clk));have aQ:=af (show aq w1 W2 by rw[gS];exact bM);have me:=af (show IterM W2 w1.heap.size p.mo ([]:List (Int×an×Nat)) clk by rw[gS];exact Qbh w1 _);rw[<-gS];clear gS;have Bl:Fa n1 W.heap.size w1.heap.size p.mo clk W (xL va dn vc) ([]:List (Int×an×Nat)) (ds++([]:List bE).map zI) W2:=⟨aY.o.trans (aQ.o.mono aY.o.size),me.o,by
  rw[List.map_nil,List.append_nil];exact(HAC.o.more λi hi=>hi.imp_right λe=>by omega).below aQ.o,λg hg=>by have:=(HAC.o.cJ g hg).2;omega,Qcg aY.o.size aQ.o.size⟩;have Uq:Hd (Fa n1 W.heap.size w1.heap.size p.mo clk W (xL va dn vc) ([]:List (Int×an×Nat)) (ds++([]:List bE).map zI) W2/\PX bE.id xo es [] []):=⟨Bl,⟨by simp,by simp,by simp,by simp⟩⟩;have mY:Hd (W.heap.size<=w1.heap.size):=aY.o.size;generalize w1.heap.size=r1 at*;clear Bl;generalize yU:es.length=n at*;have tz:=af yU;clear yU;have qfh:∀(oi oc ov:Int)(a:fA)(m c:Nat)(W:aj),(Instr.build 75 #[(0,xI 1),(1, .agg #[xI oi,xI oc,xI ov,xL a m c])]).run prog W= .ok (.agg #[xI 1,xI oi,xI oc,xI ov,xL a m c,xI 0,xI 0,xS ⟨#[]⟩,xS ⟨#[]⟩,xL none 0 0,xI 0,xS ⟨#[]⟩,xS ⟨#[]⟩,xS ⟨#[]⟩,xI 0,xI 0,xS ⟨#[]⟩,xS ⟨#[]⟩]) W:=λ_ _ _ _ _ _ W=>run_build W _ _ _ (by kernel_rfl);go_loopg [3,5]n(λgg v3 _ wr=>∃(V:List (Int×an×Nat))(os:List bE),gg=n-V.length/\Hd (Fa n1 W.heap.size r1 p.mo clk W v3 V (ds++os.map zI) wr/\PX bE.id xo es V os));case atStart=>exact⟨[],[],by simp,Uq⟩
 case round=>
  obtain⟨V,os,rfl,HS⟩:=hrel;rename World=>wr;obtain⟨gl,yV⟩:=bS (ds++os.map zI);rw[<-yV]at HS;have HGN:Hd (gl.length=dn+V.length/\ds++os.map zI=gl):=⟨by
   have h1:=congrArg List.length HS.o.2.ids;have h2:=HDN.o;rw[yV];simp at h1⊢;omega,yV.symm⟩;clear yV;have XO:=HS.o.1.map Bk.o uC.o.2.1;rcases XO.step (P:=prog) dC HS.o.1.iter HS.o.2.sub HS.o.2.nod 0 with⟨mU,jh⟩|⟨q,XY,hp,YL,jh,CE,pN,rF,kg,jE⟩;rotate_left
  .have Gb:=iG (es:=es) pN (λz hz=>by
    rcases Qch.1 hz with hz|hz
    .exact HS.o.2.sub z hz
    .rw[List.mem_singleton.1 hz];exact hp);rw[Qda,List.length_singleton,tz.o]at Gb;obtain⟨o,vv,ho,e1,e2,dA⟩:=HES.o q hp;have HD:=af (HS.o.1.drawn (V':=V++[q]) mY.o kg CE);have HQ:=af (HS.o.2.more hp pN ho e1);have Rh:=dA;obtain⟨xa,xc,rfl,_⟩:=Rh.open_;have zj:=af dA;obtain⟨q1,q2,q3⟩:=q;dsimp only at e1 e2 jh jE;subst e1;subst e2;dsimp only[dC,rh]at jh jE;obtain⟨ya,yc,rfl,-,-⟩:=HD.o.acc.open_;clear dA Rh CE pN rF kg hp YL ho;go_upto_region 5 with fail;clear jh jE;obtain⟨W4,j8⟩:=bS (XY.alloc (dV o (xL xa o.aR.length xc)));have pL:=af (show bR W4 XY.heap.size (dV o (xL xa o.aR.length xc))by rw[j8];exact Qbh XY _);have Gf:=af (HD.o.below (j8▸bM));unfold dV at j8;rw[<-j8];clear j8;obtain⟨x0,x1,x2,x3⟩:=ae pL.o;have hgb:gl.length<=2000:=by have:=HGN.o.1;omega
   have eX:Hd (∀o1,au.rep (α:=lp) (bg (xL ya gl.length yc) (orM n1 r1)) (W4.alloc o1) [xI 1,xI o.id,xI o.cls,xI o.ver,xL xa o.aR.length xc,xI 0,xI 0,xS ⟨#[]⟩,xS ⟨#[]⟩,xL none 0 0,xI 0,xS ⟨#[]⟩,xS ⟨#[]⟩,xS ⟨#[]⟩,xI 0,xI 0,xS ⟨#[]⟩,xS ⟨#[]⟩] (zI o)):=λo1=>⟨xL xa o.aR.length xc,xL none 0 0,rfl,zj.o.ev ⟨ai.ao (Gf.o.low.alloc Gf.o.big o1),λi hi=>by
    rcases hi with(hi|hi)|hi
    .exact .inl hi
    .right;have:=mY.o;omega
    .right;exact(Gf.o.acc.cJ i hi).1⟩,ab.nil _ _,show(ByteArray.mk #[]).size<=maxLen by decide,show(ByteArray.mk #[]).size<=maxLen by decide⟩;have Rz:Hd (W.heap.size<=W4.heap.size):=Gf.o.big;go_wp2_with(at_builtin;refine kV (α:=lp) rfl _ _ _ rfl (orM n1 r1) W.heap.size 75 i0 _ 232 underlying55 ed ej dO er rfl (by decide) (.slice ya gl.length yc) gl rfl (Gf.o.acc.alloc _) (λ_=>True) _ _ (zI o) rfl (cD _ _ _ _ rfl trivial) (eX.o _) (by unfold maxLen;omega) (by omega) (by have:=Rz.o;simp;omega) ?_;intro a2 c2 w6 bj Cv zW;have uK:=af (Gf.o.next bj Cv zW);clear bj Cv zW);go_roundg(n-(V.length+1));case measure=>omega
   case rel=>
    refine⟨V++[(o.id,rh o (xL xa o.aR.length xc),q3)],os++[o],by simp,af ⟨?_,HQ.o⟩⟩;rw[List.map_append,<-List.append_assoc,HGN.o.2];exact uK.o
  .have UA:Hd (os.Perm xo):=MN N0.o (ks:=V.map (·.1)) ((mU.map (·.1)).nodup_iff.2 Bk.o.keys) HS.o.2.ids HS.o.2.mem (λo ho=>(mU.map (·.1)).mem_iff.2 (NX.o o ho));have CP:=af (show V.length<=n by have h1:=mU.length_eq;have h2:=tz.o;omega);obtain⟨ya,yc,rfl,-,-⟩:=HS.o.1.acc.open_;have NQ:=af HS.o.1;have Y5:=(NQ.o.low.block _ uC.o.1).trans Jv.o;obtain⟨-,-,-,-,-,-,k9,-⟩:=ec Y5;have CN:=run_range_map (P:=prog) wr 114 _ _ p.mr _ pM underlying114 ((NQ.o.low.block _ uC.o.2.2.1).trans FH.o.is_);clear mU XO HS Y5;go_upto_region 7 with fail;clear CN k9 jh;obtain⟨W5,nM⟩:=bS (wr.alloc (.mapIter (some p.mr) pM #[] pM));have kK:=af (show aq wr W5 by rw[nM];exact bM);have UT:=af (show IterM W5 wr.heap.size p.mr ([]:List (aM×an×Nat)) pM by rw[nM];exact Qbh wr _);rw[<-nM];clear nM;have fu:Fa n1 W.heap.size wr.heap.size p.mr pM W (xL ya gl.length yc) ([]:List (aM×an×Nat)) (gl++([]:List aV).map qV) W5:=⟨NQ.o.low.trans (kK.o.mono NQ.o.big),UT.o,by
    rw[List.map_nil,List.append_nil];exact(NQ.o.acc.more λi hi=>by
     rcases hi with hi|hi
     .exact .inl (.inl hi)
     .right;omega).below kK.o,λg hg=>by have:=(NQ.o.acc.cJ g hg).2;omega,Qcg NQ.o.big kK.o.size⟩;have qH:Hd (Fa n1 W.heap.size wr.heap.size p.mr pM W (xL ya gl.length yc) ([]:List (aM×an×Nat)) (gl++([]:List aV).map qV) W5/\PX aV.name xr fs [] []):=⟨fu,⟨by simp,by simp,by simp,by simp⟩⟩;have vL:Hd (W.heap.size<=wr.heap.size):=NQ.o.big;generalize wr.heap.size=r2 at*;clear fu;generalize XS:fs.length=n2 at*;have Rl:=af XS;clear XS;have qfi:∀(nm:aM)(ri:Int)(W:aj),(Instr.build 75 #[(0,xI 2),(4,xS nm),(2,xI ri)]).run prog W= .ok (.agg #[xI 2,xI 0,xI 0,xI 0,xL none 0 0,xI ri,xI 0,xS nm,xS ⟨#[]⟩,xL none 0 0,xI 0,xS ⟨#[]⟩,xS ⟨#[]⟩,xS ⟨#[]⟩,xI 0,xI 0,xS ⟨#[]⟩,xS ⟨#[]⟩]) W:=λ_ _ W=>run_build W _ _ _ (by kernel_rfl);go_loopg [3,6,7]n2(λgg v3 _ _ wq=>∃(V2:List (aM×an×Nat))(rs:List aV),gg=n2-V2.length/\Hd (Fa n1 W.heap.size r2 p.mr pM W v3 V2 (gl++rs.map qV) wq/\PX aV.name xr fs V2 rs));case atStart=>exact⟨[],[],by simp,qH⟩
   case round=>
    obtain⟨V2,rs,rfl,HS⟩:=hrel;rename World=>wq;obtain⟨g2,RM⟩:=bS (gl++rs.map qV);rw[<-RM]at HS;have To:Hd (g2.length=gl.length+V2.length/\gl++rs.map qV=g2):=⟨by
     have h1:=congrArg List.length HS.o.2.ids;rw[RM];simp at h1⊢;omega,RM.symm⟩;clear RM;have XO:=HS.o.1.map FH.o uC.o.2.2.1;rcases XO.step (P:=prog) fe HS.o.1.iter HS.o.2.sub HS.o.2.nod 0 with⟨mU,jh⟩|⟨q,XY,hp,YL,jh,CE,pN,rF,kg,jE⟩;rotate_left
    .have Gb:=iG (es:=fs) pN (λz hz=>by
      rcases Qch.1 hz with hz|hz
      .exact HS.o.2.sub z hz
      .rw[List.mem_singleton.1 hz];exact hp);rw[Qda,List.length_singleton,Rl.o]at Gb;obtain⟨o,ho,e1,e2⟩:=iL.o q hp;have HD:=af (HS.o.1.drawn (V':=V2++[q]) vL.o kg CE);have HQ:=af (HS.o.2.more hp pN ho e1);have HNZ:Hd (o.name.size<=maxLen):=XL.o o ho;obtain⟨q1,q2,q3⟩:=q;dsimp only at e1 e2 jh jE;subst e1;subst e2;dsimp only[fe]at jh jE;obtain⟨ga,gc,rfl,-,-⟩:=HD.o.acc.open_;have hgb:g2.length<=4000:=by have:=To.o.1;have:=HGN.o.1;have:=CP.o;omega
     obtain⟨rn,ri⟩:=o;dsimp only at jh jE;have eX:Hd (∀o1,au.rep (α:=lp) (bg (xL ga g2.length gc) (orM n1 r2)) (XY.alloc o1) [xI 2,xI 0,xI 0,xI 0,xL none 0 0,xI ri,xI 0,xS rn,xS ⟨#[]⟩,xL none 0 0,xI 0,xS ⟨#[]⟩,xS ⟨#[]⟩,xS ⟨#[]⟩,xI 0,xI 0,xS ⟨#[]⟩,xS ⟨#[]⟩] (qV ⟨rn,ri⟩)):=λo1=>⟨xL none 0 0,xL none 0 0,rfl,ab.nil _ _,ab.nil _ _,HNZ.o,show(ByteArray.mk #[]).size<=maxLen by decide⟩;have Rz:Hd (W.heap.size<=XY.heap.size):=HD.o.big;clear CE pN rF kg hp YL ho;go_wp2_with(at_builtin;refine kV (α:=lp) rfl _ _ _ rfl (orM n1 r2) W.heap.size 75 i0 _ 232 underlying55 ed ej dO er rfl (by decide) (.slice ga g2.length gc) g2 rfl (HD.o.acc.alloc _) (λ_=>True) _ _ (qV ⟨rn,ri⟩) rfl (cD _ _ _ _ rfl trivial) (eX.o _) (by unfold maxLen;omega) (by omega) (by have:=Rz.o;simp;omega) ?_;intro a2 c2 w6 bj Cv zW;have uK:=af (HD.o.next bj Cv zW);clear bj Cv zW);go_roundg(n2-(V2.length+1));case measure=>omega
     case rel=>
      refine⟨V2++[(rn,xI ri,q3)],rs++[⟨rn,ri⟩],by simp,af ⟨?_,HQ.o⟩⟩;rw[List.map_append,<-List.append_assoc,To.o.2];exact uK.o
    .have HPR:Hd (rs.Perm xr):=I0 Gc.o (ks:=V2.map (·.1)) ((mU.map (·.1)).nodup_iff.2 FH.o.keys) HS.o.2.ids HS.o.2.mem (λo ho=>(mU.map (·.1)).mem_iff.2 (RD.o o ho));obtain⟨ga,gc,rfl,-,-⟩:=HS.o.1.acc.open_;have qs:=af HS.o.1;have Y5:=(qs.o.low.block _ uC.o.1).trans Jv.o;obtain⟨-,-,-,-,-,-,-,k10,-⟩:=ec Y5;have WN:=run_range_map (P:=prog) wq 114 _ _ p.ms _ 0 underlying114 ((qs.o.low.block _ uC.o.2.2.2).trans HMS.o.is_);have Nl:g2.length<1000000:=by have h1:=mU.length_eq;have:=Rl.o;have:=To.o.1;have:=HGN.o.1;have:=CP.o;omega
     clear mU XO HS Y5;go_upto_region 11 with fail;clear WN k10 jh;obtain⟨W7,vy⟩:=bS (wq.alloc (.mapIter (some p.ms) 0 #[] 0));have pJ:=af (show aq wq W7 by rw[vy];exact bM);have HI7:=af (show IterM W7 wq.heap.size p.ms ([]:List (aM×an×Nat)) 0 by rw[vy];exact Qbh wq _);rw[<-vy];clear vy;have HM7:Hd (fq fe W7 p.ms [] 0):=HMS.o.same _ ((pJ.o.block _ (by have:=uC.o.2.2.2;have:=qs.o.big;omega)).trans (qs.o.low.block _ uC.o.2.2.2));have HSO:=af (IZ (orM n1 r2) W.heap.size W7 (xL ga g2.length gc) g2 (qs.o.acc.below pJ.o) (λg hg hi=>by
      rcases hi with hi|hi
      .have:=HNB.o g hi;have:=(qs.o.acc.cJ g hg).1;omega
      .exact qs.o.own g hg hi) Nl);go_loopg [3,8,9]0(λgg v3 _ _ wz=>gg=0/\v3=xL ga g2.length gc/\wz=W7);case atStart=>exact⟨rfl,rfl,rfl⟩
     case round=>
      obtain⟨rfl,rfl,rfl⟩:=hrel;rcases HM7.o.step (P:=prog) fe HI7.o (by simp) (by simp) 0 with⟨-,jh⟩|⟨q,XY,hp,-⟩;rotate_left
      .simp at hp
      .go_wp2_with fail;go_at_call 77;refine HSO.o.mono ?_;rintro e w8⟨rfl,ys,hys,hsy,bI,ho8⟩;have mU:ys.Perm (yB ds xo xr):=hys.symm.trans (by
        rw[<-To.o.2,<-HGN.o.2];exact((List.Perm.refl ds).append (UA.o.map zI)).append (HPR.o.map qV));rw[List.pairwise_map]at hsy;obtain rfl:=Kp (λx:lp=>yA x.1) A9 mU hsy gM.o;have Tp:Hd (ab M w8 (xL ga g2.length gc) ((yB ds xo xr).map Subtype.val)/\aq W w8):=⟨Qb.1 (bI.ev (Ev.dD w8 λi hi=> .inl (tl.o i hi))),aS (qs.o.low.trans (pJ.o.mono qs.o.big)) (by have:=qs.o.big;have:=pJ.o.size;omega) ho8 (λi hi=>(qs.o.acc.cJ i hi).1)⟩;clear hys hsy bI ho8 mU;go_wp2;go_ret;exact⟨_,rfl,Tp.o.1,Tp.o.2⟩
def mN {ops:Array Oper}{rest:List Oper}{op:Oper}{a:Act}{C:aj->Prop}{Q:Act->Prop}(hw:Region.wanted op (yielded ops a.tmps)=true)(x:Operand)(ho:op.op= .load 75 x)(b o:Nat)(hx:a.eval x= .pointer (some ⟨b,o,none⟩)){r:eW}{vv:an}(h:∀w,C w->w.rangeAt b o (yt r vv fv))
 (hk:wpQuiet prog ops C Q rest (a.put op.dst (zC r vv fv))):wpQuiet prog ops C Q (op::rest) a:=
 BigFrame.wpQuiet_want hw λK hK=>⟨zC r vv fv,λw hc=>by
  unfold Oper.quietAt execOp;simp only[ho,hx,Instr.loadAt,Instr.sureAddr,Sem.run_bind,Sem.run_pure,Result.andThen_ok,run_loadVar_mid w b o 75 _ _ (h w hc) underlying75 rfl E4];exact⟨rfl,rfl⟩,hK _ hk⟩
structure Wa(r:eW):Prop where
 ver:r.ver=0
 cls:r.cls=⟨⟨#[]⟩,[]⟩
 chg:r.chg=V4
 flat:∀y∈r.obj.aR,yz y
 few:r.obj.aR.length<=20
def M5(r:eW)(h:Wa r)(M:aN)(w:aj)(v u a b:an)(hs:ab M w v r.obj.aR)(hu:ab M w u r.obj.aR)(ha:ab M w a r.cls.fields)(hb:ab M w b r.cls.fields):
 xC 40 #[zC r v a,zC r u b] w (cr (xB true) w):=by
 obtain⟨k,o,id,ver,nm,cls,chg⟩:=r;obtain⟨h1,h2,h3,h4,h5⟩:=h;dsimp only at*;subst h1 h2 h3;obtain⟨aa,ac,rfl,-⟩:=ha.open_;obtain⟨ba,bc,rfl,-⟩:=hb.open_;exact M4 k o id nm h4 h5 M w v u aa ba ac bc hs hu
def Fl(l:List eW)(hz:∀r∈l,Wa r)(M:aN)(w:aj)(v u:an)(hs:ab M w v l)(hu:ab M w u l):
 xC 14 #[v,u] w (cr (xS ⟨#[]⟩) w):=by
 have HV:Hd (∀i r,l[i]? =some r->_):=λi r hr=>Cd hs hr;have HU:Hd (∀i r,l[i]? =some r->_):=λi r hr=>Cd hu hr;have HZ:=af hz;obtain⟨a,bQ,rfl,cV,lL,_⟩:=hs.open_;obtain⟨ua,qf6,rfl,-⟩:=hu.open_;generalize hn:l.length=n at*;have HN:=af hn;go_enter func14,ntmps14;go_wp2;go_loopg [4,5]n(λg r4 iv wr=>∃i:Nat,i<=n/\g=n-i/\iv=xI i/\r4=xS ⟨#[]⟩/\Hd (aq w wr));case atStart=>exact⟨0,Qbf _,rfl,rfl,rfl,af dQ⟩
 case round=>
  obtain⟨i,hi,rfl,rfl,rfl,HB⟩:=hrel;rename World=>wr;by_cases bu:i<n
  .obtain⟨r,hr⟩:=eB l i (by rw[HN.o];exact bu);obtain⟨b,off,cap,vv,fv,hv,h1,h2,JE⟩:=HV.o i r hr;obtain⟨rfl,rfl⟩:=iB hv;obtain⟨b2,zY,rz,vv2,fv2,zW,g1,g2,qf7⟩:=HU.o i r hr;obtain⟨rfl,rfl⟩:=iB zW;have mY:Hd (∀V,aq wr V->V.rangeAt b (off+i*18) (yt r vv fv)):=λV hb=>JE V (HB.o.trans (hb.mono HB.o.size));have vL:Hd (∀V,aq wr V->V.rangeAt b2 (zY+i*18) (yt r vv2 fv2)):=λV hb=>qf7 V (HB.o.trans (hb.mono HB.o.size));have KL:Hd (∀V,aq wr V->_):=λV hb=>M5 r (HZ.o r (Qaf hr)) M V vv vv2 fv fv2 (h1.below (HB.o.trans (hb.mono HB.o.size))) (g1.below (HB.o.trans (hb.mono HB.o.size))) (h2.below (HB.o.trans (hb.mono HB.o.size))) (g2.below (HB.o.trans (hb.mono HB.o.size)));have i0:(0:Int)<=(i:Int):=Qba _;have i1:(i:Int)<(n:Int):=by omega
   go_upto_region 6 with fail;go_cut [26](λs25 wx=>s25=xB false/\Hd (aq w wx));case first=>
    refine ib (by kernel_rfl) (by kernel_rfl) λι _ F lg C4=> ?_;have jy:=af lg;have zP:=af C4;iterate 3(go_big_quiet_step(fail))
    refine mN rfl (.tmp 19) rfl b (off+i*18) rfl (λw'⟨n,e⟩=>e▸mY.o _ (jy.o n)) ?_;simp only[Act.put,List.setIfInBounds_toArray,List.set_cons_zero,List.set_cons_succ];iterate 3(go_big_quiet_step(fail))
    refine mN rfl (.tmp 23) rfl b2 (zY+i*18) rfl (λw'⟨n,e⟩=>e▸vL.o _ (jy.o n)) ?_;simp only[Act.put,List.setIfInBounds_toArray,List.set_cons_zero,List.set_cons_succ];repeat(go_big_quiet_step((go_at_call 40;refine bY (KL.o _ (jy.o _)) λw3 bP=> ?_;exact⟨rfl,zP.o _ ((jy.o _).trans (bP.mono (jy.o _).size))⟩)))
    refine wpQuiet_nil ?_;rintro _⟨nq,rfl⟩;go_wp2;go_meet;exact⟨rfl,af (HB.o.trans ((jy.o _).mono HB.o.size))⟩
   case rest=>
    obtain⟨rfl,bO⟩:=hcut;go_wp2;go_roundg(n-(i+1));case measure=>omega
    case rel=>exact⟨i+1,by omega,rfl,by go_num,rfl,bO⟩
  .obtain rfl:i=n:=by omega
   go_wp2;go_ret;exact⟨rfl,HB.o⟩
end
