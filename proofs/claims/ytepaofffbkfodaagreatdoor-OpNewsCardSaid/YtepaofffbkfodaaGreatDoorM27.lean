/- A part; no condition. -/
import Derived.Test.YtepaofffbkfodaaGreatDoorM23
import Derived.Test.YtepaofffbkfodaaGreatDoorM24
set_option linter.all false
set_option maxHeartbeats 8000000
set_option maxRecDepth 100000
namespace Go.Proofs.YtepaofffbkfodaaGreatDoor
open Go.Proofs.Tryz
variable{v:aA}{l:List aJ}{W w' w w1 w2:ax}{ay:Int}
section
open Go.RowKit Go.Shelf
def EF:(Tryz.prog.info? 66).map (λi=>(i.zero,i.size,i.bytes))=some (some (.agg #[xI 0,xI 0,xI 0,()]),4,48):=by kernel_rfl
def FD(M:aV)(w:ax)(b P:Nat):Nat->Prop:=λi=>M i\/i=[w]\/i=b\/i=P\/i=P+1
structure Pl(w:ax)(P p b:Nat):Prop where
 pb:p≠b
 p1:↑w+2<=p
 p2:p<P
 b1:↑w+2<=b
 b2:b<P
structure j9(x:aW)(M:aV)(w:ax)(P p b:Nat)(sv:aA)(o0 o1:Obj)(W:ax)(i j:Nat)(v:aA):Prop where
 bx:Bx w [o0,o1] W
 book:jk x.aK (bu v (FD M w b P)) p b sv W
 late:∃ls:List bF,aS (α:=bF) (FD M w b P) (P+2) 66 W v ls/\ls.length=i/\∀(k:Nat)o,ls[k]? =some o->il x k o
 place:∃es clk,bP dO W P es clk/\∀n:Int,bB es n=((x.aP.take j).findIdx? (λo=>decide (o.id=n))).map (λi=>xI (i:Int))
 g:W.heap[P+1]? =some (jl v P)
section
variable {x:aW}{M:aV}{w:ax}{P p b:Nat}{sv:aA}{o0 o1:Obj}{W W' w4:ax}{i j:Nat}{v v2:aA}
theorem j9.lt(h:j9 x M w P p b sv o0 o1 W i j v):P+2<=W:=(Qaa.1 h.g).1
theorem j9.ae(h:j9 x M w P p b sv o0 o1 W i j v)(c:Pl w P p b)(hb:aC W W'):j9 x M w P p b sv o0 o1 W' i j v:=by
 have hl:=h.lt;have:=c.p2;have:=c.b2;obtain⟨h1,h2,⟨ls,h3,h4⟩,⟨es,clk,h5,h6⟩,h7⟩:=h;exact⟨h1.ae hb,h2.ev (Ev.az hb) (hb.block _ (by omega)) (hb.block _ (by omega)),⟨ls,h3.ae hb,h4⟩,⟨es,clk,(hb.block _ (by omega)).trans h5,h6⟩,(hb.block _ (by omega)).trans h7⟩
theorem j9.bd(h:j9 x M w P p b sv o0 o1 W i j v)(c:Pl w P p b)(hM:Bd M w):Bd (bu v (FD M w b P)) W:=λk hk=>by
 have hl:=h.lt;have:=c.p2;have:=c.b2;have:=c.p1;rcases hk with(hk|hk|hk|hk|hk)|hk
 .exact Qde (hM k hk) h.bx.1.size
 .omega
 .omega
 .omega
 .omega
 .have⟨ls,h3,_⟩:=h.late;exact(h3.cG k hk).2
theorem j9.ev(h:j9 x M w P p b sv o0 o1 W i j v)(c:Pl w P p b):Ev M w (bu v (FD M w b P)) W:=⟨ao.az h.bx.1,λk hk=>by
 have:=c.p2;have:=c.b1;have:=c.p1;rcases hk with(hk|hk|hk|hk|hk)|hk
 .exact .inl hk
 .right;omega
 .right;omega
 .right;omega
 .right;omega
 .have⟨ls,h3,_⟩:=h.late;have:=(h3.cG k hk).1;right;omega⟩
theorem j9.Ll(h:j9 x M w P p b sv o0 o1 W i j v)(c:Pl w P p b)(hB:jk x.aK (bu v (FD M w b P)) p b sv W')(ho:ao (λk=>k=b) W W'):j9 x M w P p b sv o0 o1 W' i j v:=by
 have:=c.p2;have:=c.b2;have:=c.b1;obtain⟨h1,h2,⟨ls,h3,h4⟩,⟨es,clk,h5,h6⟩,h7⟩:=h;exact⟨h1.only ho (λk hk=>by subst hk;simp;omega),hB,⟨ls,h3.only ho (λk hk=>⟨.inr (.inr (.inl hk)),by have hh:k=b:=hk;omega⟩),h4⟩,⟨es,clk,ho.at_ h5 (by omega),h6⟩,ho.at_ h7 (by omega)⟩
theorem j9.next(h:j9 x M w P p b sv o0 o1 W i j v)(c:Pl w P p b){o:bF}(ho:il x i o)(ob:Obj){ls:List bF}(h4:ls.length=i)(ZC:∀(k:Nat)o,ls[k]? =some o->il x k o)(hacc:aS (α:=bF) (FD M w b P) (P+2) 66 w4 v2 (ls++[o]))(vK:Ev (bu v (FD M w b P)) (W.alloc ob) (bu v2 (FD M w b P)) w4)(hb:Below (P+2) (W.alloc ob) w4):
 j9 x M w P p b sv o0 o1 (w4.setCell (P+1,0) v2) (i+1) j v2:=by
 have hl:=h.lt;have c1:=c.p2;have c2:=c.b2;have c3:=c.p1;have e1:∀k,k<P+2->w4.heap[k]? =W.heap[k]? :=λk hk=>(hb.block k hk).trans (((Qbg _ W).alloc bT ob).block k (by omega));have e2:∀k,k≠P+1->k<P+2->(w4.setCell (P+1,0) v2).heap[k]? =W.heap[k]? :=λk hn hk=>(Qag _ _ _ _ hn).trans (e1 k hk);have hE:Ev (bu v (FD M w b P)) W (bu v2 (FD M w b P)) (w4.setCell (P+1,0) v2):=by
  refine⟨ao.setCell ((ao.refl _ W).alloc ob|>.trans vK.only) (p:=⟨P+1,0,none⟩) (.inl (.inl (.inr (.inr (.inr (.inr rfl)))))) _,λk hk=> ?_⟩;rcases vK.sub k hk with h1|h1
  .exact .inl h1
  .right;have:(W.alloc ob).heap.size=[W]:=by simp
   omega
 obtain⟨h1,h2,_,⟨es,clk,h5,h6⟩,h7⟩:=h;refine⟨?_,h2.ev hE (e2 _ (by omega) (by omega)) (e2 _ (by omega) (by omega)),⟨ls++[o],?_,by simp[h4],λk y hy=> ?_⟩,⟨es,clk,(e2 _ (by omega) (by omega)).trans h5,h6⟩,?_⟩
 .exact((h1.alloc ob).dG hb (by simp;omega)).dG (B:=P+1) ((Qbg (P+1) w4).setCell (p:=⟨P+1,0,none⟩) (Qab (P+1)) v2) (by simp;omega)
 .exact hacc.rC (p:=⟨P+1,0,none⟩) (.inr (.inr (.inr (.inr rfl)))) (by show P+1<P+2;omega) _
 .by_cases hk:k<ls.length
  .rw[Qbc hk]at hy;exact ZC k y hy
  .have:k=ls.length:=by
    have:=(Qad.1 hy).1;simp at this;omega
   subst this;simp at hy;subst hy;rw[h4];exact ho
 .have:=Qca w4 (P+1) 0 _ _ v2 ((e1 _ (by omega)).trans h7);simpa [jl]using this
theorem j9.put(hw:gx x)(h:j9 x M w P p b sv o0 o1 W i j v)(c:Pl w P p b){o:bF}(ho:x.aP[j]? =some o):∃W',(Instr.mapUpdate 87 (.map (some P)) o.id (xI (j:Int))).run prog W= .ok () W'/\j9 x M w P p b sv o0 o1 W' i (j+1) v:=by
 have hl:=h.lt;have c1:=c.p2;have c2:=c.b2;have c3:=c.p1;obtain⟨h1,h2,⟨ls,h3,h4⟩,⟨es,clk,h5,h6⟩,h7⟩:=h;have Ck:=(Qad.1 ho).1;have hno:(x.aP.take j).findIdx? (λp=>decide (p.id=o.id))=none:=by
  refine List.findIdx?_eq_none_iff.2 λp hp=> ?_;have⟨k,hk⟩:=Qdg hp;rw[List.getElem?_take]at hk;split at hk
  .rename_i bH;have:=jJ hw.nI hk ho;simp only[decide_eq_false_iff_not];intro e;have:=this e;omega
  .cases hk
 have M3:bB es o.id=none:=by rw[h6,hno];rfl
 have⟨W',hrun,hm,ho'⟩:=bP.RX dO underlying87 eo eO h5 o.id (.int .i64 (j:Int)) M3;refine⟨W',hrun,⟨h1.only ho' (λk hk=>by subst hk;simp;omega),h2.ev ⟨ho'.mono (λk hk=> .inl (.inr (.inr (.inr (.inl hk))))),λk hk=> .inl hk⟩ (ho'.block _ (by omega) (by omega)) (ho'.block _ (by omega) (by omega)),⟨ls,h3.only ho' (λk hk=>⟨.inr (.inr (.inr (.inl hk))),by have hh:k=P:=hk;omega⟩),h4⟩,⟨_,_,hm,λn=> ?_⟩,ho'.at_ h7 (by omega)⟩⟩;rw[tR n M3,h6,Qbb,ho,List.findIdx?_append];by_cases hn:n=o.id
 .rw[if_pos hn,hn,hno];have:(x.aP.take j).length=j:=by rw[Qdb];omega
  simp[List.findIdx?_cons,this]
 .rw[if_neg hn];have:decide (o.id=n)=false:=by simpa usingλe=>hn e.symm
  cases(x.aP.take j).findIdx? (λo=>decide (o.id=n))<;>simp[List.findIdx?_cons,this]
theorem j9.fin(h:j9 x M w P p b sv o0 o1 W x.aP.length x.aP.length v)(c:Pl w P p b)(hM:Bd M w)(ho:ao (λk=>k=[w]) W W'):Cz x M W' v P:=by
 have hl:=h.lt;have c1:=c.p2;have c2:=c.b2;have c3:=c.p1;obtain⟨h1,h2,⟨ls,h3,h4,ZC⟩,⟨es,clk,h5,h6⟩,h7⟩:=h;refine⟨⟨ls,?_,h4,ZC⟩,es,clk,ho.at_ h5 (by omega),λk=> ?_⟩
 .have hs:=(h3.only ho (λk hk=>⟨.inr (.inl hk),by have hh:k=[w]:=hk;omega⟩)).slice (λk hk=> ?_)
  .exact hs.ev (Ev.dL _ λk hk=> .inl hk)
  .rcases hk with hk|hk|hk|hk|hk
   .have:=hM k hk;omega
   .omega
   .omega
   .omega
   .omega
 .rw[h6,Qah bT]
end
def LZ(x:aW)(h:gx x){M:aV}{w:ax}(hM:Bd M w)(hG:Gd w){P p b:Nat}(c:Pl w P p b){i:Nat}{o:bF}(ho:x.aP[i]? =some o):
 ∃(k ln:Nat),∀(W:ax)(sv v va:aA)(o0 o1:Obj)(j:Nat),j9 x M w P p b sv o0 o1 W i j v->ab M w va o.aZ->xC 56 #[xP p, .agg #[o.id,o.cL,o.cQ,va]] W λe w'=>∃(us:List aJ)(uv:aA),e=xR (.tuple #[.agg #[o.id,xI (k:Int),xI (ln:Int),uv],true])/\il x i ⟨o.id,(k:Int),(ln:Int),us⟩/\ab (bu v (FD M w b P)) w' uv us/\j9 x M w P p b sv o0 o1 w' i j v/\ao (λk=>k=b) W w':=by
 have⟨_,_,k,v',l,hk⟩:=h.aP i o ho;refine⟨k,l.aw.length,λW sv v va o0 o1 j hs hva=> ?_⟩;have hb1:=c.b1;refine(H7 x.aK h.jR k l hk.line o v' 100000 (Int.le_refl _) hk.cL hk.cQ hk.le (h.qb8 ho hk) hk.aZ (bu v (FD M w b P)) w W (hs.bd c hM) hG hs.bx.1 p b c.pb (.inl (.inr (.inr (.inl rfl)))) (by omega) sv va hs.book (hva.ev (hs.ev c))).mono ?_;rintro e w'⟨⟨us,uv,rfl,QD,hsl⟩,hbk,hon⟩;exact⟨us,uv,rfl,⟨o,k,v',l,us,ho,hk,QD,rfl⟩,hsl,hs.Ll c hbk hon,hon⟩
def qT(x:aW)(h:gx x)(M:aV)(w:ax)(hM:Bd M w)(hG:Gd w)(lv ov rv:aA)(js:ab M w lv x.aK)(kM:ab M w ov x.aP)(iM:ab M w rv x.aF):
 xG 21 #[.agg #[lv,ov,rv,x.next]] w λu w'=>∃lt pm,u= .tuple #[.agg #[lt, .map (some pm)],xI 0]/\Cz x M w' lt pm:=by
 have⟨i0,hi0,hz0,hz1,hz2⟩:=info_parts EF;have CC:=gQ (w:=w) (λW hb=>mW x.aK h.jR M W (hM.ae hb) (hG.tb.ae hb) lv (js.ae hb));have CE:=gQ (w:=w) (λW hb=>EE x h M W lv ov rv (js.ae hb) (kM.ae hb) (iM.ae hb));have Kb:Hd (∀W,aC w W->w.heap.size+2<=W->_):=λW hb hz=>BZ x.aK (λi=>M i\/i=[w]) W (λi hi=>by rcases hi with hi|hi;(have:=hM i hi;omega);omega) lv (js.ev ⟨ao.az hb,λi hi=>hi.imp_right λe=>by omega⟩);have WG:Hd (∀(P p b:Nat),Pl w P p b->∀(i:Nat)(o:bF),x.aP[i]? =some o->_):=λP p b c i o ho=>LZ x h hM hG c ho;have HWH:Hd (∀W lt pm,aC w W->Cz x M W lt pm->_):=λW lt pm hb hg=>LW x h M W (hM.ae hb) (hG.tb.ae hb) lt rv pm hg (iM.ae hb);have HO:Hd (∀i o,x.aP[i]? =some o->_):=λi o ho=>iJ kM ho;have HWK:=ag h;have lF:=ag hM;have h10:=h.len;obtain⟨la,lc,rfl,_⟩:=js.aq;obtain⟨oa,oc,rfl,WK,hom,_⟩:=kM.aq;obtain⟨ra,rc,rfl,_⟩:=iM.aq;have MQ:=ag js;clear js kM iM hM hG h;have v8:Hd (∀W v P p b sv o0 o1 W',j9 x M w P p b sv o0 o1 W x.aP.length x.aP.length v->Pl w P p b->ao (λk=>k=[w]) W W'->Cz x M W' v P):=λW v P p b sv o0 o1 W' h1 h2 h3=>h1.fin h2 lF.o h3;generalize hn:x.aP.length=n at*;have HN:=ag hn;clear hn;have hmk:=λw=>eM 87 w;have⟨q0,hq0⟩:=bY (cT (xL la x.aK.length lc) (xL oa n oc) (xL ra x.aF.length rc) x.next);have⟨q1,hq1⟩:=bY (xK #[(), .map none] 89);have HQ0:=ag hq0;have HQ1:=ag hq1;have my:Hd (∀W,Bx w [q0,q1] W->dk W w (cT (xL la x.aK.length lc) (xL oa n oc) (xL ra x.aF.length rc) x.next)):=λW hb=>by rw[<-HQ0.o];exact hb.bO rfl
 have qu:Hd (∀W,Bx w [q0,q1] W->bW W [w] (xK #[(), .map none] 89)):=λW hb=>by rw[<-HQ1.o];exact hb.cg rfl
 clear hq0 hq1;go_enter func21,ntmps21;go_upto_region 1 with fail;have⟨W0,hW0⟩:=bY ((w.alloc (cT (xL la x.aK.length lc) (xL oa n oc) (xL ra x.aF.length rc) x.next)).alloc (xK #[(), .map none] 89));have cI:=ag (show Bx w [q0,q1] W0 by rw[hW0,HQ0.o,HQ1.o];exact Bx.du w _ _);unfold cT at hW0;rw[<-hW0];clear hW0;have⟨c0,c1,c2,c3⟩:=af (my.o _ cI.o);go_wp2_with fail;refine cC (CC.o _ cI.o.1) λw1 hb1=> ?_;have bz:=ag (cI.o.ae hb1);clear hb1 c0 c1 c2 c3;have⟨c0,c1,c2,c3⟩:=af (my.o _ bz.o);go_wp2_with fail;refine cC (CE.o _ bz.o.1) λw2 bE=> ?_;have bg:=ag (bz.o.ae bE);clear bE c0 c1 c2 c3;have⟨c0,c1,c2,c3⟩:=af (my.o _ bg.o);have hs2:=bg.o.bQ;simp only[Qcc,Qcd]at hs2;go_wp2_with fail;refine(Kb.o _ bg.o.1 (by omega)).mono ?_;rintro e w3⟨p,b,rfl,hp1,hb1,th,Fl,hb3,Fs,hbel⟩;have bV:=ag (bg.o.ae hbel);have Fq:=ag Fs;have HC:Hd (Pl w w3 p b):=⟨th,by omega,Fl,by omega,hb3⟩;clear Fs hbel c0 c1 c2 c3;have⟨c0,c1,c2,c3⟩:=af (my.o _ bV.o);go_upto_region 8 with fail;have⟨W7,hW7⟩:=bY ((w3.alloc (.map #[] 0)).alloc (jl () w3));have ia:=ag (show j9 x M w w3 p b (xL la x.aK.length lc) q0 q1 W7 0 0 ()by
  have hbb:aC w3 W7:=by rw[hW7];exact bU.alloc (by simp) _
  refine⟨bV.o.ae hbb,(Fq.o _ (λi hi=> ?_)).ev (Ev.az hbb) (hbb.block _ Fl) (hbb.block _ hb3),⟨[],aS.nil _ _ _ _,rfl,λk o h=>by simp at h⟩,⟨[],0,?_,λn=> ?_⟩,?_⟩
  .have hc1:=HC.o.b1;rcases hi with(hi|hi|hi|hi|hi)|hi
   .exact .inl (.inl hi)
   .exact .inl (.inr hi)
   .right;omega
   .right;omega
   .right;omega
   .cases hi
  .show W7.heap[w3.heap.size]? =_;rw[hW7];exact(bU.block w3 (by simp)).trans (Qbh w3 _)
  .rfl
  .rw[hW7];have:=Qbh (w3.alloc (.map #[] 0)) (jl () w3);simpa using this);unfold jl at hW7;rw[<-hW7];clear hW7 hp1 hb1 th Fl hb3 Fq c0 c1 c2 c3;generalize w3.heap.size=P at*;have⟨c0,c1,c2,c3⟩:=af (my.o _ ia.o.bx);go_wp2_with fail;clear c0 c1 c2 c3;go_loopg [3,8,9,10,11,34]n(λg r3 _ _ _ _ iv wr=>∃(i:Nat)(v:aA),i<=n/\g=n-i/\iv=xI i/\r3=xI 0/\Hd (j9 x M w P p b (xL la x.aK.length lc) q0 q1 wr i i v));case atStart=>exact⟨0,_,Qbf _,rfl,rfl,rfl,ia⟩
 case round=>
  obtain⟨i,v,hi,rfl,rfl,rfl,HS⟩:=hrel;have hva:∃a c,v=xL a i c:=by
   have⟨ls,h3,h4,_⟩:=HS.o.late;have⟨a,c,e,_⟩:=h3.aq;rw[h4]at e;exact⟨a,c,e⟩
  obtain⟨a,c,rfl⟩:=hva;have hPl:=HS.o.lt;have HNO:Hd (¬bu (xL a i c) (FD M w b P) wr):=λh=>Nat.lt_irrefl _ (HS.o.bd HC.o lF.o _ h);have hbP:=HC.o.b2;by_cases bH:i<n
  .have⟨o,ho⟩:=eG x.aP i (by rw[HN.o];exact bH);have⟨b',off,cap,va,vc,hv,hbl,hvs,hcells⟩:=HO.o i o ho;obtain⟨rfl,rfl⟩:oa=some ⟨b',off,none⟩/\oc=cap:=by first|simpa using hv|(rw[HN.o]at hv;simpa using hv)
   have⟨g0,g1,g2,g3⟩:=hcells wr HS.o.bx.1;have HOO:=ag ho;have⟨k,ln,hl⟩:=WG.o P p b HC.o i o ho;have HL:=ag (λob=>hl (wr.alloc ob) (xL la x.aK.length lc) (xL a i c) (xL va o.aZ.length vc) q0 q1 i (HS.o.ae HC.o (dS.alloc bT ob)) hvs);obtain⟨oi,occ,ov,os⟩:=o;dsimp only at*;clear hcells hv ho hl hvs;go_wp2_with fail;refine(HL.o _).mono ?_;rintro e w4⟨us,uv,rfl,ki,hsl,hst,hon⟩;have Cq:=hsl;obtain⟨ua,uc,rfl,_⟩:=Cq.aq;have Uf:dk w4 wr (eh ⟨oi,occ,ov,os⟩ (xL va os.length vc)):=hon.at_ (Qbh wr _) (by omega);have Yc:wr.heap.size<w4:=(Qaa.1 Uf).1;have qd6:=ag hst;have gO:=ag hsl;have nj:=ag ki;have HCP:=ag Uf;clear hsl hst hon ki Uf g0 g1 g2 g3;go_upto_region 14 with fail;have⟨W5,hW5⟩:=bY (w4.alloc (eh ⟨oi,(k:Int),(ln:Int),us⟩ (xL ua us.length uc)));have hz5:w4.heap.size+1<=W5:=by rw[hW5];simp
   have vH:=ag (show j9 x M w P p b (xL la x.aK.length lc) q0 q1 W5 i i (xL a i c)by rw[hW5];exact qd6.o.ae HC.o bU);have HN5:=ag (show dk W5 w4 (eh ⟨oi,(k:Int),(ln:Int),us⟩ (xL ua us.length uc))by rw[hW5];exact Qbh w4 _);have qd7:=ag (show dk W5 wr (eh ⟨oi,occ,ov,os⟩ (xL va os.length vc))by rw[hW5];exact(Qcb w4 _ _ Yc).trans HCP.o);have Ww:Hd (∀o',ab (bu (xL a i c) (FD M w b P)) (W5.alloc o') (xL ua us.length uc) us):=λo'=>by rw[hW5];exact gO.o.ae (bU.alloc (by simp) o')
   unfold eh at hW5;rw[<-hW5];clear hW5;have qgq:=vH.o.lt;have⟨p0,p1⟩:=ak vH.o.g;have⟨n0,n1,n2,n3⟩:=af HN5.o;have⟨ls,hacc,hlen,hlt6⟩:=vH.o.late;have lD:=ag hacc;have ku:=ag hlen;have qd8:=ag hlt6;clear hacc hlen hlt6;have qgr:i<=500:=by omega
   have fq:Hd (∀o',aD.rep (α:=bF) (bu (xL a i c) (FD M w b P)) (W5.alloc o') [xI oi,xI (k:Int),xI (ln:Int),xL ua us.length uc] ⟨oi,(k:Int),(ln:Int),us⟩):=λo'=>⟨_,rfl,Ww.o o'⟩;go_upto_region 15 with(
    at_builtin;refine bo (α:=bF) rfl _ _ _ rfl (FD M w b P) (P+2) 66 i0 _ 48 underlying32 hi0 hz0 hz1 hz2 rfl (by decide) (.slice a i c) ls rfl (lD.o.alloc _) (λ_=>True) _ _ ⟨oi,(k:Int),(ln:Int),us⟩ rfl (cF _ _ _ _ rfl trivial) (fq.o _) (by rw[ku.o];unfold maxLen;omega) (by rw[ku.o];omega) (by simp;omega) ?_;rw[ku.o];intro a2 c2 w6 bD dK bE;have tj:=ag (vH.o.next HC.o (o:=⟨oi,(k:Int),(ln:Int),us⟩) nj.o _ ku.o qd8.o bD dK bE);have hp6:bW w6 (P+1) (jl (xL a i c) P):=(bE.block _ (by omega)).trans ((Qcb W5 _ _ (by omega)).trans vH.o.g);have p6:=(ak hp6).1;have f6:=aj hp6 0;have hc6:dk w6 wr (eh ⟨oi,occ,ov,os⟩ (xL va os.length vc)):=(dK.only.block _ (by simp;omega) HNO.o).trans ((Qcb W5 _ _ (by omega)).trans qd7.o);have HC6:Hd ((w6.setCell (P+1,0) (xL a2 (i+1) c2)).heap[wr.heap.size]? =some (eh ⟨oi,occ,ov,os⟩ (xL va os.length vc))):=(Qag _ _ _ _ (by show wr≠P+1;omega)).trans hc6;clear bD dK bE hp6 hc6);have⟨W7',hW7'⟩:=bY (w6.setCell (P+1,0) (xL a2 (i+1) c2));rw[<-hW7']at tj HC6⊢;clear hW7' p6 f6 p0 p1 n0 n1 n2 n3;have⟨p0,p1⟩:=ak tj.o.g;have⟨n0,n1,n2,n3⟩:=af HC6.o;have⟨W8,hrun,hst8⟩:=tj.o.put HWK.o HC.o HOO.o;have qd9:=ag hst8;clear hst8;go_wp2;go_roundg(n-(i+1));case measure=>omega
   case rel=>exact⟨i+1,_,by omega,rfl,by go_num,rfl,qd9⟩
  .obtain rfl:i=n:=by omega
   have⟨p0,p1⟩:=ak HS.o.g;have⟨c0,c1,c2,c3⟩:=af (my.o _ HS.o.bx);have HGR:=ag (v8.o wr _ P p b _ _ _ wr HS.o HC.o (ao.refl _ _));go_wp2_with fail;refine cC (HWH.o _ _ _ HS.o.bx.1 HGR.o) λw7 gP=> ?_;have zH:=ag (HS.o.ae HC.o gP);clear gP p0 p1 c0 c1 c2 c3;have⟨p0,p1⟩:=ak zH.o.g;have⟨r0,r1⟩:=ak (qu.o _ zH.o.bx);have⟨f0,f1⟩:=mu (qu.o _ zH.o.bx);have qgs:P+1≠w.heap.size+1:=by have:=HC.o.b1;omega
   have pJ:Hd (∀W',W'=(w7.setCell ([w],0) (xL a i c)).setCell ([w],1) (.map (some P))->(∃lt pm,Value.tuple #[.agg #[xL a i c, .map (some P)],xI 0]= .tuple #[.agg #[lt, .map (some pm)],xI 0]/\Cz x M W' lt pm)/\aC w W'):=λW' hW'=>by
    refine⟨⟨_,_,rfl,v8.o w7 _ P p b _ _ _ W' zH.o HC.o ?_⟩,?_⟩
    .rw[hW'];exact((ao.refl (λk=>k=[w]) w7).setCell (p:=⟨[w],0,none⟩) (.inl rfl) _).setCell (p:=⟨[w],1,none⟩) (.inl rfl) _
    .rw[hW'];exact(zH.o.bx.1.setCell (by simp) _).setCell (by simp) _
   go_wp2_with fail;exact Qae (v:= .tuple #[.agg #[xL a i c, .map (some P)],xI 0]) (by simp[results,results21,go_sem,r0,r1,f0,f1]) rfl ⟨_,rfl,pJ.o _ rfl⟩
end
section
open Go.RowKit Go.Shelf
open Go.ChangeMaps (setBlock heap_setBlock_same heap_setBlock_other)
theorem JI.aq(h:JI W l v w'):∃za,v=xL za l.length l.length:=by
 rcases h with⟨rfl,rfl⟩|⟨B,h0,hB,rfl,hr⟩<;>exact⟨_,rfl⟩
theorem JI.stay(h:JI W l v w1)(hw:w.heap.size<=W)(hz:w1.heap.size<=w2)(hk:∀k,W.heap.size<=k->k<w1.heap.size->w2.heap[k]? =w1.heap[k]?):JI w l v w2:=by
 rcases h with⟨rfl,rfl⟩|⟨B,h0,hB,rfl,hr⟩
 .exact .inl ⟨rfl,rfl⟩
 .exact .inr ⟨B,h0,by omega,rfl,hr.stay p8 hz λk k1 k2=>hk k (by omega) k2⟩
def uY {fs:List aH}{x:bF}(h:bA fs ay x.aZ)(hl:x.aZ.length<=12)(M:aV)(w:ax)(v:aA)(hM:Bd M w)(hs:ab M w v x.aZ):
 xG 88 #[.agg #[x.id,x.cL,x.cQ,v]] w λu w'=>∃za,u= .agg #[x.id,x.cL,x.cQ,xL za x.aZ.length x.aZ.length]/\∀w0:ax,w0.heap.size<=↑w+2->JI w0 x.aZ (xL za x.aZ.length x.aZ.length) w':=by
 have CK:Hd (∀W,aC w W->w.heap.size+2<=W->_):=λW hb hz=>uR h hl (dX M w 2) W v (dt hM hz) (hs.ev (dj hb));obtain⟨a,cj,rfl,_⟩:=hs.aq;generalize hm:x.aZ.length=m at*;have yU:=ag hm;have cI:=ag (Bx.du w (xK #[x.id,x.cL,x.cQ,xL a m cj] 66) (xK #[xI 0,xI 0,xI 0,()] 66));go_enter func88,ntmps88;go_wp2_with fail;refine(CK.o _ cI.o.1 (by simp)).mono ?_;rintro e w1⟨vx,rfl,hs1,hb1⟩;obtain⟨za,rfl⟩:=hs1.aq;rw[yU.o]at*;have HB:=ag (cI.o.ae hb1);have HCP:=ag hs1;have⟨r0,r1,r2,r3⟩:=af (HB.o.bO rfl);have⟨e0,e1,e2,e3⟩:=af (HB.o.cg rfl);have f3:=aj (HB.o.bO rfl) 3;have⟨g0,g1,g2,g3⟩:=hZ (HB.o.cg rfl);go_wp2_with fail;refine Qae (v:= .agg #[x.id,x.cL,x.cQ,xL za m m]) (by simp[results,results88,go_sem,e0,e1,e2,e3]) rfl ⟨_,rfl,⟨za,rfl,λw0 hw0=> ?_⟩,?_⟩
 .refine HCP.o.stay (by simpa using hw0) (by simp[World.setCell]) λk k1 _=> ?_;have hk:↑w+2<=k:=by simpa using k1
  rw[Qag _ _ _ _ (by simp;omega),Qag _ _ _ _ (by simp;omega),Qag _ _ _ _ (by simp;omega),Qag _ _ _ _ (by simp;omega),Qag _ _ _ _ (by simp;omega)]
 .exact((((HB.o.1.setCell (by simp) _).setCell (by simp) _).setCell (by simp) _).setCell (by simp) _).setCell (by simp) _
end
end Go.Proofs.YtepaofffbkfodaaGreatDoor
