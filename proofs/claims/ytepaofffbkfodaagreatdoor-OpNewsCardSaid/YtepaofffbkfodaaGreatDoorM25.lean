/- A part; no condition. -/
import Derived.Test.YtepaofffbkfodaaGreatDoorM23
import Derived.Test.YtepaofffbkfodaaGreatDoorM24
set_option linter.all false
set_option maxHeartbeats 8000000
set_option maxRecDepth 100000
namespace Go.Proofs.YtepaofffbkfodaaGreatDoor
open Go.Proofs.Tryz
open Go.RowKit Go.Shelf
variable{i j g p B:Nat}{t:TypeId}{c0 c1 c2 c3 sv fv:aA}{W W' w3 wx:ax}{ls:List aQ}
abbrev qS(o:bF)(vv:aA):aA:= .agg #[o.id,o.cL,o.cQ,vv]
def fV(M:aV)(w:ax)(b:Nat)(l:List bF):Prop:=∃es clk,fF dO w b es clk/\(∀p∈es,∃o vv,o∈l/\p.1=o.id/\p.2.1=qS o vv/\ab M w vv o.aZ)/\(∀o∈l,o.id∈es.map (·.1))
def iq(w:ax)(b:Nat)(l:List bj):Prop:=∃es clk,fF fw w b es clk/\(∀p∈es,∃r,r∈l/\p.1=r.ai/\p.2.1=xI r.id)/\(∀r∈l,r.ai∈es.map (·.1))
section
variable {M M':aV}{w w':ax}{b:Nat}{l:List bF}{rs:List bj}
theorem fV.lt(h:fV M w b l):b<w:=by obtain⟨es,clk,h1,_⟩:=h;exact h1.lt
theorem iq.lt(h:iq w b rs):b<w:=by obtain⟨es,clk,h1,_⟩:=h;exact h1.lt
theorem fV.ev(h:fV M w b l)(hv:Ev M w M' w')(hb:w'.heap[b]? =w.heap[b]?):fV M' w' b l:=by
 obtain⟨es,clk,h1,h2,h3⟩:=h;refine⟨es,clk,h1.same _ hb,λp hp=> ?_,h3⟩;have⟨o,vv,k1,k2,k3,k4⟩:=h2 p hp;exact⟨o,vv,k1,k2,k3,k4.ev hv⟩
theorem iq.ev(h:iq w b rs)(hb:w'.heap[b]? =w.heap[b]?):iq w' b rs:=by
 obtain⟨es,clk,h1,h2,h3⟩:=h;exact⟨es,clk,h1.same _ hb,h2,h3⟩
theorem fV.ae(h:fV M w b l)(hb:aC w w'):fV M w' b l:=h.ev (Ev.az hb) (hb.block _ h.lt)
theorem iq.ae(h:iq w b rs)(hb:aC w w'):iq w' b rs:=h.ev (hb.block _ h.lt)
theorem fV.ext(h:fV M w b l){l':List bF}(he:∀o,o∈l↔o∈l'):fV M w b l':=by
 obtain⟨es,clk,h1,h2,h3⟩:=h;refine⟨es,clk,h1,λp hp=> ?_,λo ho=>h3 o ((he o).2 ho)⟩;have⟨o,vv,k1,k2⟩:=h2 p hp;exact⟨o,vv,(he o).1 k1,k2⟩
theorem iq.ext(h:iq w b rs){l':List bj}(he:∀o,o∈rs↔o∈l'):iq w b l':=by
 obtain⟨es,clk,h1,h2,h3⟩:=h;refine⟨es,clk,h1,λp hp=> ?_,λo ho=>h3 o ((he o).2 ho)⟩;have⟨o,k1,k2⟩:=h2 p hp;exact⟨o,(he o).1 k1,k2⟩
theorem fV.at_(h:bW w b (.map #[] 0)):fV M w b []:=⟨[],0,⟨h,by simp,by simp,by simp⟩,by simp,by simp⟩
theorem iq.at_(h:bW w b (.map #[] 0)):iq w b []:=⟨[],0,⟨h,by simp,by simp,by simp⟩,by simp,by simp⟩
def AI(x:Int)(w:ax):(Instr.keyThatStays (dO x) (dO x)).run prog w= .ok (dO x) w:=by
 have hsb:Instr.sameBits 10000 x (xI x)=true:=by
  show Instr.sameBits (9999+1) _ _=true;rw[Instr.sameBits]<;>simp
 simp[Instr.keyThatStays,dO,hsb]
def AJ(x:aY)(w:ax):(Instr.keyThatStays (fw x) (fw x)).run prog w= .ok (fw x) w:=by
 have hsb:Instr.sameBits 10000 x (xS x)=true:=by
  have h:∀n,Instr.sameBits n x (xS x)=true:=λn=>by
   have hx:(x==x)=true:=by
    first
    |(exact beq_self_eq_true x)
    |(cases x with|mk d=>show(d==d)=true;simp;done)
    |(cases x with|mk d=>simp[BEq.beq];done)
    |(unfold BEq.beq;rfl)
   cases n<;>(rw[Instr.sameBits];exact hx)
  exact h 10000
 simp[Instr.keyThatStays,fw,hsb]
def qb:mf fw prog 9:=Aw fw .string lj underlying9
theorem fV.put {o:bF}{vv:aA}(h:fV M w b l)(hM:M b)(hv:ab M w vv o.aZ):∃w',(Instr.mapUpdate 113 (.map (some b)) o.id (qS o vv)).run prog w= .ok () w'/\fV M w' b (mg l o)/\ao (λi=>i=b) w w':=by
 obtain⟨es,clk,h1,h2,h3⟩:=h;have⟨w',es',clk',k1,k2,k3,_,k5⟩:=fF.put (K:=dO) (P:=prog) underlying113 eo eO AI h1 o.id (qS o vv);have hE:Ev M w M w':=⟨k5.mono λi hi=>by rw[show i=b from hi];exact hM,λi hi=> .inl hi⟩;refine⟨w',k1,⟨es',clk',k2,λp hp=> ?_,λq hq=> ?_⟩,k5⟩
 .have e:=mS k2.keys hp;rw[k3]at e;by_cases Q1:p.1=o.id
  .rw[if_pos Q1]at e;exact⟨o,vv,sC.2 (.inr rfl),Q1,(Option.some.inj e).symm,hv.ev hE⟩
  .rw[if_neg Q1]at e;have⟨q,hq,e1,e2⟩:=mT e;have⟨o',vv',j1,j2,j3,j4⟩:=h2 q hq;exact⟨o',vv',sC.2 (.inl ⟨j1,by rw[<-j2,e1];exact Q1⟩),by rw[<-e1];exact j2,by rw[<-e2];exact j3,j4.ev hE⟩
 .have e:=k3 q.id;refine Classical.byContradiction λhn=> ?_;rw[dR.2 hn]at e;rcases sC.1 hq with⟨j1,j2⟩|rfl
  .rw[if_neg j2]at e;exact dR.1 e.symm (h3 q j1)
  .rw[if_pos rfl]at e;cases e
theorem iq.put {r:bj}(h:iq w b rs):∃w',(Instr.mapUpdate 114 (.map (some b)) r.ai r.id).run prog w= .ok () w'/\iq w' b (mh rs r)/\ao (λi=>i=b) w w':=by
 obtain⟨es,clk,h1,h2,h3⟩:=h;have⟨w',es',clk',k1,k2,k3,_,k5⟩:=fF.put (K:=fw) (P:=prog) underlying114 qb jT AJ h1 r.ai (.int .i64 r.id);refine⟨w',k1,⟨es',clk',k2,λp hp=> ?_,λq hq=> ?_⟩,k5⟩
 .have e:=mS k2.keys hp;rw[k3]at e;by_cases Q1:p.1=r.ai
  .rw[if_pos Q1]at e;exact⟨r,ji.2 (.inr rfl),Q1,(Option.some.inj e).symm⟩
  .rw[if_neg Q1]at e;have⟨q,hq,e1,e2⟩:=mT e;have⟨r',j1,j2,j3⟩:=h2 q hq;exact⟨r',ji.2 (.inl ⟨j1,by rw[<-j2,e1];exact Q1⟩),by rw[<-e1];exact j2,by rw[<-e2];exact j3⟩
 .have e:=k3 q.ai;refine Classical.byContradiction λhn=> ?_;rw[dR.2 hn]at e;rcases ji.1 hq with⟨j1,j2⟩|rfl
  .rw[if_neg j2]at e;exact dR.1 e.symm (h3 q j1)
  .rw[if_pos rfl]at e;cases e
end
def Ez {l ys zs:List bF}{ks:List Int}(hl:(cA l).Pairwise (·< ·))(hk:ks.Nodup)(hy:cA ys=ks)(kx:∀o∈ys,o∈l)(hall:∀o∈l,o.id∈ks)(hp:ys.Perm zs)(hs:(zs.map bF.id).Pairwise (λa b=>decide (b<a)=false)):zs=l:=by
 have WJ:(zs.map bF.id).Nodup:=(hp.map bF.id).nodup_iff.1 (by unfold cA at hy;rw[hy];exact hk);have hz:(cA zs).Pairwise (·< ·):=by
  unfold cA;rw[List.pairwise_iff_getElem]at hs⊢;intro i j hi hj hij;have h1:=hs i j hi hj hij;have h2:(zs.map bF.id)[i]≠(zs.map bF.id)[j]:=λe=>by
   exact List.pairwise_iff_getElem.1 WJ i j hi hj hij e
  simp only[decide_eq_false_iff_not]at h1;omega
 refine O1 hz hl λo=>⟨λho=>kx o (hp.mem_iff.2 ho),λho=> ?_⟩;have h1:=hall o ho;rw[<-hy]at h1;have⟨y,hy1,hy2⟩:=Qdh.1 h1;have h3:=kx y hy1;have⟨i,hi⟩:=Qdg h3;have⟨j,hj⟩:=Qdg ho;have:=jJ hl hi hj hy2;subst this;rw[hi]at hj;cases hj;exact hp.mem_iff.1 hy1
def pq {l:List bj}(h:eN l){o p:bj}(hi:l[i]? =some o)(hj:l[j]? =some p)(he:o.ai=p.ai):i=j:=by
 have e1:(l.map bj.ai)[i]? =some o.ai:=by rw[List.getElem?_map,hi];rfl
 have e2:(l.map bj.ai)[j]? =some p.ai:=by rw[List.getElem?_map,hj];rfl
 have⟨l1,g1⟩:=Qad.1 e1;have⟨l2,g2⟩:=Qad.1 e2;have key:∀{a b:Nat}(ha:a<(l.map bj.ai).length)(hb:b<(l.map bj.ai).length),a<b->(l.map bj.ai)[a]≠(l.map bj.ai)[b]:=λha hb hab e=>by
  have:=List.pairwise_iff_getElem.1 h _ _ ha hb hab;rw[e,cZ]at this;cases this
 rcases Nat.lt_trichotomy i j with hl|hl|hl
 .exact absurd (by rw[g1,g2,he]) (key l1 l2 hl)
 .exact hl
 .exact absurd (by rw[g1,g2,he]) (key l2 l1 hl)
def B3 {l ys zs:List bj}{ks:List aY}(hl:eN l)(hk:ks.Nodup)(hy:ys.map bj.ai=ks)(kx:∀o∈ys,o∈l)(hall:∀o∈l,o.ai∈ks)(hp:ys.Perm zs)(hs:(zs.map bj.ai).Pairwise (λa b=>eP b a=false)):zs=l:=by
 have WJ:(zs.map bj.ai).Nodup:=(hp.map bj.ai).nodup_iff.1 (by rw[hy];exact hk);have hz:eN zs:=by
  unfold eN;rw[List.pairwise_iff_getElem]at hs⊢;intro i j hi hj hij;have h1:=hs i j hi hj hij;have h2:(zs.map bj.ai)[i]≠(zs.map bj.ai)[j]:=λe=>by
   exact List.pairwise_iff_getElem.1 WJ i j hi hj hij e
  rcases mV (zs.map bj.ai)[i] (zs.map bj.ai)[j]with e|e|e
  .exact e
  .exact absurd e h2
  .rw[h1]at e;cases e
 refine LJ hz hl λo=>⟨λho=>kx o (hp.mem_iff.2 ho),λho=> ?_⟩;have h1:=hall o ho;rw[<-hy]at h1;have⟨y,hy1,hy2⟩:=Qdh.1 h1;have h3:=kx y hy1;have⟨i,hi⟩:=Qdg h3;have⟨j,hj⟩:=Qdg ho;have:=pq hl hi hj hy2;subst this;rw[hi]at hj;cases hj;exact hp.mem_iff.1 hy1
def EA(sv:aA)(p mo mr:Nat)(next:Int):Obj:=xK #[sv,xP p, .map (some mo), .map (some mr),next] 168
def dq {c4:aA}(h:bW W g (xK #[c0,c1,c2,c3,c4] t)):bJ W g 0 c0/\bJ W g 1 c1/\bJ W g 2 c2/\bJ W g 3 c3/\bJ W g 4 c4:=by simp[World.cell?,h]
def iC(M:aV)(B b mo mr:Nat):Nat->Prop:=λi=>M i\/i=B\/i=b\/i=mo\/i=mr
structure sW(w:ax)(B p b mo mr:Nat):Prop where
 B0:w<=B
 p0:w<=p
 b0:w<=b
 o0:w<=mo
 r0:w<=mr
 pb:p≠b
 Bp:B≠p
 Bb:B≠b
 Bo:B≠mo
 Br:B≠mr
 op:mo≠p
 ob:mo≠b
 or:mo≠mr
 rp:mr≠p
 rb:mr≠b
structure cz(x:aW)(M:aV)(B p b mo mr:Nat)(sv:aA)(W:ax):Prop where
 cell:W.heap[B]? =some (EA sv p mo mr x.next)
 book:jk x.aK M p b sv W
 aP:fV M W mo x.aP
 aF:iq W mr x.aF
theorem jk.lt {M:aV}{b:Nat}{w:ax}(h:jk ls M p b sv w):p<w/\b<w:=by
 obtain⟨h1,_,es,clk,h3,_⟩:=h;exact⟨(Qaa.1 h1).1,(Qaa.1 h3).1⟩
theorem cz.ev {x:aW}{M M':aV}{b mo mr:Nat}(h:cz x M B p b mo mr sv W)(hv:Ev M W M' W')(hB:W'.heap[B]? =W.heap[B]?)(hp:W'.heap[p]? =W.heap[p]?)(hb:W'.heap[b]? =W.heap[b]?)(ho:W'.heap[mo]? =W.heap[mo]?)(hr:W'.heap[mr]? =W.heap[mr]?):cz x M' B p b mo mr sv W':=
 ⟨hB.trans h.cell,h.book.ev hv hp hb,h.aP.ev hv ho,h.aF.ev hr⟩
theorem cz.ae {x:aW}{M:aV}{b mo mr:Nat}(h:cz x M B p b mo mr sv W)(hb:aC W W'):cz x M B p b mo mr sv W':=
 h.ev (Ev.az hb) (hb.block _ (Qaa.1 h.cell).1) (hb.block _ h.book.lt.1) (hb.block _ h.book.lt.2) (hb.block _ h.aP.lt) (hb.block _ h.aF.lt)
def LS {l:List bF}(h:(cA l).Pairwise (·< ·)){i:Nat}{o:bF}(ho:l[i]? =some o)(q:bF):q∈mg (l.take i) o↔q∈l.take (i+1):=by
 rw[sC,Qbb,ho];simp only[Option.toList_some,Qch,Qea];constructor
 .rintro(⟨h1,_⟩|h1)
  .exact .inl h1
  .exact .inr h1
 .rintro(h1|h1)
  .refine .inl ⟨h1,λe=> ?_⟩;have⟨j,hj⟩:=Qdg h1;rw[List.getElem?_take]at hj;split at hj
   .rename_i bH;have:=jJ h hj ho e;omega
   .cases hj
  .exact .inr h1
def LU {l:List bj}(h:eN l){i:Nat}{o:bj}(ho:l[i]? =some o)(q:bj):q∈mh (l.take i) o↔q∈l.take (i+1):=by
 rw[ji,Qbb,ho];simp only[Option.toList_some,Qch,Qea];constructor
 .rintro(⟨h1,_⟩|h1)
  .exact .inl h1
  .exact .inr h1
 .rintro(h1|h1)
  .refine .inl ⟨h1,λe=> ?_⟩;have⟨j,hj⟩:=Qdg h1;rw[List.getElem?_take]at hj;split at hj
   .rename_i bH;have:=pq h hj ho e;omega
   .cases hj
  .exact .inr h1
def YW(sv:aA)(p:Nat)(next:Int):Obj:=xK #[sv,xP p, .map none, .map none,next] 168
structure Xp(ls:List aQ)(nx:Int)(M:aV)(w:ax)(o0:Obj)(B p b:Nat)(lv:aA)(wx:ax):Prop where
 cell:wx.heap[B]? =some (YW lv p nx)
 book:∀N:aV,(∀i,N i->M i\/w.heap.size+1<=i)->jk ls N p b lv wx
 bx:Bx w [o0] wx
 B0:w.heap.size+1<=B
 p0:w.heap.size+1<=p
 b0:w.heap.size+1<=b
 pb:p≠b
 Bp:B≠p
 Bb:B≠b
theorem Xp.of {nx:Int}{M:aV}{w:ax}{o0:Obj}{p b:Nat}{lv:aA}(hbx:Bx w [o0] w3)(hbk:∀N:aV,(∀i,N i->M i\/w.heap.size+1<=i)->jk ls N p b lv w3)(hp:w.heap.size+1<=p)(hb:w.heap.size+1<=b)(th:p≠b):Xp ls nx M w o0 w3 p b lv (w3.alloc (YW lv p nx)):=by
 have hl:=(hbk M (λi hi=> .inl hi)).lt;have hz:=hbx.bQ;simp only[Qcc,Qcd]at hz;have hbl:aC w3 (w3.alloc (YW lv p nx)):=bU;exact⟨Qbh w3 _,λN hN=>(hbk N hN).ev (Ev.az hbl) (hbl.block _ hl.1) (hbl.block _ hl.2),hbx.alloc _,by omega,hp,hb,th,by omega,by omega⟩
def Vb(wx:ax)(B:Nat):ax:=(((wx.setCell (B,2) (.map (some wx.heap.size))).setCell (B,3) (.map (some [wx]))).alloc (.map #[] 0)).alloc (.map #[] 0)
theorem Xp.start {nx:Int}{M:aV}{w:ax}{o0:Obj}{B p b:Nat}{lv:aA}(h:Xp ls nx M w o0 B p b lv wx)(hM:Bd M w):
 Bx w [o0] (Vb wx B)/\cz ⟨ls,[],[],nx⟩ (iC M B b wx [wx]) B p b wx [wx] lv (Vb wx B)/\sW w B p b wx [wx]:=by
 have SZ:=(Qaa.1 h.cell).1;have hl:=(h.book M (λi hi=> .inl hi)).lt;have h0:=h.B0;have h1:=h.p0;have h2:=h.b0;have h3:=h.pb;have h4:=h.Bp;have h5:=h.Bb;have⟨W1,hW1⟩:=bY ((wx.setCell (B,2) (.map (some wx.heap.size))).setCell (B,3) (.map (some [wx])));have hz1:W1.heap.size=wx:=by rw[hW1];simp
 have ho:ao (λi=>i=B) wx W1:=by rw[hW1];exact((ao.refl (λi=>i=B) _).setCell (.inl rfl) _).setCell (.inl rfl) _
 have hcell:bW W1 B (EA lv p wx [wx] nx):=by
  have e1:=Qca wx B 2 _ _ (.map (some wx.heap.size)) h.cell;have e2:=Qca _ B 3 _ _ (.map (some [wx])) e1;rw[hW1];simpa [EA]using e2
 have T2:Vb wx B=(W1.alloc (.map #[] 0)).alloc (.map #[] 0):=by unfold Vb;rw[hW1]
 have b2:aC W1 (Vb wx B):=by rw[T2];exact bU.alloc (by simp) _
 have hC:sW w B p b wx [wx]:=⟨by omega,by omega,by omega,by have:=h.bx.1.size;omega,by have:=h.bx.1.size;omega,h3,h4,h5,by omega,by omega,by omega,by omega,by omega,by omega,by omega⟩;refine⟨(h.bx.only ho (λi hi=>by subst hi;simp;omega)).ae b2,⟨(b2.block B (by omega)).trans hcell,?_,?_,?_⟩,hC⟩
 .refine((h.book (iC M B b wx [wx]) (λi hi=> ?_)).ev ⟨ho.mono (λi hi=> .inr (.inl hi)),λi hi=> .inl hi⟩ (ho.block _ hl.1 (by omega)) (ho.block _ hl.2 (by omega))).ev (Ev.az b2) (b2.block _ (by omega)) (b2.block _ (by omega));have hz:=h.bx.bQ;simp only[Qcc,Qcd]at hz;rcases hi with hi|hi|hi|hi|hi
  .exact .inl hi
  all_goals(right;omega)
 .refine fV.at_ ?_;rw[T2,<-hz1];exact(((Qbg _ (W1.alloc (.map #[] 0))).alloc bT _).block W1 (by simp)).trans (Qbh W1 _)
 .refine iq.at_ ?_;rw[T2];have:=Qbh (W1.alloc (.map #[] 0)) (.map #[] 0);simpa [hz1]using this
structure FC(x:aW)(M:aV)(w:ax)(o0:Obj)(B p b mo mr:Nat)(lv:aA)(i j:Nat)(wr:ax):Prop where
 bx:Bx w [o0] wr
 bn:cz ⟨x.aK,x.aP.take i,x.aF.take j,x.next⟩ (iC M B b mo mr) B p b mo mr lv wr
section
variable {x:aW}{M:aV}{w wr W:ax}{o0:Obj}{B p b mo mr:Nat}{lv:aA}{i j:Nat}
theorem FC.ae(h:FC x M w o0 B p b mo mr lv i j wr)(hb:aC wr W):FC x M w o0 B p b mo mr lv i j W:=⟨h.bx.ae hb,h.bn.ae hb⟩
theorem FC.put(h:FC x M w o0 B p b mo mr lv i j wr)(c:sW w B p b mo mr)(hr:(cA x.aP).Pairwise (·< ·))(hM:Bd M w)(h0:w.heap.size+1<=mo){o:bF}(ho:x.aP[i]? =some o){vv:aA}(hv:ab M w vv o.aZ):∃W',(Instr.mapUpdate 113 (.map (some mo)) o.id (qS o vv)).run prog wr= .ok () W'/\FC x M w o0 B p b mo mr lv (i+1) j W':=by
 have c1:=c.B0;have c2:=c.b0;have c3:=c.o0;have c4:=c.r0;have hE:Ev M w (iC M B b mo mr) wr:=⟨ao.az h.bx.1,λk hk=>by
  rcases hk with hk|hk|hk|hk|hk
  .exact .inl hk
  all_goals(right;omega)⟩;have⟨W',e1,e2,e3⟩:=h.bn.aP.put (o:=o) (vv:=vv) (.inr (.inr (.inr (.inl rfl)))) (hv.ev hE);refine⟨W',e1,h.bx.only e3 (λk hk=>by have:k=mo:=hk;simp;omega),?_,?_,e2.ext (LS hr ho),?_⟩
 .exact(e3.block _ (Qaa.1 h.bn.cell).1 c.Bo).trans h.bn.cell
 .exact h.bn.book.ev ⟨e3.mono (λk hk=> .inr (.inr (.inr (.inl hk)))),λk hk=> .inl hk⟩ (e3.block _ h.bn.book.lt.1 (λe=>c.op e.symm)) (e3.block _ h.bn.book.lt.2 (λe=>c.ob e.symm))
 .exact h.bn.aF.ev (e3.block _ h.bn.aF.lt (λe=>c.or e.symm))
theorem FC.mh(h:FC x M w o0 B p b mo mr lv i j wr)(c:sW w B p b mo mr)(hn:eN x.aF)(h0:w.heap.size+1<=mr){r:bj}(ho:x.aF[j]? =some r):∃W',(Instr.mapUpdate 114 (.map (some mr)) r.ai r.id).run prog wr= .ok () W'/\FC x M w o0 B p b mo mr lv i (j+1) W':=by
 have⟨W',e1,e2,e3⟩:=h.bn.aF.put (r:=r);have hE:Ev (iC M B b mo mr) wr (iC M B b mo mr) W':=⟨e3.mono (λk hk=> .inr (.inr (.inr (.inr hk)))),λk hk=> .inl hk⟩;refine⟨W',e1,h.bx.only e3 (λk hk=>by have:k=mr:=hk;simp;omega),?_,?_,?_,e2.ext (LU hn ho)⟩
 .exact(e3.block _ (Qaa.1 h.bn.cell).1 c.Br).trans h.bn.cell
 .exact h.bn.book.ev hE (e3.block _ h.bn.book.lt.1 (λe=>c.rp e.symm)) (e3.block _ h.bn.book.lt.2 (λe=>c.rb e.symm))
 .exact h.bn.aP.ev hE (e3.block _ h.bn.aP.lt c.or)
end
def Vc(x:aW)(hr:(cA x.aP).Pairwise (·< ·))(hn:eN x.aF)(VG:x.aP.length<=1000)(hr5:x.aF.length<=1000)(M:aV)(w:ax)(hM:Bd M w)(lv ov rv:aA)(js:ab M w lv x.aK)(kM:ab M w ov x.aP)(iM:ab M w rv x.aF):
 xC 32 #[.agg #[lv,ov,rv,x.next]] w λe w'=>∃B p b mo mr,e=xR (xP B)/\sW w B p b mo mr/\cz x (iC M B b mo mr) B p b mo mr lv w'/\aC w w':=by
 have Kb:=gQ (w:=w) (λW hb=>BZ x.aK M W (hM.ae hb) lv (js.ae hb));have HO:Hd (∀i o,x.aP[i]? =some o->_):=λi o ho=>iJ kM ho;have HR:Hd (∀i r,x.aF[i]? =some r->_):=λi r hr=>gw iM hr;have lF:=ag hM;have Rh:=ag hr;have FM:=ag hn;have hmk:=λw=>eM 113 w;have qgo:=λw=>eM 114 w;obtain⟨la,lc,rfl,_⟩:=js.aq;obtain⟨oa,oc,rfl,WK,hom,_⟩:=kM.aq;obtain⟨ra,rc,rfl,Qh,V0,_⟩:=iM.aq;clear js kM iM hM hr hn;generalize hnn:x.aP.length=n at*;generalize hmm:x.aF.length=m at*;generalize re:x.next=nx at*;have v8:=ag hnn;clear hnn;have yU:=ag hmm;clear hmm;have tj:=ag re;clear re;have⟨q0,hq0⟩:=bY (cT (xL la x.aK.length lc) (xL oa n oc) (xL ra m rc) nx);have HQ0:=ag hq0;have my:Hd (∀W,Bx w [q0] W->dk W w (cT (xL la x.aK.length lc) (xL oa n oc) (xL ra m rc) nx)):=λW hb=>by rw[<-HQ0.o];exact hb.bO rfl
 clear hq0;go_enter func32,ntmps32;go_upto_region 1 with fail;have⟨W0,hW0⟩:=bY (w.alloc (cT (xL la x.aK.length lc) (xL oa n oc) (xL ra m rc) nx));have cI:=ag (show Bx w [q0] W0 by rw[hW0,HQ0.o];exact Bx.eI w _);have HZE:=ag (show W0.heap.size=[w]by rw[hW0];simp);unfold cT at hW0;rw[<-hW0];clear hW0;have⟨c0,c1,c2,c3⟩:=af (my.o _ cI.o);have HJ:Hd (aC W0 W0):=dS;have dD:Hd (∀W,aC W0 W->ou W w 0 (xL la x.aK.length lc)/\ou W w 3 nx):=λW hb=>by
  have⟨k0,k1,k2,k3⟩:=af (my.o _ (cI.o.ae hb));exact⟨k0,k3⟩
 have iW:Hd (∀W,aC W0 W->aC w W):=λW hb=>(cI.o.ae hb).1;have hz0:=cI.o.bQ;simp only[Qcc,Qcd]at hz0;have Ni:=ag hz0;go_cut [3](λs3 wx=>∃B p b,s3=xP B/\Hd (Xp x.aK nx M w q0 B p b (xL la x.aK.length lc) wx));case first=>
  go_region_held3(λw'=>w'.cell? (w,0)=some (xL la x.aK.length lc)/\w'.cell? (w,3)=some (xI nx))
   (with_reducible first|exact dD.o _ dP.o|exact dD.o _ dP.o.drew|exact dD.o _ HJ.o|exact dD.o _ HJ.o.drew|exact dD.o _ (dP.o.alloc dP.o.size _)|fail)
   (first
     |(go_at_call 55;refine(Kb.o _ (by with_reducible first|exact iW.o _ HJ.o|exact iW.o _ HJ.o.drew)).mono ?_;rintro e w3⟨p,b,rfl,hp1,hb1,th,Fl,hb3,Fs,hbel⟩;have Fq:=ag Fs;have HPB:=ag (And.intro hp1 (And.intro hb1 th));have dP:Hd (aC W0 w3):=(by with_reducible first|exact ag hbel|exact ag (U7 hbel));clear Fs hbel hp1 hb1 th Fl hb3)
     |fail);all_goals(go_wp2;go_meet)
  all_goals
   have hze:=HZE.o;have hp1:W0<=p:=HPB.o.1;have hb1:W0<=b:=HPB.o.2.1;exact⟨_,p,b,rfl,ag (Xp.of (cI.o.ae dP.o) (λN hN=>Fq.o N (λi hi=>(hN i hi).imp_right λh=>(by show W0<=i;omega))) (by omega) (by omega) HPB.o.2.2)⟩
 case rest=>
  obtain⟨B,p,b,rfl,HL⟩:=hcut;have Sy:=ag (HL.o.start lF.o);have SZ:=(Qaa.1 HL.o.cell).1;have bE:∀o o',((wc.alloc o).alloc o').heap[B]? =some (YW (xL la x.aK.length lc) p nx):=λo o'=>((((Qbg _ wc).alloc bT o).alloc (by simp) o').block B SZ).trans HL.o.cell;have hb3:∀u o o',(((wc.setCell (B,2) u).alloc o).alloc o').heap[B]? =some (xK #[xL la x.aK.length lc,xP p,u, .map none,nx] 168):=λu o o'=>((((Qbg _ (wc.setCell (B,2) u)).alloc bT o).alloc (by simp) o').block B (by simpa using SZ)).trans (by have:=Qca wc B 2 _ _ u HL.o.cell;simpa [YW]using this);have v0:=λo o'=>dq (bE o o');have v1:=λo o'=>aj (bE o o') 2;have v3:=λu o o'=>dq (hb3 u o o');have v2:=λu o o'=>aj (hb3 u o o') 3;clear c0 c1 c2 c3 bE hb3;go_upto_region 3 with fail;clear v0 v1 v2 v3 SZ;have⟨W2,hW2⟩:=bY (Vb wc B);rw[<-hW2]at Sy;unfold Vb at hW2;rw[<-hW2];clear hW2;have IT:w.heap.size+1<=wc:=by have h1:=HL.o.bx.bQ;simpa using h1
  generalize wc.heap.size=mo at*;have HC:Hd (sW w B p b mo (mo+1)):=Sy.o.2.2;have ia:Hd (FC x M w q0 B p b mo (mo+1) (xL la x.aK.length lc) 0 0 W2):=⟨Sy.o.1,by simpa [tj.o]using Sy.o.2.1⟩;have A6:=ag IT;clear IT;clear Sy HL;have⟨c0,c1,c2,c3⟩:=af (my.o _ ia.o.bx);go_wp2_with fail;clear c0 c1 c2 c3;go_loopg [5,28]n(λgg _ iv wr=>∃i:Nat,i<=n/\gg=n-i/\iv=xI i/\Hd (FC x M w q0 B p b mo (mo+1) (xL la x.aK.length lc) i 0 wr));case atStart=>exact⟨0,Qbf _,rfl,rfl,ia⟩
  case round=>
   obtain⟨i,hi,rfl,rfl,HS⟩:=hrel;by_cases bH:i<n
   .have⟨o,ho⟩:=eG x.aP i (by rw[v8.o];exact bH);have⟨b',off,cap,va,vc,hv,hbl,hvs,hcells⟩:=HO.o i o ho;obtain⟨rfl,rfl⟩:oa=some ⟨b',off,none⟩/\oc=cap:=by first|simpa using hv|(rw[v8.o]at hv;simpa using hv)
    have⟨q0',q1',q2',q3'⟩:=hcells wr HS.o.bx.1;clear hv hcells;go_upto_region 6 with fail;have⟨W6,hW6⟩:=bY (wr.alloc (eh o (xL va o.aZ.length vc)));have yT:=ag (show dk W6 wr (eh o (xL va o.aZ.length vc))by rw[hW6];exact Qbh wr _);have ux:=ag (show FC x M w q0 B p b mo (mo+1) (xL la x.aK.length lc) i 0 W6 by rw[hW6];exact HS.o.ae bU);have zH:Hd (FC x M w q0 B p b mo (mo+1) (xL la x.aK.length lc) i 0 W6.drew):=ux.o.ae dS.drew;unfold eh at hW6;rw[<-hW6];clear hW6 q0' q1' q2' q3';have⟨wa,ea,ma⟩:=ux.o.put HC.o Rh.o lF.o A6.o ho hvs;have⟨wb,eb,mb⟩:=zH.o.put HC.o Rh.o lF.o A6.o ho hvs;have Nl:=ag ma;have zC:=ag mb;clear ma mb hvs;dsimp only[qS]at ea eb;have⟨x0,x1,x2,x3⟩:=af yT.o;have⟨y0,y1,y2,y3,y4⟩:=dq ux.o.bn.cell;go_region_law fail;all_goals
     clear x0 x1 x2 x3 y0 y1 y2 y3 y4 ea eb;go_wp2;go_roundg(n-(i+1));case measure=>omega
     case rel=>first|exact⟨i+1,by omega,rfl,by go_num,zC⟩|exact⟨i+1,by omega,rfl,by go_num,Nl⟩
   .obtain rfl:i=n:=by omega
    have⟨c0,c1,c2,c3⟩:=af (my.o _ HS.o.bx);go_wp2_with fail;clear c0 c1 c2 c3;go_loopg [7,43]m(λgg _ iv wr=>∃j:Nat,j<=m/\gg=m-j/\iv=xI j/\Hd (FC x M w q0 B p b mo (mo+1) (xL la x.aK.length lc) i j wr));case atStart=>exact⟨0,Qbf _,rfl,rfl,HS⟩
    case round=>
     obtain⟨j,hj,rfl,rfl,HT⟩:=hrel;by_cases bH:j<m
     .have⟨r,hr⟩:=eG x.aF j (by rw[yU.o];exact bH);have⟨b',off,cap,hv,hbl,_,hcells⟩:=HR.o j r hr;obtain⟨rfl,rfl⟩:ra=some ⟨b',off,none⟩/\rc=cap:=by first|simpa using hv|(rw[yU.o]at hv;simpa using hv)
      have⟨q0',q1'⟩:=hcells wr HT.o.bx.1;clear hv hcells;go_upto_region 11 with fail;have⟨W6,hW6⟩:=bY (wr.alloc (xK #[r.ai,r.id] 86));have yT:=ag (show dk W6 wr (xK #[r.ai,r.id] 86)by rw[hW6];exact Qbh wr _);have ux:=ag (show FC x M w q0 B p b mo (mo+1) (xL la x.aK.length lc) i j W6 by rw[hW6];exact HT.o.ae bU);have zH:Hd (FC x M w q0 B p b mo (mo+1) (xL la x.aK.length lc) i j W6.drew):=ux.o.ae dS.drew;rw[<-hW6];clear hW6 q0' q1';have⟨wa,ea,ma⟩:=ux.o.mh HC.o FM.o (by have:=A6.o;omega) hr;have⟨wb,eb,mb⟩:=zH.o.mh HC.o FM.o (by have:=A6.o;omega) hr;have Nl:=ag ma;have zC:=ag mb;clear ma mb;have⟨x0,x1⟩:=ak yT.o;have⟨y0,y1,y2,y3,y4⟩:=dq ux.o.bn.cell;go_region_law fail;all_goals
       clear x0 x1 y0 y1 y2 y3 y4 ea eb;go_wp2;go_roundg(m-(j+1));case measure=>omega
       case rel=>first|exact⟨j+1,by omega,rfl,by go_num,zC⟩|exact⟨j+1,by omega,rfl,by go_num,Nl⟩
     .obtain rfl:j=m:=by omega
      go_wp2;go_ret;refine⟨B,p,b,mo,mo+1,rfl,HC.o,?_,HT.o.bx.1⟩;have hb:=HT.o.bn;rw[Qah (by rw[v8.o];exact bT),Qah (by rw[yU.o];exact bT)]at hb;exact hb
abbrev yg(r:ec)(vv fv:aA):aA:= .agg #[r.an,r.kD.id,r.kD.cL,r.kD.cQ,vv,r.id,r.cQ,r.ai,r.cL.ai,fv,r.pI.an,r.pI.field,r.pI.ai,r.pI.more,r.pI.type.an,r.pI.type.of,r.pI.cX,r.pI.bZ]
def lL(r:ec)(vv fv:aA):Obj:=xK #[r.an,r.kD.id,r.kD.cL,r.kD.cQ,vv,r.id,r.cQ,r.ai,r.cL.ai,fv,r.pI.an,r.pI.field,r.pI.ai,r.pI.more,r.pI.type.an,r.pI.type.of,r.pI.cX,r.pI.bZ] 75
def fG {W:ax}{r:ec}{vv:aA}(h:bW W g (lL r vv fv)):bJ W g 0 r.an/\bJ W g 1 r.kD.id/\bJ W g 2 r.kD.cL/\bJ W g 3 r.kD.cQ/\bJ W g 4 vv/\bJ W g 5 r.id/\bJ W g 6 r.cQ/\bJ W g 7 r.ai/\bJ W g 8 r.cL.ai/\bJ W g 9 fv:=by
 unfold lL at h;simp[World.cell?,h]
def Na(B b mo mr:Nat):Nat->Prop:=λi=>i=B\/i=b\/i=mo\/i=mr
section
variable {x:aW}{M:aV}{w0 W W':ax}{B p b mo mr:Nat}{sv:aA}
theorem sW.bd(c:sW w0 B p b mo mr)(h:cz x (iC M B b mo mr) B p b mo mr sv W)(hb:aC w0 W)(hM:Bd M w0):Bd (iC M B b mo mr) W:=λi hi=>by
 rcases hi with hi|hi|hi|hi|hi
 .exact Qde (hM i hi) hb.size
 .rw[hi];exact(Qaa.1 h.cell).1
 .rw[hi];exact h.book.lt.2
 .rw[hi];exact h.aP.lt
 .rw[hi];exact h.aF.lt
theorem sW.ev(c:sW w0 B p b mo mr)(hb:aC w0 W):Ev M w0 (iC M B b mo mr) W:=⟨ao.az hb,λi hi=>by
 have:=c.B0;have:=c.b0;have:=c.o0;have:=c.r0;rcases hi with hi|hi|hi|hi|hi
 .exact .inl hi
 all_goals(right;omega)⟩
theorem sW.ae(c:sW w0 B p b mo mr)(hb:aC w0 W)(ho:ao (Na B b mo mr) W W'):aC w0 W':=bq hb hb.size ho λi hi=>by
 have:=c.B0;have:=c.b0;have:=c.o0;have:=c.r0;rcases hi with hi|hi|hi|hi<;>omega
theorem cz.YX(h:cz x (iC M B b mo mr) B p b mo mr sv W)(c:sW w0 B p b mo mr)(hk:jk x.aK (iC M B b mo mr) p b sv W')(ho:ao (λi=>i=b) W W'):cz x (iC M B b mo mr) B p b mo mr sv W':=by
 have hE:Ev (iC M B b mo mr) W (iC M B b mo mr) W':=⟨ho.mono λi hi=> .inr (.inr (.inl hi)),λi hi=> .inl hi⟩;exact⟨(ho.block _ (Qaa.1 h.cell).1 c.Bb).trans h.cell,hk,h.aP.ev hE (ho.block _ h.aP.lt c.ob),h.aF.ev (ho.block _ h.aF.lt c.rb)⟩
theorem cz.YY(h:cz x (iC M B b mo mr) B p b mo mr sv W)(c:sW w0 B p b mo mr){o:bF}{vv:aA}(hv:ab (iC M B b mo mr) W vv o.aZ):∃W',(Instr.mapUpdate 113 (.map (some mo)) o.id (qS o vv)).run prog W= .ok () W'/\cz ⟨x.aK,mg x.aP o,x.aF,x.next⟩ (iC M B b mo mr) B p b mo mr sv W'/\ao (λi=>i=mo) W W':=by
 have⟨W',e1,e2,e3⟩:=h.aP.put (o:=o) (vv:=vv) (.inr (.inr (.inr (.inl rfl)))) hv;refine⟨W',e1,⟨?_,?_,e2,?_⟩,e3⟩
 .exact(e3.block _ (Qaa.1 h.cell).1 c.Bo).trans h.cell
 .exact h.book.ev ⟨e3.mono (λk hk=> .inr (.inr (.inr (.inl hk)))),λk hk=> .inl hk⟩ (e3.block _ h.book.lt.1 (λe=>c.op e.symm)) (e3.block _ h.book.lt.2 (λe=>c.ob e.symm))
 .exact h.aF.ev (e3.block _ h.aF.lt (λe=>c.or e.symm))
theorem cz.JN(h:cz x (iC M B b mo mr) B p b mo mr sv W)(c:sW w0 B p b mo mr)(r:bj):∃W',(Instr.mapUpdate 114 (.map (some mr)) r.ai r.id).run prog W= .ok () W'/\cz ⟨x.aK,x.aP,mh x.aF r,x.next⟩ (iC M B b mo mr) B p b mo mr sv W'/\ao (λi=>i=mr) W W':=by
 have⟨W',e1,e2,e3⟩:=h.aF.put (r:=r);have hE:Ev (iC M B b mo mr) W (iC M B b mo mr) W':=⟨e3.mono (λk hk=> .inr (.inr (.inr (.inr hk)))),λk hk=> .inl hk⟩;refine⟨W',e1,⟨?_,?_,?_,e2⟩,e3⟩
 .exact(e3.block _ (Qaa.1 h.cell).1 c.Br).trans h.cell
 .exact h.book.ev hE (e3.block _ h.book.lt.1 (λe=>c.rp e.symm)) (e3.block _ h.book.lt.2 (λe=>c.rb e.symm))
 .exact h.aP.ev hE (e3.block _ h.aP.lt c.or)
theorem cz.Pk(h:cz x (iC M B b mo mr) B p b mo mr sv W)(c:sW w0 B p b mo mr)(n:Int):cz ⟨x.aK,x.aP,x.aF,n⟩ (iC M B b mo mr) B p b mo mr sv (W.setCell (B,4) n)/\ao (λi=>i=B) W (W.setCell (B,4) n):=by
 have e3:ao (λi=>i=B) W (W.setCell (B,4) n):=(ao.refl (λi=>i=B) W).setCell (.inl rfl) _;have hE:Ev (iC M B b mo mr) W (iC M B b mo mr) (W.setCell (B,4) n):=⟨e3.mono (λk hk=> .inr (.inl hk)),λk hk=> .inl hk⟩;refine⟨⟨?_,?_,?_,?_⟩,e3⟩
 .have:=Qca W B 4 _ _ n h.cell;simpa [EA]using this
 .exact h.book.ev hE (e3.block _ h.book.lt.1 (λe=>c.Bp e.symm)) (e3.block _ h.book.lt.2 (λe=>c.Bb e.symm))
 .exact h.aP.ev hE (e3.block _ h.aP.lt (λe=>c.Bo e.symm))
 .exact h.aF.ev (e3.block _ h.aF.lt (λe=>c.Br e.symm))
end
def yh(a b:Int):Int:=if a<b then b else a
def Vd(x:aW)(hx:dF x.aK)(r:ec)(k v:Nat)(l:aQ)(ho:iR x.aK 100000 r.kD k v l)(hid:1<=r.kD.id/\r.kD.id<=100000)(re:1<=x.next/\x.next<=100001)(M:aV)(w0 W:ax)(hM:Bd M w0)(hG:Gd w0)(hb0:aC w0 W)(B p b mo mr:Nat)(hC:sW w0 B p b mo mr)(sv vv fv:aA)(hB:cz x (iC M B b mo mr) B p b mo mr sv W)(hvs:ab M w0 vv r.kD.aZ)(hf1:∃fa fn fc,fv=xL fa fn fc):
 xC 33 #[xP B,yg r vv fv] W λe w'=>e=xR (xI 0)/\cz ⟨x.aK,mg x.aP r.kD,x.aF,yh x.next (r.kD.id+1)⟩ (iC M B b mo mr) B p b mo mr sv w'/\ao (Na B b mo mr) W w':=by
 have WK:GC 100000 r.kD:=by
  have h4:=(Qad.1 ho.line).1;have h5:=hx.len;have h6:=hx.aK l (Qaf ho.line);have h7:=h6.len;have h8:=((bC (aT l v)).1 (h6.kA v).right).2.1;have h9:=ho.aZ.1;have h10:=ho.le;exact⟨by omega,by omega,by rw[ho.cL];omega,by rw[ho.cL];omega,by rw[ho.cQ];omega,by rw[ho.cQ];omega,⟨_,ho.aZ⟩,by omega⟩
 have HRB:Hd (∀W1,aC W W1->_):=λW1 hb=>LR x.aK hx k l ho.line r.kD v 100000 (Int.le_refl _) ho.cL ho.cQ ho.le WK ho.aZ (iC M B b mo mr) w0 W1 ((hC.bd hB hb0 hM).ae hb) hG (hb0.trans (hb.mono hb0.size)) p b hC.pb (.inr (.inr (.inl rfl))) hC.b0 sv vv (hB.ae hb).book ((hvs.ev (hC.ev hb0)).ae hb);have ni:=ag hB;have om:=ag hC;have yS:=ag (hvs.ev (hC.ev hb0):ab (iC M B b mo mr) W vv r.kD.aZ);have Fu:=hvs;obtain⟨va,vc,rfl,_⟩:=Fu.aq;obtain⟨fa,fn,fc,rfl⟩:=hf1;have⟨y0,y1,y2,y3,y4⟩:=dq hB.cell;have MK:=ag (Qaa.1 hB.cell).1;clear hvs Fu hB hC hG hM ho WK hx hb0;have qgp:Hd (∀a b:Int,yh a b=if a<b then b else a):=λa b=>rfl;obtain⟨rk,ro,ri,rv,rn,⟨rcn,WL⟩,⟨rx0,rx1,rx2,rx3,⟨rx4,rx5⟩,rx6,rx7⟩⟩:=r;obtain⟨oi,oc,ov,os⟩:=ro;obtain⟨xl,xo,xr,nx⟩:=x;dsimp only at*;have⟨rD,hrD⟩:=bY ((⟨rk,⟨oi,oc,ov,os⟩,ri,rv,rn,⟨rcn,WL⟩,⟨rx0,rx1,rx2,rx3,⟨rx4,rx5⟩,rx6,rx7⟩⟩:ec));go_enter func33,ntmps33;go_upto_region 1 with fail;have⟨W1,hW1⟩:=bY (W.alloc (lL rD (xL va os.length vc) (xL fa fn fc)));have fp:=ag (show dk W1 W (lL rD (xL va os.length vc) (xL fa fn fc))by rw[hW1];exact Qbh W _);have bz:=ag (show aC W W1 by rw[hW1];exact bU);rw[hrD]at fp hW1;unfold lL at hW1;dsimp only at hW1;rw[<-hW1];clear hW1 hrD y0 y1 y2 y3 y4;have HJ:Hd (aC W1 W1):=dS;have Cy:=ag (Qaa.1 fp.o).1;have dD:Hd (∀V,aC W1 V->bJ V B 1 (xP p)/\ou V W 1 oi/\ou V W 2 oc/\ou V W 3 ov/\ou V W 4 (xL va os.length vc)):=λV hb=>by
  have⟨k0,k1,k2,k3,k4,_⟩:=fG ((hb.block _ Cy.o).trans fp.o);have h5:=(dq ((ni.o.ae bz.o).ae hb).cell).2.1;exact⟨h5,k1,k2,k3,k4⟩
 have qd2:W≠b:=λe=>by have h1:=ni.o.book.lt.2;omega
 have oy:Hd (∀V,ao (λi=>i=b) W1 V->bJ V B 1 (xP p)/\ou V W 1 oi/\ou V W 2 oc/\ou V W 3 ov/\ou V W 4 (xL va os.length vc)):=λV ho=>by
  have⟨k0,k1,k2,k3,k4,_⟩:=fG ((ho.block _ Cy.o qd2).trans fp.o);have h6:=(ni.o.ae bz.o).cell;have h5:=(dq ((ho.block _ (Qaa.1 h6).1 om.o.Bb).trans h6)).2.1;exact⟨h5,k1,k2,k3,k4⟩
 have qj:Hd (∀V,ao (λi=>i=b) W1.drew V->_):=λV ho=>oy.o V (((ao.refl _ W1).drew).trans ho);have⟨z0,z1,z2,z3,z4⟩:=dD.o _ HJ.o;go_cut [12](λs12 wx=>s12=xB false/\Hd (cz ⟨xl,xo,xr,nx⟩ (iC M B b mo mr) B p b mo mr sv wx/\ao (λi=>i=b) W1 wx));case first=>
  go_region_held3(λV=>bJ V B 1 (xP p)/\ou V W 1 oi/\ou V W 2 oc/\ou V W 3 ov/\ou V W 4 (xL va os.length vc))
   (with_reducible first|exact dD.o _ HJ.o|exact dD.o _ HJ.o.drew|exact oy.o _ lI.o|exact qj.o _ lI.o|fail)
   (first
     |(go_at_call 82;refine(HRB.o _ (by with_reducible first|exact bz.o|exact bz.o.drew)).mono ?_;rintro e w3⟨rfl,hbk,hon⟩;have Fq:=ag hbk;have lI:=ag hon;clear hbk hon)
     |fail);all_goals(go_wp2;go_meet)
  all_goals exact⟨rfl,ag ⟨(ni.o.ae bz.o).YX om.o Fq.o (by first|exact lI.o|exact((ao.refl _ W1).drew).trans lI.o),(by first|exact lI.o|exact((ao.refl _ W1).drew).trans lI.o)⟩⟩
 case rest=>
  obtain⟨rfl,HX⟩:=hcut;clear z0 z1 z2 z3 z4;have hbW:W≠b:=λe=>by have h1:=ni.o.book.lt.2;omega
  have XD:=ag ((HX.o.2.block _ Cy.o hbW).trans fp.o);have X8:Hd (ab (iC M B b mo mr) wc (xL va os.length vc) os):=(yS.o.ae bz.o).ev ⟨HX.o.2.mono (λi hi=> .inr (.inr (.inl hi))),λi hi=> .inl hi⟩;have⟨wa,ea,ma⟩:=HX.o.1.YY om.o (o:=⟨oi,oc,ov,os⟩) X8.o;have⟨wb,eb,mb⟩:=(HX.o.1.ae (Qbg _ wc).drew).YY om.o (o:=⟨oi,oc,ov,os⟩) (X8.o.ae (Qbg _ wc).drew);have Nl:=ag ma;have zC:Hd (cz ⟨xl,mg xo ⟨oi,oc,ov,os⟩,xr,nx⟩ (iC M B b mo mr) B p b mo mr sv wb/\ao (λi=>i=mo) wc wb):=⟨mb.1,((ao.refl _ wc).drew).trans mb.2⟩;clear ma mb;dsimp only[qS]at ea eb;have⟨k0,k1,k2,k3,k4,_⟩:=fG XD.o;have⟨y0,y1,y2,y3,y4⟩:=dq HX.o.1.cell;dsimp only at k0 k1 k2 k3 k4;have⟨wr,hwr⟩:=bY (wc);have FH:=ag hwr;clear hwr;go_upto_region 3 with fail;go_cut [](λwx=>Hd (cz ⟨xl,mg xo ⟨oi,oc,ov,os⟩,xr,nx⟩ (iC M B b mo mr) B p b mo mr sv wx/\ao (λi=>i=mo) wr wx));case first=>
   go_region_law fail;all_goals go_wp2_with fail
   all_goals go_meet
   all_goals rw[FH.o]
   all_goals first|exact zC|exact Nl|trace_state
  case rest=>
   clear k0 k1 k2 k3 k4 y0 y1 y2 y3 y4 ea eb Nl zC;have uw:Hd (ao (λi=>i=mo) wr wc):=hcut.o.2;have bV:Hd (cz ⟨xl,mg xo ⟨oi,oc,ov,os⟩,xr,nx⟩ (iC M B b mo mr) B p b mo mr sv wc):=hcut.o.1;have hmW:W≠mo:=λe=>by have h1:=ni.o.aP.lt;omega
   have SG:=XD.o;rw[<-FH.o]at SG;have MS:=ag ((uw.o.block _ (Qaa.1 SG).1 hmW).trans SG);clear SG;have⟨k0,k1,k2,k3,k4,_⟩:=fG MS.o;have⟨y0,y1,y2,y3,y4⟩:=dq bV.o.cell;have g4:=aj bV.o.cell 4;dsimp only at k0 k1 k2 k3 k4 y4;have hw1:IntKind.i64.wrap (oi+1)=oi+1:=Qbe _ (by omega);have⟨mx,hmx⟩:=bY (yh nx (oi+1));have oF:(if nx<oi+1 then oi+1 else nx)=mx:=by rw[hmx];rfl
   have hm2:(if oi+1<nx then nx else oi+1)=mx:=by rw[hmx];unfold yh;split<;>split<;>omega
   have MU:(if nx<=oi+1 then oi+1 else nx)=mx:=by rw[hmx];unfold yh;split<;>split<;>omega
   have hm4:(if oi+1<=nx then nx else oi+1)=mx:=by rw[hmx];unfold yh;split<;>split<;>omega
   have hm5:max nx (oi+1)=mx:=by rw[hmx,Int.max_def];unfold yh;split<;>split<;>omega
   have qd3:=ag hmx;clear hmx;have HN4:Hd (∀V:ax,V=wc.setCell (B,4) mx\/V=wc.drew.setCell (B,4) mx\/V=(wc.setCell (B,4) mx).drew->cz ⟨xl,mg xo ⟨oi,oc,ov,os⟩,xr,mx⟩ (iC M B b mo mr) B p b mo mr sv V/\ao (λi=>i=B) wc V):=λV hV=>by
    rcases hV with rfl|rfl|rfl
    .exact bV.o.Pk om.o mx
    .have:=(bV.o.ae (Qbg _ wc).drew).Pk om.o mx;exact⟨this.1,((ao.refl _ wc).drew).trans this.2⟩
    .have:=bV.o.Pk om.o mx;exact⟨this.1.ae dS.drew,this.2.drew⟩
   have⟨w4,hw4⟩:=bY (wc);have my:=ag hw4;clear hw4;go_upto_region 4 with fail;go_cut [](λwx=>Hd (cz ⟨xl,mg xo ⟨oi,oc,ov,os⟩,xr,mx⟩ (iC M B b mo mr) B p b mo mr sv wx/\ao (λi=>i=B) w4 wx));case first=>
    go_region_law fail;all_goals go_wp2_with fail
    all_goals go_meet
    all_goals rw[my.o]
    all_goals first|exact ag (HN4.o _ (.inl rfl))|exact ag (HN4.o _ (.inr (.inl rfl)))|exact ag (HN4.o _ (.inr (.inr rfl)))|trace_state
   case rest=>
    have HF:Hd (cz ⟨xl,mg xo ⟨oi,oc,ov,os⟩,xr,mx⟩ (iC M B b mo mr) B p b mo mr sv wc/\ao (λi=>i=B) w4 wc):=hcut.o;clear k0 k1 k2 k3 k4 y0 y1 y2 y3 y4 g4;go_wp2;go_ret;refine⟨rfl,by rw[<-qd3.o];exact HF.o.1,?_⟩;have o1:ao (Na B b mo mr) W W1:=ao.az bz.o;have o2:ao (Na B b mo mr) W1 wr:=by rw[FH.o];exact HX.o.2.mono (λi hi=> .inr (.inl hi))
    have o3:ao (Na B b mo mr) wr w4:=by rw[my.o];exact uw.o.mono (λi hi=> .inr (.inr (.inl hi)))
    exact((o1.trans o2).trans o3).trans (HF.o.2.mono (λi hi=> .inl hi))
def R7(x:aW)(r:ec)(hn:aM r.ai=true/\r.ai.size<=maxLen)(hid:1<=r.id/\r.id<=100000)(M:aV)(w0 W:ax)(hb0:aC w0 W)(B p b mo mr:Nat)(hC:sW w0 B p b mo mr)(sv vv fv:aA)(hB:cz x (iC M B b mo mr) B p b mo mr sv W)(hv1:∃fa fn fc,vv=xL fa fn fc)(hf1:∃fa fn fc,fv=xL fa fn fc):
 xC 34 #[xP B,yg r vv fv] W λe w'=>e=xR (xI 0)/\cz ⟨x.aK,x.aP,mh x.aF ⟨r.ai,r.id⟩,x.next⟩ (iC M B b mo mr) B p b mo mr sv w'/\ao (Na B b mo mr) W w':=by
 have FM:Hd (∀W,_):=λW=>sI r.ai hn.1 hn.2 W;have ni:=ag hB;have om:=ag hC;obtain⟨va,vn,vc,rfl⟩:=hv1;obtain⟨fa,fn,fc,rfl⟩:=hf1;clear hB hC hb0 hn;obtain⟨rk,ro,ri,rv,rn,⟨rcn,WL⟩,⟨rx0,rx1,rx2,rx3,⟨rx4,rx5⟩,rx6,rx7⟩⟩:=r;obtain⟨oi,oc,ov,os⟩:=ro;obtain⟨xl,xo,xr,nx⟩:=x;dsimp only at*;have⟨rD,hrD⟩:=bY ((⟨rk,⟨oi,oc,ov,os⟩,ri,rv,rn,⟨rcn,WL⟩,⟨rx0,rx1,rx2,rx3,⟨rx4,rx5⟩,rx6,rx7⟩⟩:ec));go_enter func34,ntmps34;go_upto_region 1 with fail;have⟨W1,hW1⟩:=bY (W.alloc (lL rD (xL va vn vc) (xL fa fn fc)));have fp:=ag (show dk W1 W (lL rD (xL va vn vc) (xL fa fn fc))by rw[hW1];exact Qbh W _);have bz:=ag (show aC W W1 by rw[hW1];exact bU);rw[hrD]at fp hW1;unfold lL at hW1;dsimp only at hW1;rw[<-hW1];clear hW1 hrD;have Cy:=ag (Qaa.1 fp.o).1;obtain⟨-,-,-,-,-,k5,-,k7,-⟩:=fG fp.o;dsimp only at k5 k7;have h1:¬ri<0:=by omega
 have h2:¬100000<ri:=by omega
 go_wp2_with fail;refine cC (FM.o _) λw1 hb1=> ?_;have bg:=ag (bz.o.trans (hb1.mono bz.o.size));have eZ:=ag ((hb1.block _ Cy.o).trans fp.o);clear hb1 k5 k7;obtain⟨-,-,-,-,-,k5,-,k7,-⟩:=fG eZ.o;dsimp only at k5 k7;have h3:¬ri=0:=by omega
 have⟨y0,y1,y2,y3,y4⟩:=dq (ni.o.ae bg.o).cell;dsimp only at y0 y4;have⟨wa,ea,ma⟩:=(ni.o.ae bg.o).JN om.o ⟨rn,ri⟩;have⟨wb,eb,mb⟩:=((ni.o.ae bg.o).ae (Qbg _ w1).drew).JN om.o ⟨rn,ri⟩;have Nl:=ag ma;have zC:Hd (cz ⟨xl,xo,mh xr ⟨rn,ri⟩,nx⟩ (iC M B b mo mr) B p b mo mr sv wb/\ao (λi=>i=mr) w1 wb):=⟨mb.1,((ao.refl _ w1).drew).trans mb.2⟩;clear ma mb;dsimp only at ea eb;go_upto_region 5 with fail;go_cut [](λwx=>Hd (cz ⟨xl,xo,mh xr ⟨rn,ri⟩,nx⟩ (iC M B b mo mr) B p b mo mr sv wx/\ao (λi=>i=mr) w1 wx));case first=>
  go_region_law fail;all_goals go_wp2_with fail
  all_goals go_meet
  all_goals first|exact zC|exact Nl|trace_state
 case rest=>
  clear k5 k7 y0 y1 y2 y3 y4 ea eb Nl zC;go_wp2;go_ret;exact⟨rfl,hcut.o.1,(ao.az bg.o).trans (hcut.o.2.mono λi hi=> .inr (.inr (.inr hi)))⟩
end Go.Proofs.YtepaofffbkfodaaGreatDoor
