/- A part of the proof; no condition. -/
import Derived.Test.YtepaofffbkfodaaGreatDoorM02
import Derived.Deep.RegionLaw
set_option linter.all false
set_option maxHeartbeats 8000000
set_option maxRecDepth 100000
namespace Go.Proofs.YtepaofffbkfodaaGreatDoor
open Tryz
open Go.RowKit
variable{v lv:aA}{w w' w1 w2 W wr wx:ax}{e:TypeId}{base B k i b m K yc cap:Nat}{M N:aV}{en:Int}{a ya:fx}{s:aY}{o0 o1:Obj}
theorem aS.only {α:Type} [aD α]{xs:List α}(h:aS M base e w v xs)(k:ao N w w')(hN:∀i,N i->M i/\i<base):aS M base e w' v xs:=by
 obtain⟨css,h1,h2,h3⟩:=h;have hE:Ev (bu v M) w (bu v M) w':=⟨k.mono λi hi=> .inl (hN i hi).1,λi hi=> .inl hi⟩;refine⟨css,⟨h1.1,?_⟩,h2,λi cs x hc hx=>aD.ev (h3 i cs x hc hx) hE⟩;rcases h1.2 with h0|⟨g,cap,cur,e1,e2,e3,e4⟩
 .exact .inl h0
 .exact .inr ⟨g,cap,cur,e1,e2,(k.block g (Qaa.1 e3).1 (λhg=>by have:=(hN g hg).2;omega)).trans e3,e4⟩
theorem ao.dG {S:aV}(h:ao S w w1)(k:Below B w1 w2)(hB:w<=B):ao S w w2:=
 ⟨k.os.trans h.os,k.tape.trans h.tape,k.output.trans h.output,Qcg h.size k.size,λi hi hS=>(k.block i (Qde hi hB)).trans (h.block i hi hS)⟩
def zS:(Tryz.prog.info? 319).map (λi=>(i.zero,i.size,i.bytes))=some (some (.agg iE),4,56):=by kernel_rfl
def tx(b:Nat)(lv:aA)(en:Int)(T:List Tok)(w:ax)(nm:List UInt8)(l:List aG)(q:Nat)(C:List aG->Nat->Prop)(wr:ax):Prop:=
 ∃(a:fx)(c:Nat)(kids rest:List aG)(j:Nat),kids.length=q/\kids++rest=l/\aS (λi=>i<↑w+2) (↑w+2) 319 wr (xL a q c) kids/\dY b lv en T wr j/\ao (bh b) w wr/\w.heap.size+2<=wr/\
  wr.heap[w.heap.size]? =some (xK iE 319)/\wr.heap[w.heap.size+1]? =some (xK #[xI 6,xI 0,bL nm,xL a q c] 319)/\C rest j
def Nz(T:List Tok)(n:Nat)(r:List Tok)(k q:Nat)(rest:List aG)(j:Nat):Prop:=
 (q=0/\∃m,m<=k/\eV m n (T.drop j)=some (rest,r))\/(0<q/\q<n/\ed (T.drop j) [44]=true/\∃m,m<=k/\eV m (n-q) (T.drop (j+1))=some (rest,r))\/(q=n/\rest=[]/\ed (T.drop j) [41]=true/\r=T.drop (j+1))
def Ut(T:List Tok)(n:Nat)(r:List Tok)(k q:Nat)(rest:List aG)(j:Nat):Prop:=∃m,m<=k/\eV m (n-q) (T.drop j)=some (rest,r)
def rG {n:Nat}{ts:List Tok}{l:List aG}{r:List Tok}(h:eV k n ts=some (l,r))(hn:0<n):∃m e r1 l',k=m+1/\ju m 1 ts=some (e,r1)/\l=e::l'/\((n=1/\l'=[]/\ed r1 [41]=true/\r=r1.drop 1)\/(1<n/\ed r1 [44]=true/\eV m (n-1) (r1.drop 1)=some (l',r))):=by
 cases k with
 |zero=>simp[eV]at h
 |succ m=>
  unfold eV at h;cases he:ju m 1 ts with
  |none=>rw[he]at h;cases h
  |some p=>
   obtain⟨e,r1⟩:=p;rw[he]at h;dsimp only at h;by_cases h1:n=1
   .rw[if_pos h1]at h;by_cases hs:ed r1 [41]=true
    .rw[if_pos hs]at h;simp only[Qcf,Prod.mk.injEq]at h;exact⟨m,e,r1,[],rfl,he,h.1.symm, .inl ⟨h1,rfl,hs,h.2.symm⟩⟩
    .rw[if_neg hs]at h;cases h
   .rw[if_neg h1,if_neg (by omega)]at h;by_cases hs:ed r1 [44]=true
    .rw[if_pos hs]at h;cases ht:eV m (n-1) (r1.drop 1)with
     |none=>rw[ht]at h;cases h
     |some q=>
      obtain⟨l',r'⟩:=q;rw[ht]at h;simp only[Qcf,Prod.mk.injEq]at h;exact⟨m,e,r1,l',rfl,he,h.1.symm, .inr ⟨by omega,hs,by rw[<-h.2];exact ht⟩⟩
    .rw[if_neg hs]at h;cases h
theorem dY.drew {T:List Tok}(h:dY b lv en T w i):dY b lv en T w.drew i:=⟨h.box,h.toks,h.few,h.le,h.kinds⟩
def CU(s:List UInt8):dM s<=3:=by unfold dM;split;omega;split;omega;split<;>omega
def Kx(b:Nat)(lv:aA)(en:Int)(T:List Tok)(k:Nat)(HE:∀m,m<k->Jc b lv en T m):Nx b lv en T k:=by
 intro i nm l r w yI hnm hst QX;have⟨i0,hi0,hz0,hz1,hz2⟩:=info_parts zS;have hn3:=CU nm;have hbl:b<w:=(Qaa.1 hst.box).1;have QW:Hd (∀W,xC 384 #[bL nm] W (jt (dM nm) W)):=λW=>by have h:=tt (bL nm) W;rw[lP]at h;exact h
 generalize dM nm=n at*;have ia:=ag hst;have Qe:=ag QX;go_enter func385,ntmps385;go_wp2;go_loopg [6]n(λg iv wr=>∃q:Nat,q<=n/\g=n-q/\iv=xI q/\Hd (tx b lv en T w nm l q (Nz T n r k q) wr));case atStart=>
  refine⟨0,Qbf _,rfl,rfl,?_⟩;have⟨b0,b1,hz,hb⟩:=jZ (w:=w) (o0:=xK iE 319) (o1:=xK #[xI 6,xI 0,bL nm,()] 319) rfl;exact(show tx _ _ _ _ _ _ _ _ _ _ from⟨none,0,[],l,i,rfl,rfl,aS.nil _ _ _ _,ia.o.ae hb,ao.az hb,by rw[hz];omega,b0,b1, .inl ⟨rfl,k,bT,Qe.o⟩⟩)
 case round=>
  obtain⟨q,hq,rfl,rfl,HL⟩:=hrel;have hqz:(q:Int)<=3:=by omega
  by_cases bH:q<n
  .have VB:(q:Int)<(n:Int):=by omega
   have⟨a,c,kids,rest,j,hkl,hkr,hacc,hps,hon,hsz,hR,hE,hC⟩:=HL.o;have⟨p0,p1,p2,p3⟩:=af hps.box;have A0:=ag hkl;have Fi:=ag hkr;have lD:=ag hacc;have sY:=ag hps;have lI:=ag hon;have HR:=ag hR;have TE:=ag hE;go_upto_if 23 with(go_at_call 384;refine dw (QW.o _) ?_);go_cut [](λwx=>Hd (tx b lv en T w nm l q (Ut T n r k q) wx));case first=>
    rcases hC with⟨rfl,hC⟩|⟨h1,h2,h3,hC⟩|⟨h1,_⟩
    .have om:=ag hC;go_wp2;go_meet;exact(show tx _ _ _ _ _ _ _ _ _ _ from⟨a,c,kids,rest,j,A0.o,Fi.o,lD.o,sY.o,lI.o,hsz,HR.o,TE.o,om.o⟩)
    .have h1z:(0:Int)<(q:Int):=by omega
     have hcall:=Jb b lv en T wr j ⟨#[44]⟩ sY.o h3;have bI:=ag hcall;have om:=ag hC;go_wp2_with fail;refine(bI.o).mono ?_;rintro e w1⟨v1,rfl,nO,hU⟩;have qt:=ag nO;have IQ:=ag hU;go_wp2;go_meet;have hz1:=IQ.o.size;exact(show tx _ _ _ _ _ _ _ _ _ _ from⟨a,c,kids,rest,j+1,A0.o,Fi.o,lD.o.only IQ.o (λi hi=>by unfold bh at hi;omega),qt.o,lI.o.trans IQ.o,by omega,(IQ.o.block _ (by omega) (by unfold bh;omega)).trans HR.o,(IQ.o.block _ (by omega) (by unfold bh;omega)).trans TE.o,om.o⟩)
    .omega
   case rest=>
    have⟨a,c,kids,rest,j,hkl,hkr,hacc,hps,hon,hsz,hR,hE,m,hmk,QX⟩:=Hd.o hcut;obtain⟨m',e,r1,l',rfl,hex,rfl,hC⟩:=rG QX (by omega);obtain⟨yk,yn,ys,yl⟩:=e;have hcall:=HE m' (by omega) 1 j (.mk yk yn ys yl) r1 wc.drew (by omega) (by omega) hps.drew hex;have⟨p0,p1,p2,p3⟩:=af hps.box;have⟨e0,e1,e2,e3⟩:=af hE;have fE:=aj hE 3;have hown:=hacc.cG;have A0:=ag hkl;have Fi:=ag hkr;have lD:=ag hacc;have sY:=ag hps;have lI:=ag hon;have HR:=ag hR;have TE:=ag hE;have om:=ag hC;have bI:=ag hcall;have VC:=ag hown;go_wp2_with fail;go_region_law(first
     |(go_simp;go_at_call 318;refine bI.o.mono ?_;rintro e w1⟨_,jj,rfl,⟨cs,rfl,hrep⟩,nO,hr1,hU⟩;obtain⟨av,rfl,hsl,hss⟩:=cO.iff.1 hrep;obtain⟨ya,yc,rfl,_⟩:=hsl.aq;have s1:=hU.size;simp at s1;have nP:Hd (ao (bh b) wc w1):=((ao.refl _ wc).drew.trans hU);have fq:Hd (aD.rep (bu (xL a q c) (λi=>i<↑w+2)) w1 [xI yk,xI yn,xS ys,xL ya yl.length yc] (aG.mk yk yn ys yl)):=aD.ev (α:=aG) hrep (Ev.dL w1 (λi hi=>by unfold fJ;rcases hi with h|h;show i<wc;omega;exact(VC.o i h).2));have qt:=ag nO;have mZ:=ag hr1;have k3:yY w1 w 3 (xL a q c):=(nP.o.cell (p:=⟨[w],3,none⟩) (by simp;omega) (by unfold bh;simp;omega)).trans e3;have n3:∀o,(w1.alloc o).cell? ([w],3)=some (xL a q c):=λo=>(World.cell?_of_block (w:=w1) (Qcb w1 o [w] (by omega))).trans k3;have jq:Hd (w1.frozen? ([w],3)=false):=(nP.o.frozen (p:=⟨[w],3,none⟩) (by simp;omega) (by unfold bh;simp;omega)).trans fE;have Cn:=ag (lD.o.only nP.o (λi hi=>by unfold bh at hi;omega));clear hU hrep hsl hss nO hr1)
     |(refine dT (α:=aG) rfl _ _ _ rfl (λi=>i<↑w+2) (↑w+2) 319 i0 _ 56 underlying317 hi0 hz0 hz1 hz2 rfl (by decide) (.slice a q c) kids rfl (Cn.o.alloc _) (λ_=>True) _ _ (.mk yk yn ys yl) rfl (cF _ _ _ _ rfl trivial) (aD.ev fq.o (Ev.az bU)) (by rw[A0.o];unfold maxLen;omega) (by rw[A0.o];omega) (by simp;omega) ?_;rw[A0.o];intro a2 c2 w2 bD dK bE;have dr:=ag bD;have l3:yY w2 w 3 (xL a q c):=(bE.cell (p:=⟨[w],3,none⟩) (by simp)).trans (n3 _);have l4:w2.frozen? ([w],3)=false:=(bE.frozen (p:=⟨[w],3,none⟩) (by simp)).trans ((bU.frozen (p:=⟨[w],3,none⟩) (by simp;omega)).trans jq.o);have bg:=ag bE;clear bD dK bE));all_goals
     go_wp2;go_roundg(n-(q+1));case measure=>omega
     case rel=>
      refine⟨q+1,by omega,rfl,by go_num,?_⟩;have hs2:=bg.o.size;simp at hs2;have hO2:ao (bh b) w w2:=((lI.o.trans nP.o).alloc _).dG bg.o (by omega);have hblk:∀x,x<w.heap.size+2->w2.heap[x]? =w1.heap[x]? :=λx hx=>(bg.o.block x hx).trans (Qcb w1 _ x (by omega));have A5:ao (bh b) w (w2.setCell ([w],3) (xL a2 (q+1) c2)):=hO2.setCell (.inr (by simp)) _;refine(show tx _ _ _ _ _ _ _ _ _ _ from⟨a2,c2,kids++[.mk yk yn ys yl],l',jj,by simp[A0.o],by rw[<-Fi.o];simp,dr.o.rC (by simp) (by simp) _,?_,A5,by simp;omega,?_,?_,?_⟩)
      .exact ia.o.step A5 ((Qag _ _ _ _ (by simp;omega)).trans ((hblk b (by omega)).trans qt.o.box)) qt.o.le
      .exact(Qag _ _ _ _ (by simp)).trans ((hblk _ (by omega)).trans ((nP.o.block _ (by omega) (by unfold bh;omega)).trans HR.o))
      .exact Qca w2 _ 3 _ _ _ ((hblk _ (by omega)).trans ((nP.o.block _ (by omega) (by unfold bh;omega)).trans TE.o))
      .have hr1:=mZ.o;rcases om.o with⟨h1,h2,h3,h4⟩|⟨h1,h2,h3⟩
       .subst hr1;exact .inr (.inr ⟨by omega,h2,h3,by rw[h4,List.drop_drop]⟩)
       .subst hr1;rw[List.drop_drop]at h3;exact .inr (.inl ⟨by omega,by omega,h2,m',by omega,by rw[show n-(q+1)=n-q-1 from by omega];exact h3⟩)
  .have VB:¬(q:Int)<(n:Int):=by omega
   have⟨a,c,kids,rest,j,hkl,hkr,hacc,hps,hon,hsz,hR,hE,hC⟩:=HL.o;have TF:rest=[]/\ed (T.drop j) [41]=true/\r=T.drop (j+1):=by
    rcases hC with⟨h1,_⟩|⟨_,h2,_⟩|⟨_,h1,h2,h3⟩
    .omega
    .omega
    .exact⟨h1,h2,h3⟩
   obtain⟨rfl,h41,rfl⟩:=TF;rw[List.append_nil]at hkr;subst hkr;have hcall:=Jb b lv en T wr j ⟨#[41]⟩ hps h41;have A0:=ag hkl;have lD:=ag hacc;have lI:=ag hon;have HR:=ag hR;have TE:=ag hE;have bI:=ag hcall;go_wp2_with(go_at_call 384;refine dw (QW.o _) ?_);refine(bI.o).mono ?_;rintro e w1⟨v1,rfl,nO,hU⟩;have hs1:=hU.size;have mZ:Hd (dk w1 w (xK iE 319)):=(hU.block _ (by omega) (by unfold bh;omega)).trans HR.o;have HE1:Hd (bW w1 [w] (xK #[xI 6,xI 0,bL nm,xL a q c] 319)):=(hU.block _ (by omega) (by unfold bh;omega)).trans TE.o;have⟨r0,r1,r2,r3⟩:=af mZ.o;have⟨g0,g1,g2,g3⟩:=hZ mZ.o;have⟨e0,e1,e2,e3⟩:=af HE1.o;have Cn:=ag (lD.o.only hU (λi hi=>by unfold bh at hi;omega));have qt:=ag nO;have IQ:=ag hU;go_wp2_with fail;refine Qae (v:= .agg #[xI 6,xI 0,bL nm,xL a q c]) (by simp[results,results385,go_sem,r0,r1,r2,r3]) rfl ?_;have A5:ao (bh b) w ((((w1.setCell (w,0) (xI 6)).setCell (w,1) (xI 0)).setCell (w,2) (bL nm)).setCell (w,3) (xL a q c)):=((((lI.o.trans IQ.o).setCell (.inr bT) _).setCell (.inr bT) _).setCell (.inr bT) _).setCell (.inr bT) _;refine⟨_,j+1,rfl,⟨_,rfl,cO.iff.2 ⟨_,rfl,(Cn.o.slice (λi hi=>hi)).ev ?_,by rw[jP];unfold maxLen;omega⟩⟩,ia.o.step A5 ?_ qt.o.le,rfl,A5⟩
   .exact((((Ev.dL w1 (λi h=>by unfold fJ at h;omega)).setCell (.inl (by simp)) _).setCell (.inl (by simp)) _).setCell (.inl (by simp)) _).setCell (.inl (by simp)) _
   .exact(Qag _ _ _ _ (by simp;omega)).trans ((Qag _ _ _ _ (by simp;omega)).trans ((Qag _ _ _ _ (by simp;omega)).trans ((Qag _ _ _ _ (by simp;omega)).trans qt.o.box)))
def CV(w:ax)(E:Nat):Nat->Prop:=λi=>i<=w\/i=E
def FZ(b:Nat)(lv:aA)(en:Int)(T:List Tok)(w:ax)(E:Nat)(C:aG->Nat->Prop)(wr:ax):Prop:=
 ∃(ck cn:Int)(cs:aY)(cl:List aG)(a:fx)(c j:Nat),wr.heap[E]? =some (xK #[ck,cn,cs,xL a cl.length c] 319)/\cO (CV w E) wr [xI ck,xI cn,xS cs,xL a cl.length c] (.mk ck cn cs cl)/\dY b lv en T wr j/\ao (bh b) w wr/\
  wr.heap[w.heap.size]? =some (xK iE 319)/\C (.mk ck cn cs cl) j
def wF {least:Nat}{cur x:aG}{ts r:List Tok}(h:nU m least cur ts=some (x,r)):
 (x=cur/\r=ts/\∀t r',ts=t::r'->¬(t.an=4/\least<=cH t.s))\/
 ∃m' t r' f r2,m=m'+1/\ts=t::r'/\t.an=4/\least<=cH t.s/\ju m' (cH t.s+1) r'=some (f,r2)/\nU m' least (.mk 4 0 (bL t.s) [cur,f]) r2=some (x,r):=by
 cases m with
 |zero=>simp[nU]at h
 |succ m'=>
  unfold nU at h;cases ts with
  |nil=>simp at h;exact .inl ⟨h.1.symm,h.2,λt r' he=>by cases he⟩
  |cons t r'=>
   dsimp only at h;by_cases hc:t.an=4/\least<=cH t.s
   .rw[if_pos hc]at h;cases he:ju m' (cH t.s+1) r' with
    |none=>rw[he]at h;cases h
    |some q=>obtain⟨f,r2⟩:=q;rw[he]at h;exact .inr ⟨m',t,r',f,r2,rfl,rfl,hc.1,hc.2,he,h⟩
   .rw[if_neg hc]at h;simp only[Qcf,Prod.mk.injEq]at h;exact .inl ⟨h.1.symm,h.2.symm,λt2 r2 he=>by cases he;exact hc⟩
def CW(s:List UInt8):cH s<=4:=by unfold cH;split;omega;split;omega;split;omega;split<;>omega
def wG {x y:aG}{cx cy:List aA}(hM:¬M K)(hK:bW W K (.cells (cx++cy).toArray 319 (0,0)))(hx:cO M W cx x)(hy:cO M W cy y):ab M W (xL (K,0) 2 2) [x,y]:=by
 have lx:cx.length=4:=aD.len (α:=aG) hx;have ly:cy.length=4:=aD.len (α:=aG) hy;refine⟨[cx,cy],⟨by simp[lx,ly];rfl,some ⟨K,0,none⟩,2,rfl,bT,by unfold maxLen;omega,λ_=>⟨K,0,rfl,hM,(Qaa.1 hK).1,λj u hu=> ?_⟩⟩,rfl,λi cs z hc hz=> ?_⟩
 .rw[Nat.zero_add];exact cell_of_heap hK (by simpa using hu)
 .match i with
  |0=>simp at hc hz;subst hc hz;exact hx
  |1=>simp at hc hz;subst hc hz;exact hy
  |n+2=>simp at hc
def Kz {T:List Tok}{WD:World}{jj:Nat}{ck cn fk fn:Int}{cs fs:ByteArray}{cl fl:List aG}{c:Nat}{ts:List UInt8}
 (hbl:b<w.heap.size)(ia:dY b lv en T w i)(lI:ao (bh b) w wr)(CE:ao (bh b) wr WD)(fZ:ao (bh b) WD w2)
 (Sz:w2.heap[w1.heap.size]? =some (.cells #[.int .i64 ck, .int .i64 cn, .string cs, .slice a cl.length c] 319 (0,0)))
 (MH:WD.heap[w.heap.size]? =some (.cells #[.int .i64 0, .int .i64 0, .string (), .slice none 0 0] 319 (0,0)))
 (VD:cO (CV w w1.heap.size) WD [.int .i64 ck, .int .i64 cn, .string cs, .slice a cl.length c] (.mk ck cn cs cl))
 (fq:cO (fJ WD.drew) w2 [.int .i64 fk, .int .i64 fn, .string fs, .slice ya fl.length yc] (.mk fk fn fs fl))(IS:dY b lv en T w2 jj)
 (hs1:w.heap.size+1<=w1.heap.size)(hE:w1.heap.size<wr.heap.size)(Zl:wr.heap.size<=WD.heap.size)(s2:WD.heap.size<=w2.heap.size)(sZ:ts.length<=200)(C:aG->Nat->Prop)(hC:C (.mk 4 0 (bL ts) [.mk ck cn cs cl, .mk fk fn fs fl]) jj):
 FZ b lv en T w w1.heap.size C (((((w2.setCell ⟨w1.heap.size,0,none⟩ (.int .i64 4)).setCell ⟨w1.heap.size,1,none⟩ (.int .i64 0)).setCell ⟨w1.heap.size,2,none⟩ (.string (bL ts))).setCell ⟨w1.heap.size,3,none⟩ (.slice (some ⟨w2.heap.size,0,none⟩) 2 2)).alloc (.cells #[.int .i64 ck, .int .i64 cn, .string cs, .slice a cl.length c, .int .i64 fk, .int .i64 fn, .string fs, .slice ya fl.length yc] 319)):=by
 obtain⟨W3,hW3⟩:∃W3:World,W3=(((w2.setCell ⟨w1.heap.size,0,none⟩ (.int .i64 4)).setCell ⟨w1.heap.size,1,none⟩ (.int .i64 0)).setCell ⟨w1.heap.size,2,none⟩ (.string (bL ts))).setCell ⟨w1.heap.size,3,none⟩ (.slice (some ⟨w2.heap.size,0,none⟩) 2 2):=⟨_,rfl⟩;have yJ:W3.heap.size=w2.heap.size:=by rw[hW3];simp
 have hE3:W3.heap[w1.heap.size]? =some (.cells #[.int .i64 4, .int .i64 0, .string (bL ts), .slice (some ⟨w2.heap.size,0,none⟩) 2 2] 319 (0,0)):=by
  rw[hW3];have h0:=Qca w2 w1.heap.size 0 _ _ (.int .i64 4) Sz;have h1:=Qca _ w1.heap.size 1 _ _ (.int .i64 0) h0;have h2:=Qca _ w1.heap.size 2 _ _ (.string (bL ts)) h1;exact Qca _ w1.heap.size 3 _ _ (.slice (some ⟨w2.heap.size,0,none⟩) 2 2) h2
 have A5:ao (λi=>i=w1.heap.size) w2 W3:=by
  rw[hW3];exact((((ao.refl (λi=>i=w1.heap.size) w2).setCell (p:=⟨w1.heap.size,0,none⟩) (.inl rfl) _).setCell (p:=⟨w1.heap.size,1,none⟩) (.inl rfl) _).setCell (p:=⟨w1.heap.size,2,none⟩) (.inl rfl) _).setCell (p:=⟨w1.heap.size,3,none⟩) (.inl rfl) _
 rw[<-hW3];clear hW3;generalize hK:(Obj.cells #[.int .i64 ck, .int .i64 cn, .string cs, .slice a cl.length c, .int .i64 fk, .int .i64 fn, .string fs, .slice ya fl.length yc] 319 (0,0))=K;have Zm:ao (bh b) w (W3.alloc K):=by
  have h1:=(lI.trans CE).trans fZ;have h2:ao (bh b) w W3:=h1.cV A5 (λi hi bH=>by omega);exact h2.alloc _
 have hKb:(W3.alloc K).heap[w2.heap.size]? =some (.cells (([.int .i64 ck, .int .i64 cn, .string cs, .slice a cl.length c]:List Value)++([.int .i64 fk, .int .i64 fn, .string fs, .slice ya fl.length yc]:List Value)).toArray 319 (0,0)):=by
  have h:=Qbh W3 K;rw[yJ]at h;rw[h,<-hK];rfl
 have VE:Ev (CV w w1.heap.size) WD (CV w w1.heap.size) (W3.alloc K):=
  ⟨((fZ.mono (λi hi=> .inl (by unfold bh at hi;omega))).trans (A5.mono (λi hi=> .inr hi))).alloc _,λi hi=> .inl hi⟩;have VF:Ev (fJ WD.drew) w2 (CV w w1.heap.size) (W3.alloc K):=
  ⟨(A5.mono (λi hi=>by show i<WD.heap.size;omega)).alloc _,λi hi=> .inl (by show i<WD.heap.size;rcases hi with h|h<;>omega)⟩;refine⟨4,0,bL ts,[.mk ck cn cs cl, .mk fk fn fs fl],some ⟨w2.heap.size,0,none⟩,2,jj,(Qcb W3 _ _ (by omega)).trans hE3,cO.iff.2 ⟨_,rfl,?_,by rw[jP];unfold maxLen;omega⟩,ia.step Zm ?_ IS.le,Zm,?_,hC⟩
 .exact wG (by unfold CV;omega) hKb (VD.yZ VE) (fq.yZ VF)
 .exact(Qcb W3 _ b (by omega)).trans ((A5.block b (by omega) (by omega)).trans IS.box)
 .exact(Qcb W3 _ _ (by omega)).trans ((A5.block _ (by omega) (by omega)).trans ((fZ.block _ (by omega) (by unfold bh;omega)).trans MH))
def KA(b:Nat)(lv:aA)(en:Int)(T:List Tok)(hsh:qz T)(k:Nat)(HT:FX b lv en T k)(HE:∀m,m<k->Jc b lv en T m):Jc b lv en T (k+1):=by
 intro least i x r w hl1 VG hst hp;have hbl:b<w:=(Qaa.1 hst.box).1;obtain⟨e0,r0,Zn,IT⟩:∃e0 r0,jE k (T.drop i)=some (e0,r0)/\nU k least e0 r0=some (x,r):=by
  unfold ju at hp;cases hq:jE k (T.drop i)with
  |none=>rw[hq]at hp;cases hp
  |some q=>obtain⟨e0,r0⟩:=q;rw[hq]at hp;exact⟨e0,r0,rfl,hp⟩
 clear hp;have hb0:aC w (w.alloc (xK #[xI 0,xI 0,"",()] 319)):=bU;have hcall:=HT i e0 r0 _ (hst.ae hb0) Zn;obtain⟨zk,zn,zs,zl⟩:=e0;have ia:=ag hst;clear hst;have A6:=ag IT;clear IT;have bI:=ag hcall;clear hcall;have iW:=ag hb0;clear hb0;clear Zn;go_enter func318,ntmps318;go_wp2_with fail;refine(bI.o).mono ?_;rintro e w1⟨_,j0,rfl,⟨cs,rfl,hrep⟩,nO,hr1,hU⟩;obtain⟨av,rfl,hsl,hss⟩:=cO.iff.1 hrep;obtain⟨za,zc,rfl,_⟩:=hsl.aq;have hs1:=hU.size;simp at hs1;have IU:Hd (dk w1 w (xK #[xI 0,xI 0,"",()] 319)):=(hU.block _ (by simp) (by unfold bh;omega)).trans (Qbh w _);have q9:Hd (ao (bh b) w w1):=((ao.refl _ w).alloc _).cV hU (λi hi _=>hi);have fq:=ag hrep;clear hrep;have qt:=ag nO;clear nO;have mZ:=ag hr1;clear hr1;clear hsl hss hU;go_wp2;go_loopg [6]k(λg _ wr=>∃m:Nat,m<=k/\g=m/\Hd (FZ b lv en T w w1 (λcur j=>nU m least cur (T.drop j)=some (x,r)) wr)/\w1.heap.size<wr);case atStart=>
  refine⟨k,bT,rfl,?_,by simp⟩;have hbb:aC w1 (w1.alloc (xK #[zk,zn,zs,xL za zl.length zc] 319)):=bU;refine(show FZ _ _ _ _ _ _ _ _ from⟨zk,zn,zs,zl,za,zc,j0,Qbh _ _,?_,qt.o.ae hbb,q9.o.alloc _,(hbb.block _ (by omega)).trans IU.o,by {show nU k least _ (T.drop j0)=_;rw[<-mZ.o];exact A6.o}⟩);exact fq.o.yZ ⟨(ao.refl _ w1).alloc _,λi hi=>by
   rcases hi with h|h
   .exact .inl (by unfold fJ;simp;omega)
   .exact .inr (by omega)⟩
 case round=>
  obtain⟨m,hm,rfl,HM,hE⟩:=hrel;have⟨ck,cn,cs,cl,a,c,j,hEb,hcr,hps,hon,hR,hC⟩:=HM.o;have⟨p0,p1,p2,p3⟩:=af hps.box;obtain⟨la,lcap,rfl,hcells⟩:=hps.cells;have Ff:=hps.few;have qfp:=hps.le;have hj0:(0:Int)<=(j:Int):=Qba _;rcases wF hC with⟨rfl,rfl,hno⟩|⟨m',t,r',f,r2,rfl,hts,hk4,hlb,hex,Qf⟩
  .
   go_upto_region 2 with fail;go_cut [55](λs55 wx=>s55=xB false/\∃n,wx=wr.drewN n);case first=>
    by_cases Ck:j<T.length
    .have⟨t,ht⟩:=eG T j Ck;obtain⟨bl,off,rfl,sX,Fg,q0,q1,q2,q3⟩:=hcells t ht;have VH:=hno t _ (drop_cons ht);have jr:=Qaf ht;have hjz:(j:Int)<(T.length:Int):=by omega
     by_cases hk4:t.an=4
     .have⟨c0,hc0,hs0⟩:=(hsh t jr).2.2.2 hk4;have bH:cH t.s<least:=by
       rcases Nat.lt_or_ge (cH t.s) least with h|h
       .exact h
       .exact absurd ⟨hk4,h⟩ VH
      have hz1:¬(least:Int)<=(cH t.s:Int):=by omega
      have hz2:decide ((least:Int)<=(cH t.s:Int))=false:=by simpa using hz1
      have yJ:decide (least<=cH t.s)=false:=by simpa using bH
      have e0:(cD t.an==0)=true:=by simp[cD,hk4]
      have VI:Hd (∀W,xC 343 #[bL t.s] W λe w'=>e=xR (cH t.s)/\w'=W):=λW=>by rw[hs0];exact(np c0 hc0 W).mono λ_ _ h=>⟨h.1,h.2.symm⟩
      clear hcells hno VH jr ht hk4 hs0 hc0 hcr hEb hR hC;go_quiet((go_at_call 343;exact Calls.quiet_of_same (VI.o _)));go_wp2;go_meet;exact⟨rfl,_,rfl⟩
     .have e0:(cD t.an==0)=false:=by have:=hps.kinds t jr;simp[cD,hk4];omega
      clear hcells hno VH jr ht hk4 hcr hEb hR hC;go_quiet(fail);go_wp2;go_meet;exact⟨rfl,_,rfl⟩
    .have hd1:decide ((j:Int)<(T.length:Int))=false:=by simp;omega
     have hd2:decide (j<T.length)=false:=by simp;omega
     have hd3:¬(j:Int)<(T.length:Int):=by omega
     clear hcells hno hcr hEb hR hC;go_quiet(fail);go_wp2;go_meet;exact⟨rfl,_,rfl⟩
   case rest=>
    obtain⟨rfl,nn,rfl⟩:=hcut;have⟨e0,e1,e2,e3⟩:=af hEb;have⟨r0,r1,r2,r3⟩:=af hR;have⟨g0,g1,g2,g3⟩:=hZ hR;have hRE:w.heap.size≠w1:=by omega
    have⟨av,hav,hsl,hss⟩:=cO.iff.1 hcr;simp only[List.cons.injEq,true_and,and_true]at hav;subst hav;have gO:=ag hsl;clear hsl;have q8:=ag hss;clear hss;have sY:=ag hps;clear hps;have lI:=ag hon;clear hon;have HEB:=ag hEb;clear hEb;have FF:=ag hR;clear hR;clear hcells hno hcr hC;go_wp2_with fail;refine Qae (v:= .agg #[ck,cn,cs,xL a cl.length c]) (by simp[results,results318,go_sem,r0,r1,r2,r3]) rfl ?_;have A5:ao (bh b) w ((((wr.setCell (w,0) ck).setCell (w,1) cn).setCell (w,2) cs).setCell (w,3) (xL a cl.length c)):=(((lI.o.setCell (.inr bT) _).setCell (.inr bT) _).setCell (.inr bT) _).setCell (.inr bT) _;refine⟨_,j,rfl,⟨_,rfl,cO.iff.2 ⟨_,rfl,gO.o.ev ?_,q8.o⟩⟩,(ia.o.step A5 ?_ sY.o.le).drewN nn,rfl,A5.drewN nn⟩
    .have h:=((((Ev.dL (M:=CV w w1) (N:=fJ w) wr (λi h=>by unfold fJ at h;exact .inl (by omega))).setCell (p:=⟨w,0,none⟩) (.inl (.inl bT)) ck).setCell (p:=⟨w,1,none⟩) (.inl (.inl bT)) cn).setCell (p:=⟨w,2,none⟩) (.inl (.inl bT)) cs).setCell (p:=⟨w,3,none⟩) (.inl (.inl bT)) (xL a cl.length c);exact⟨h.only.drewN nn,h.sub⟩
    .exact(Qag _ _ _ _ (by simp;omega)).trans ((Qag _ _ _ _ (by simp;omega)).trans ((Qag _ _ _ _ (by simp;omega)).trans ((Qag _ _ _ _ (by simp;omega)).trans sY.o.box)))
  .
   obtain⟨t',CF⟩:∃t',T[j]? =some t':=by
    rcases Nat.lt_or_ge j T.length with h|h
    .exact⟨_,Qac h⟩
    .rw[List.drop_eq_nil_of_le h]at hts;cases hts
   rw[drop_cons CF]at hts;simp only[List.cons.injEq]at hts;obtain⟨rfl,rfl⟩:=hts;have Ck:j<T.length:=(Qad.1 CF).1;obtain⟨bl,off,rfl,sX,Fg,q0,q1,q2,q3⟩:=hcells t' CF;have jr:=Qaf CF;have hjz:(j:Int)<(T.length:Int):=by omega
   have⟨c0,hc0,hs0⟩:=(hsh t' jr).2.2.2 hk4;have eA:=CW t'.s;have hz1:(least:Int)<=(cH t'.s:Int):=by omega
   have hz2:decide ((least:Int)<=(cH t'.s:Int))=true:=by simpa using hz1
   have yJ:decide (least<=cH t'.s)=true:=by simpa using hlb
   have e0:(cD t'.an==0)=true:=by simp[cD,hk4]
   have VI:Hd (∀W,xC 343 #[bL t'.s] W λe w'=>e=xR (cH t'.s)/\w'=W):=λW=>by rw[hs0];exact(np c0 hc0 W).mono λ_ _ h=>⟨h.1,h.2.symm⟩
   have sZ:Hd (t'.s.length<=200):=(hsh t' jr).1;have sY:=ag hps;clear hps;have lI:=ag hon;clear hon;have HEB:=ag hEb;clear hEb;have FF:=ag hR;clear hR;have TG:=ag hcr;clear hcr;have TH:=ag hex;clear hex;have VJ:=ag Qf;clear Qf;clear hcells jr CF hk4 hs0 hc0 hC;go_upto_region 2 with fail;go_cut [55](λs55 wx=>s55=xB true/\∃n,wx=wr.drewN n);case first=>
    go_quiet((go_at_call 343;exact Calls.quiet_of_same (VI.o _)));go_wp2;go_meet;exact⟨rfl,_,rfl⟩
   case rest=>
    obtain⟨rfl,nn,rfl⟩:=hcut;go_upto_region 3 with fail;go_cut [6](λs6 wx=>s6=xS (bL t'.s)/\∃n,wx=(wr.drewN nn).drewN n);case first=>
     go_quiet(fail);go_wp2;go_meet;exact⟨rfl,_,rfl⟩
    case rest=>
     obtain⟨rfl,n2,rfl⟩:=hcut;have f1:=aj sY.o.box 1;go_upto_region 5 with fail;have⟨WD,hWD⟩:=bY ((wr.drewN (nn+n2)).setCell (b,1) (xI ((j:Int)+1)));rw[<-hWD];have HPD:=ag (show dY b (xL (bl,off) T.length lcap) en T WD (j+1)by rw[hWD];exact((sY.o.drewN (nn+n2)).next Ck (ao.refl _ _)).1);have CE:=ag (show ao (bh b) wr WD by rw[hWD];exact((ao.refl _ wr).drewN (nn+n2)).Kv 1 _);have Zo:Hd (dk WD w1 (xK #[ck,cn,cs,xL a cl.length c] 319)):=(CE.o.block _ hE (by unfold bh;omega)).trans HEB.o;have MH:Hd (dk WD w (xK #[xI 0,xI 0,"",()] 319)):=(CE.o.block _ (by omega) (by unfold bh;omega)).trans FF.o;have VD:Hd (cO (CV w w1) WD [xI ck,xI cn,xS cs,xL a cl.length c] (.mk ck cn cs cl)):=TG.o.yZ ⟨CE.o.mono (λi hi=> .inl (by unfold bh at hi;omega)),λi hi=> .inl hi⟩;have Zl:=CE.o.size;clear hWD p0 p1 p2 p3 f1 q0 q1 q2 q3;have⟨d0,d1,d2,d3⟩:=af Zo.o;obtain⟨fk,fn,fs,fl⟩:=f;have hcall:=HE m' (by omega) (cH t'.s+1) (j+1) (.mk fk fn fs fl) r2 WD.drew (by omega) (by omega) HPD.o.drew TH.o;rw[show((cH t'.s+1:Nat):Int)=(cH t'.s:Int)+1 from by omega]at hcall;have yK:=ag hcall;clear hcall;have z1:IntKind.i64.wrap ((cH t'.s:Int)+1)=(cH t'.s:Int)+1:=Qbe _ (by omega);go_region_law(first
      |(go_simp;go_at_call 343;refine(VI.o _).mono ?_;rintro e w'⟨rfl,rfl⟩)
      |(go_simp;go_at_call 318;refine yK.o.mono ?_;rintro e w2⟨_,jj,rfl,⟨cs2,rfl,hrep⟩,hps2,hr2,Co⟩;obtain⟨av,rfl,hsl,hss⟩:=cO.iff.1 hrep;obtain⟨ya,yc,rfl,_⟩:=hsl.aq;have s2:=Co.size;simp at s2;have fZ:Hd (ao (bh b) WD w2):=((ao.refl _ WD).drew.trans Co);have Sz:Hd (dk w2 w1 (xK #[ck,cn,cs,xL a cl.length c] 319)):=(fZ.o.block _ (by omega) (by unfold bh;omega)).trans Zo.o;have Zp:w1.heap.size<w2:=by omega
        have HEA:Hd (∀o,(w2.alloc o).heap[w1.heap.size]? =some (xK #[ck,cn,cs,xL a cl.length c] 319)):=λo=>(Qcb w2 o _ Zp).trans Sz.o;have⟨k0,k1,k2,k3⟩:=af Sz.o;have n0:∀o,(w2.alloc o).cell? (w1,0)=some (xI ck):=λo=>(af (HEA.o o)).1;have n1:∀o,(w2.alloc o).cell? (w1,1)=some (xI cn):=λo=>(af (HEA.o o)).2.1;have n2':∀o,(w2.alloc o).cell? (w1,2)=some (xS cs):=λo=>(af (HEA.o o)).2.2.1;have n3:∀o,(w2.alloc o).cell? (w1,3)=some (xL a cl.length c):=λo=>(af (HEA.o o)).2.2.2;have⟨fz0,fz1,fz2,fz3⟩:=hZ Sz.o;have fq:=ag hrep;have IS:=ag hps2;have vI:=ag hr2;clear Co hrep hsl hss hps2 hr2));all_goals
      clear z1;go_wp2;go_roundg m';case measure=>omega
      case rel=>
       refine⟨m',by omega,rfl,?_,by simp;omega⟩;have Fj:=Kz hbl ia.o lI.o CE.o fZ.o Sz.o MH.o VD.o fq.o IS.o (by omega) hE Zl s2 sZ.o;exact(Fj _ (by rw[<-vI.o];exact VJ.o))
def Rl(b:Nat)(lv:aA)(en:Int)(T:List Tok)(hsh:qz T)(k:Nat):Jc b lv en T k/\FX b lv en T k/\Nx b lv en T k:=by
 induction k using Nat.strongRecOn with
 |ind k ih=>
  refine⟨?_,?_,Kx b lv en T k λm hm=>(ih m hm).1⟩
  .cases k with
   |zero=>intro least i x r w _ _ _ h;simp[ju]at h
   |succ k=>exact KA b lv en T hsh k (ih k (by omega)).2.1 λm hm=>(ih m (by omega)).1
  .cases k with
   |zero=>intro i x r w _ h;simp[jE]at h
   |succ k=>exact FY b lv en T hsh k (ih k (by omega)).2.2
def tz {s:List UInt8}(h:0<cH s):∃c,c∈dW/\s=[c]:=by
 unfold cH at h;split at h
 .rename_i h1;rcases h1 with h1|h1|h1<;>exact⟨_,by decide,h1⟩
 .split at h
  .rename_i h1;rcases h1 with h1|h1<;>exact⟨_,by decide,h1⟩
  .split at h
   .rename_i h1;exact⟨_,by decide,h1⟩
   .split at h
    .rename_i h1;rcases h1 with h1|h1<;>exact⟨_,by decide,h1⟩
    .omega
def Rm(M:aV)(w:ax)(k n:Int)(s:aY)(l:List aG)(lv:aA)(hl:ab M w lv l)(hs:s.size<=200)(h:wA k n s.data.toList l.length=true):
 xC 387 #[.agg #[k,n,s,lv]] w (cu true w):=by
 obtain⟨a,cap,rfl,cY,hm,_⟩:=hl.aq;unfold wA at h;by_cases h1:k=1
 .subst h1;simp only[if_true,Qce,decide_eq_true_eq,List.isEmpty_iff,beq_iff_eq]at h;obtain⟨⟨⟨hn1,hn2⟩,hs0⟩,uj⟩:=h;obtain rfl:=fz hs0;rw[uj];go_enter func387,ntmps387;go_wp2;go_ret;exact⟨rfl,bU⟩
 .rw[if_neg h1]at h;simp only[Qce,decide_eq_true_eq]at h;obtain⟨rfl,h⟩:=h;by_cases h2:k=2
  .subst h2;simp only[if_true,Qce,beq_iff_eq]at h;obtain⟨ht,uj⟩:=h;rw[uj];have HT:=ag ht;go_enter func387,ntmps387;go_wp2_with fail;refine cC (rB _ _ HT.o) λw1 hb1=> ?_;have⟨q0,q1,q2,q3⟩:=af (boxed hb1);have bz:=ag hb1;go_wp2;go_ret;exact⟨rfl,bt bz.o⟩
  .rw[if_neg h2]at h;by_cases h3:k=3
   .subst h3;simp only[if_true,Qce,beq_iff_eq]at h;obtain⟨ht,uj⟩:=h;rw[uj];rw[pO]at ht;have HT:=ag ht;go_enter func387,ntmps387;go_wp2_with fail;refine dw (gp true _ _ HT.o (by unfold maxLen;omega)) ?_;go_wp2;go_ret;exact⟨rfl,bU⟩
   .rw[if_neg h3]at h;by_cases h4:k=4
    .subst h4;simp only[if_true,Qce,beq_iff_eq,decide_eq_true_eq]at h;obtain⟨ht,uj⟩:=h;have⟨c,hc,hsc⟩:=tz ht;obtain rfl:=fz hsc;rw[uj];have hz:(0:Int)<(cH [c]:Int):=by simp at ht;omega
     have HB:=ag (λw=>np c hc w);generalize cH [c]=bb at*;go_enter func387,ntmps387;go_wp2_with fail;refine dw (HB.o _) ?_;go_wp2;go_ret;exact⟨rfl,bU⟩
    .rw[if_neg h4]at h;by_cases h6:k=6
     .subst h6;simp only[if_true,Qce,beq_iff_eq,decide_eq_true_eq]at h;obtain⟨ht,uj⟩:=h;have hz:(0:Int)<(dM s.data.toList:Int):=by omega
      have HA:=ag (λw=>tt s w);have hz2:decide ((0:Int)<(dM s.data.toList:Int))=true:=by simpa using ht
      have yJ:decide (0<dM s.data.toList)=true:=by simpa using ht
      rw[uj];generalize dM s.data.toList=bb at*;go_enter func387,ntmps387;go_wp2_with fail;go_quiet((go_at_call 384;exact Calls.quiet_of_same ((HA.o _).mono λ_ _ h=>⟨h.1,h.2.symm⟩)));go_wp2;go_ret;exact⟨rfl,bU.trans ⟨rfl,rfl,rfl,bT,λ_ _=>rfl⟩⟩
     .rw[if_neg h6]at h;cases h
def wH {k n:Int}{s:List UInt8}{c:Nat}(h:wA k n s c=true):s.length<=200:=by
 unfold wA at h;by_cases h1:k=1
 .rw[if_pos h1]at h;simp only[Qce,List.isEmpty_iff]at h;rw[h.1.2];simp
 .rw[if_neg h1]at h;simp only[Qce]at h;replace h:=h.2;by_cases h2:k=2
  .rw[if_pos h2]at h;simp only[Qce,jX,decide_eq_true_eq]at h;omega
  .rw[if_neg h2]at h;by_cases h3:k=3
   .rw[if_pos h3]at h;simp only[Qce,qy,decide_eq_true_eq]at h;omega
   .rw[if_neg h3]at h;by_cases h4:k=4
    .rw[if_pos h4]at h;simp only[Qce,decide_eq_true_eq]at h;obtain⟨c,_,rfl⟩:=tz h.1;simp
    .rw[if_neg h4]at h;by_cases h6:k=6
     .rw[if_pos h6]at h;simp only[Qce,decide_eq_true_eq]at h;have ha:=h.1;unfold dM at ha;split at ha
      .rename_i hh;rcases hh with rfl|rfl|rfl<;>simp
      .split at ha
       .rename_i hh;rcases hh with rfl|rfl|rfl|rfl|rfl|rfl<;>simp
       .split at ha
        .rename_i hh;subst hh;simp
        .omega
     .rw[if_neg h6]at h;cases h
theorem oJ:∀{l:List aG}{i:Nat}{e:aG},l[i]? =some e->dB (l.take (i+1))=dB (l.take i)+eB e
 |[],i,e,h=>by simp at h
 |x::r,0,e,h=>by simp at h;subst h;simp[dB]
 |x::r,i+1,e,h=>by
  have:=oJ (l:=r) (i:=i) (e:=e) (by simpa using h);simp only[List.take_succ_cons,dB];rw[this];omega
theorem pP:∀(l:List aG)(i:Nat),dB (l.take i)<=dB l
 |[],i=>by simp
 |x::r,0=>by simp[dB]
 |x::r,i+1=>by have:=pP r i;simp only[List.take_succ_cons,dB];omega
theorem tA:∀{l:List aG}{i:Nat}{e:aG},l[i]? =some e->eB e<=dB l/\kX e<=wu l/\(ry l=true->iG e=true)
 |[],i,e,h=>by simp at h
 |x::r,0,e,h=>by
  simp at h;subst h;refine⟨by simp only[dB];omega,by simp only[wu];omega,λhn=> ?_⟩;simp only[ry,Qce]at hn;exact hn.1
 |x::r,i+1,e,h=>by
  have⟨h1,h2,h3⟩:=tA (l:=r) (i:=i) (e:=e) (by simpa using h);refine⟨by simp only[dB];omega,by simp only[wu];omega,λhn=> ?_⟩;simp only[ry,Qce]at hn;exact h3 hn.2
def tB(e:aG):1<=eB e:=by cases e;simp[eB]
def Rn:∀(N:Nat)(e:aG),eB e<=N->∀(M:Nat->Prop)(w:World)(v:Value)(deep left:Int),cB M w v e->iG e=true->(kX e:Int)<=deep->deep<=8->(eB e:Int)<=left->left<=40->
 Calls prog 345 #[v, .int .i64 deep, .int .i64 left] w λe' w'=>e'= .returned (.int .i64 (left-eB e))/\Below w w w':=by
 intro N;induction N with
 |zero=>intro e he;have:=tB e;omega
 |succ N ih=>
  intro e he M w v deep left hag MI hd hd8 hs qfq;obtain⟨k,n,s,l⟩:=e;obtain⟨cs,rfl,hrep⟩:=hag;obtain⟨lv,rfl,hsl,hss⟩:=cO.iff.1 hrep;have gO:=hD hsl;obtain⟨a,cap,rfl,cY,hm,hc⟩:=hsl.aq;simp only[iG,Qce]at MI;obtain⟨hn1,hn2⟩:=MI;have hsz:s.size<=200:=by have:=wH hn1;rw[bG]at this;exact this
  simp only[eB]at he hs;simp only[kX]at hd;have e0:(eB (.mk k n s l):Int)=dB l+1:=by simp[eB]
  rw[e0];have hd1:¬deep<1:=by omega
  have hs1:¬left<1:=by omega
  have Zq:Hid (∀W,Below w w W->Calls prog 387 #[.agg #[.int .i64 k, .int .i64 n, .string s, .slice a l.length cap]] W λe w'=>e= .returned (.bool true)/\Below W W w'):=(show∀W,_->_ fromλW hb=>Rm M W k n s l _ (gO.out.ae hb) hsz hn1);have HC:=hD hc;clear hc;have zA:=hD hn2;clear hn2;have HD:=hD hd;clear hd;clear hrep hsl hss hn1 e0;generalize hlen:l.length=len at*;have ku:=hD hlen;clear hlen;go_enter func345,ntmps345;go_wp2_with fail;refine(Zq.out _ (by exact((Qbg _ _).alloc (Qab _) _))).mono ?_;rintro e w1⟨rfl,hb1⟩;have cI:=hD (boxed hb1);have bz:=hD (bt hb1);have s1:=hb1.size;simp at s1;clear hb1;go_wp2_with fail;go_loopg [2,7]len(λg lf iv wr=>∃i:Nat,i<=len/\g=len-i/\iv= .int .i64 i/\lf= .int .i64 (left-1-dB (l.take i))/\Hid (Below w1 w1 wr));case atStart=>exact⟨0,Qbf _,rfl,rfl,by simp[dB],(show Below _ _ _ from Qbg _ _)⟩
  case round=>
   obtain⟨i,hi,rfl,rfl,rfl,bg⟩:=hrel;have hle:=pP l i;have⟨g0,g1,g2,g3⟩:=af ((bg.out.block w (by omega)).trans cI.out);have s2:=bg.out.size;have hge:(0:Int)<=left-1-(dB (l.take i):Int):=by omega
   have hup:left-1-(dB (l.take i):Int)<=40:=by omega
   by_cases bH:i<len
   .obtain⟨b,off,rfl,hMb,hbl,hcell⟩:=HC.out (by omega);obtain⟨x,hx⟩:∃x,l[i]? =some x:=⟨_,Qac (by rw[ku.out];exact bH)⟩;obtain⟨xk,xn,xs,xl⟩:=x;have⟨cs,hrep,hcs⟩:=hcell i _ hx;have pK:=hrep;obtain⟨xv,rfl,hxs,hxz⟩:=cO.iff.1 pK;obtain⟨xa,xc,rfl,_⟩:=hxs.aq;have⟨f1,f2,f3⟩:=tA hx;have f4:=oJ hx;have f5:=pP l (i+1);have hB:Below w w wr:=bz.out.trans (bg.out.mono (by have:=bz.out.size;omega));have q0:wr.cell? (b,off+i*4)=some (.int .i64 xk):=(hB.cell (p:=⟨b,off+i*4,none⟩) hbl).trans (hcs 0 _ rfl);have q1:wr.cell? (b,off+i*4+1)=some (.int .i64 xn):=(hB.cell (p:=⟨b,off+i*4+1,none⟩) hbl).trans (hcs 1 _ rfl);have q2:wr.cell? (b,off+i*4+2)=some (.string xs):=(hB.cell (p:=⟨b,off+i*4+2,none⟩) hbl).trans (hcs 2 _ rfl);have q3:wr.cell? (b,off+i*4+3)=some (.slice xa xl.length xc):=(hB.cell (p:=⟨b,off+i*4+3,none⟩) hbl).trans (hcs 3 _ rfl);have ag:=HD.out;have hcall:=ih (.mk xk xn xs xl) (by omega) M wr _ (deep-1) (left-1-(dB (l.take i):Int)) ⟨_,rfl,aD.ev (α:=aG) hrep (Ev.az hB)⟩ (f3 zA.out) (by omega) (by omega) (by omega) (by omega);have pJ:Hid (left-1-(dB (l.take i):Int)-(eB (.mk xk xn xs xl):Int)=left-1-(dB (l.take (i+1)):Int)):=(show _=_ by rw[f4];omega);have bI:=hD hcall;clear hcall;clear hcell hcs hrep pK hxs hxz f1 f2 f3 f4 f5 hx hB ag;go_wp2_with fail;refine(bI.out).mono ?_;rintro e w2⟨rfl,bE⟩;have bV:=hD bE;clear bE;go_wp2_with fail;go_roundg(len-(i+1));case measure=>omega
    case rel=>exact⟨i+1,by omega,rfl,by go_num,by rw[pJ.out],(show Below _ _ _ from bg.out.trans (bV.out.mono s2))⟩
   .have vZ:i=len:=by omega
    go_wp2_with fail;go_ret;refine⟨iX ?_,bz.out.trans (bg.out.mono (by have:=bz.out.size;omega))⟩;rw[Qah (by rw[ku.out];omega)];omega
def wI(M:aV)(w:ax)(v:aA)(e:aG)(hag:cB M w v e)(hn:iG e=true)(hd:kX e<=8)(hs:eB e<=40):
 xC 320 #[v] w λe' w'=>e'=xR true/\aC w w':=by
 obtain⟨k,n,s,l⟩:=e;obtain⟨cs,rfl,hrep⟩:=hag;have pK:=hrep;obtain⟨lv,rfl,hsl,hss⟩:=cO.iff.1 pK;obtain⟨a,cap,rfl,_⟩:=hsl.aq;have HC:Hd (∀W,aC w W->xC 345 #[.agg #[k,n,s,xL a l.length cap],xI 8,xI 40] W λe' w'=>e'=xR (xI (40-eB (.mk k n s l)))/\aC W w'):=λW hb=>Rn 40 (.mk k n s l) hs M W _ 8 40 ⟨_,rfl,aD.ev (α:=aG) hrep (Ev.az hb)⟩ hn (by omega) (by omega) (by omega) (by omega);have hz:(0:Int)<=40-(eB (.mk k n s l):Int):=by omega
 generalize eB (.mk k n s l)=sz at*;go_enter func320,ntmps320;go_wp2_with fail;refine cC (HC.o _ (by exact bU)) λw1 hb1=> ?_;have bz:=ag (bt hb1);go_wp2;go_ret;exact⟨bK (by simp;omega),bz.o⟩
def F0 {l:List UInt8}{kd n:Nat}{str:List UInt8}{size:Nat}(hl:l.length<=200)(h:ru l=some ((kd,n,str),size)):1<=kd/\kd<=4/\str.length<=200/\(kd=1->str=[])/\(kd≠1->n=0)/\(kd=4->∃c,c∈dW/\str=[c])/\0<size/\size<=l.length:=by
 cases l with
 |nil=>simp[ru]at h
 |cons c r=>
  unfold ru at h;dsimp only at h;simp only[Qcc]at hl⊢;by_cases hd:nT c=true
  .rw[if_pos hd]at h;split at h
   .cases h
   .simp only[Qcf,Prod.mk.injEq]at h;obtain⟨⟨rfl,rfl,rfl⟩,rfl⟩:=h;exact⟨by omega,by omega,by simp,λ_=>rfl,λh=>absurd rfl h,λh=>by omega,by omega,by omega⟩
  .rw[if_neg hd]at h;by_cases iK:qx c=true
   .rw[if_pos iK]at h;split at h
    .simp only[Qcf,Prod.mk.injEq]at h;obtain⟨⟨rfl,rfl,rfl⟩,rfl⟩:=h;have hle:((c::r).takeWhile dA).length<=(c::r).length:=(List.takeWhile_prefix dA).length_le;simp only[Qcc]at hle;have hw:dA c=true:=by unfold dA;rw[iK];rfl
     have vG:0<((c::r).takeWhile dA).length:=by rw[List.takeWhile_cons_of_pos hw];simp
     exact⟨by omega,by omega,by omega,λh=>by omega,λ_=>rfl,λh=>by omega,vG,hle⟩
    .cases h
   .rw[if_neg iK]at h;by_cases Cl:c=34
    .rw[if_pos Cl]at h;split at h
     .rename_i x hx;split at h
      .simp only[Qcf,Prod.mk.injEq]at h;obtain⟨⟨rfl,rfl,rfl⟩,rfl⟩:=h;have hlen:=congrArg List.length hx;rw[List.length_drop]at hlen;simp only[Qcc]at hlen;exact⟨by omega,by omega,by omega,λh=>by omega,λ_=>rfl,λh=>by omega,by omega,by omega⟩
      .cases h
     .cases h
    .rw[if_neg Cl]at h;split at h
     .rename_i hm;simp only[Qcf,Prod.mk.injEq]at h;obtain⟨⟨rfl,rfl,rfl⟩,rfl⟩:=h;have Sw:=List.contains_iff_mem.1 hm;refine⟨by omega,by omega,by simp,λh=>by omega,λ_=>rfl,λ_=>⟨c,?_,rfl⟩,by omega,by omega⟩;simp only[dW,Qdf,List.not_mem_nil,or_false]at Sw⊢;rcases Sw with h|h|h|h|h|h|h|h|h|h<;>simp[h]
     .split at h
      .rename_i hm;simp only[Qcf,Prod.mk.injEq]at h;obtain⟨⟨rfl,rfl,rfl⟩,rfl⟩:=h;exact⟨by omega,by omega,by simp,λh=>by omega,λ_=>rfl,λ_=>⟨c,by rw[hm.1];simp[dW],rfl⟩,by omega,by omega⟩
      .cases h
theorem kG:∀(k:Nat)(l:List UInt8)(i:Nat)(T:List Tok),l.length<=200->eQ k l i=some T->qz T/\(∀t∈T,1<=t.an/\t.an<=4)/\T.length<=l.length
 |k,[],i,T,_,h=>by
  cases k<;>simp[eQ]at h<;>subst h<;>exact⟨λt ht=>(by cases ht),λt ht=>(by cases ht),by simp⟩
 |0,_::_,i,T,_,h=>by simp[eQ]at h
 |k+1,c::r,i,T,hl,h=>by
  unfold eQ at h;by_cases hc:c=32
  .rw[if_pos hc]at h;have⟨h1,h2,h3⟩:=kG k r (i+1) T (by simp at hl;omega) h;exact⟨h1,h2,by simp;omega⟩
  .rw[if_neg hc]at h;cases h1:ru (c::r)with
   |none=>rw[h1]at h;cases h
   |some q=>
    obtain⟨⟨kd,n,s⟩,size⟩:=q;rw[h1]at h;dsimp only at h;have⟨a1,a2,a3,a4,a5,a6,a7,a8⟩:=F0 hl h1;rw[if_neg (by omega)]at h;cases h2:eQ k ((c::r).drop size) (i+size)with
    |none=>rw[h2]at h;cases h
    |some ts=>
     rw[h2]at h;simp only[Option.map_some,Qcf]at h;subst h;have⟨b1,b2,b3⟩:=kG k _ (i+size) ts (by rw[List.length_drop];omega) h2;rw[List.length_drop]at b3;simp only[Qcc]at b3 a8⊢;refine⟨λt ht=> ?_,λt ht=> ?_,by omega⟩
     .rcases Qdf.1 ht with rfl|ht
      .exact⟨a3,a4,a5,a6⟩
      .exact b1 t ht
     .rcases Qdf.1 ht with rfl|ht
      .exact⟨a1,a2⟩
      .exact b2 t ht
def F1:(Tryz.prog.info? 392).map (λi=>(i.zero,i.size,i.bytes))=some (some (.agg #[xI 0,xI 0,"",xI 0]),4,40):=by kernel_rfl
def Jd(w:ax)(s:aY)(T:List Tok)(pos:Nat)(wr:ax):Prop:=
 ∃(a:fx)(c:Nat)(done rest:List Tok)(k:Nat),done++rest=T/\eQ k (s.data.toList.drop pos) pos=some rest/\aS (λi=>i<↑w+2) (↑w+2) 392 wr (xL a done.length c) (done.map mF)/\done.length<=pos/\aC w wr/\w.heap.size+2<=wr/\
  wr.heap[w.heap.size]? =some (xK iE 319)/\wr.heap[w.heap.size+1]? =some (xK #[xL a done.length c,xI 0,s.size,xI (-1)] 390)
def Ro(w:ax)(o:Obj)(wx:ax):Prop:=wx.heap[w.heap.size]? =some o/\wx.heap.size=[w]/\aC w wx
def Je(o:Obj)(h1:wx.heap=(w.alloc o).heap)(h2:wx.os=w.os)(h3:wx.tape=w.tape)(h4:wx.output=w.output):Ro w o wx:=by
 have⟨a,b,d⟩:=rE (w:=w) (o0:=o) rfl;unfold Ro;rw[h1];exact⟨a,b,⟨h2,h3,h4,by rw[h1];exact d.size,by rw[h1];exact d.block⟩⟩
def F2(w:ax)(x:aG)(e:Ending)(w':ax):Prop:=∃v,e=xR (.tuple #[v,xI 0,xI 0])/\cB (fJ w) w' v x/\aC w w'
def Jf(s:ByteArray)(w:World)(x:aG)(h:eu s.data.toList=some x):Calls prog 278 #[.string s] w (F2 w x):=by
 have⟨i0,hi0,hz0,hz1,hz2⟩:=info_parts F1;obtain⟨T,hT,hex,hs,MI,hdp,hsz⟩:∃T,eQ 200 s.data.toList 0=some T/\ju 60 1 T=some (x,[])/\s.size<=200/\iG x=true/\kX x<=8/\eB x<=40:=by
  unfold eu at h;cases h1:eQ 200 s.data.toList 0 with
  |none=>rw[h1]at h;cases h
  |some T=>
   rw[h1]at h;dsimp only at h;cases h2:ju 60 1 T with
   |none=>rw[h2]at h;cases h
   |some q=>
    obtain⟨e,r⟩:=q;rw[h2]at h;cases r with
    |cons t r=>cases h
    |nil=>
     dsimp only at h;split at h
     .rename_i hc;simp only[Qcf]at h;subst h;rw[bG]at hc;exact⟨T,rfl,h2,hc⟩
     .cases h
 clear h;obtain⟨xk,xn,xs,xl⟩:=x;have⟨hsh,hkd,hTl⟩:=kG 200 _ 0 T (by rw[bG];exact hs) hT;rw[bG]at hTl;have HT:=hD hT;clear hT;have TH:=hD hex;clear hex;have TI:=hD hsh;clear hsh;have TJ:=hD hkd;clear hkd;have Zr:=hD MI;clear MI;go_enter func278,ntmps278;go_wp2_with fail;go_loopg [3,4,6,7,8]s.size(λg r1 r2 iv _ _ wr=>∃pos:Nat,pos<=s.size/\g=s.size-pos/\iv= .int .i64 pos/\r1= .int .i64 0/\r2= .int .i64 0/\Hid (Jd w s T pos wr));case atStart=>
  refine⟨0,Qbf _,rfl,rfl,rfl,rfl,?_⟩;have⟨b0,b1,hz,hb⟩:=jZ (w:=w) (o0:= .cells #[.int .i64 0, .int .i64 0, .string (), .slice none 0 0] 319) (o1:= .cells #[.slice none 0 0, .int .i64 0, .int .i64 s.size, .int .i64 (-1)] 390) rfl;exact(show Jd _ _ _ _ _ from⟨none,0,[],T,200,rfl,HT.out,aS.nil _ _ _ _,Qab _,hb,by rw[hz];omega,b0,b1⟩)
 case round=>
  obtain⟨pos,vG,rfl,rfl,rfl,rfl,HL⟩:=hrel;have⟨a,c,done,rest,k,hdr,hlx,hacc,hdl,hbel,hsz2,hR,hP⟩:=HL.out;by_cases bH:pos<s.size
  .obtain⟨ch,Qg⟩:∃ch,s[pos]=ch:=⟨_,rfl⟩;have hb:=dz s pos bH;rw[Qg]at hb;have Fk:s.data.toList.drop pos=ch::s.data.toList.drop (pos+1):=by
    have hl:=(Qad.1 hb).1;rw[List.drop_eq_getElem_cons hl,(Qad.1 hb).2]
   have hpz:(pos:Int)<s.size:=by omega
   rw[Fk]at hlx;cases k with
   |zero=>simp[eQ]at hlx
   |succ k=>
    unfold eQ at hlx;by_cases QZ:ch=32
    .subst QZ;rw[if_pos rfl]at hlx;have VK:=hD hlx;clear hlx;have Nd:=hD hdr;clear hdr;have lD:=hD hacc;clear hacc;have Cp:=hD hbel;clear hbel;have HR:=hD hR;clear hR;have HP:=hD hP;clear hP;clear Fk hb HL;go_wp2_with fail;go_roundg(s.size-(pos+1));case measure=>omega
     case rel=>exact⟨pos+1,by omega,rfl,by go_num,rfl,rfl,(show Jd _ _ _ _ _ from⟨a,c,done,rest,k,Nd.out,VK.out,lD.out,by omega,Cp.out,hsz2,HR.out,HP.out⟩)⟩
    .rw[if_neg QZ]at hlx;have e32:((ch.toNat:Int)==32)=false:=by simp;intro h;exact QZ (UInt8.toNat_inj.1 (by simp;omega))
     cases h1:ru (ch::s.data.toList.drop (pos+1))with
     |none=>rw[h1]at hlx;cases hlx
     |some q=>
      obtain⟨⟨kd,n,str⟩,size⟩:=q;rw[h1]at hlx;dsimp only at hlx;rw[<-Fk]at h1;have⟨hcall,hz0',hle,hn9,hst⟩:=Nv s wr pos hs kd n str size h1;rw[if_neg (by omega),<-Fk]at hlx;rw[List.drop_drop]at hlx;cases h2:eQ k (s.data.toList.drop (pos+size)) (pos+size)with
      |none=>rw[h2]at hlx;cases hlx
      |some ts=>
       rw[h2]at hlx;simp only[Option.map_some,Qcf]at hlx;have qfr:(((pos+size:Nat):Int)==0)=false:=by simp;omega
       have VK:=hD hlx;clear hlx;have qcr:=hD h2;clear h2;have Nd:=hD hdr;clear hdr;have lD:=hD hacc;clear hacc;have Cp:=hD hbel;clear hbel;have HR:=hD hR;clear hR;have HP:=hD hP;clear hP;have bI:=hD hcall;clear hcall;clear Fk hb HL h1;go_wp2_with fail;refine(bI.out).mono ?_;rintro e w1⟨rfl,hb1⟩;have s1:=hb1.size;have MJ:Hid (w1.heap[w.heap.size+1]? =some (.cells #[.slice a done.length c, .int .i64 0, .int .i64 s.size, .int .i64 (-1)] 390 (0,0))):=(hb1.block _ (by omega)).trans HP.out;have Cn:=hD (lD.out.ae hb1);have mZ:Hid (w1.heap[w.heap.size]? =some (.cells #[.int .i64 0, .int .i64 0, .string (), .slice none 0 0] 319 (0,0))):=(hb1.block _ (by omega)).trans HR.out;have bz:Hid (Below w w w1):=Cp.out.trans (hb1.mono (by omega));have⟨p0,p1,p2,p3⟩:=af MJ.out;have fP:=aj MJ.out 0;have npw:w.heap.size+1≠w1:=by omega
       clear hb1;go_upto_region 11 with fail;obtain⟨W1,hW1⟩:∃W1:World,W1=w1.alloc (.cells #[.int .i64 (cD kd), .int .i64 n, .string (bL str), .int .i64 pos] 392):=⟨_,rfl⟩;rw[<-hW1];have⟨bX,hzW,hbW⟩:=rE hW1;have fp:=hD bX;have SA:Hid (W1.heap[w.heap.size+1]? =some (.cells #[.slice a done.length c, .int .i64 0, .int .i64 s.size, .int .i64 (-1)] 390 (0,0))):=(hbW.block _ (by omega)).trans MJ.out;have HAW:=hD (Cn.out.ae hbW);have IU:Hid (W1.heap[w.heap.size]? =some (.cells #[.int .i64 0, .int .i64 0, .string (), .slice none 0 0] 319 (0,0))):=(hbW.block _ (by omega)).trans mZ.out;have qX:Hid (Below w w W1):=bz.out.trans (hbW.mono (by omega));have hsW:w1.heap.size<W1:=by omega
       clear hW1 hbW hzW bX p0 p1 p2 p3 fP;have⟨p0,p1,p2,p3⟩:=af SA.out;have⟨x0,x1,x2,x3⟩:=af fp.out;have P0:∀o,(W1.alloc o).cell? ([w],0)=some (.slice a done.length c):=λo=>(World.cell?_of_block (w:=W1) (Qcb W1 o [w] (by omega))).trans p0;have Xt:(done.map mF).length=done.length:=Qdc _;have TK:=hD Xt;clear Xt;go_region_law(first
        |(refine dT (α:=wD) rfl _ _ _ rfl (λi=>i<↑w+2) (↑w+2) 392 i0 _ 40 underlying388 hi0 hz0 hz1 hz2 rfl (by decide) (.slice a done.length c) (done.map mF) rfl ((HAW.out.ae ⟨rfl,rfl,rfl,Qab _,λ_ _=>rfl⟩:aS _ _ _ W1.drew _ _).alloc _) (λ_=>True) _ _ ⟨cD kd,n,bL str,pos⟩ rfl (cF _ _ _ _ rfl trivial) ⟨rfl,by rw[jP];exact hst⟩ (by rw[TK.out];unfold maxLen;omega) (by rw[TK.out];omega) (by simp;omega) ?_;rw[TK.out];intro a2 c2 w2 bD dK bE;have dr:=hD bD;have l3:w2.cell? ([w],0)=some (.slice a done.length c):=(bE.cell (p:=⟨[w],0,none⟩) (by simp)).trans (P0 _);have l4:w2.frozen? ([w],0)=false:=(bE.frozen (p:=⟨[w],0,none⟩) (by simp)).trans ((((Qbg _ _).alloc (Qab _) _).frozen (p:=⟨[w],0,none⟩) (by simp;omega)).trans (aj SA.out 0));have bg:=hD bE;clear bD dK bE));all_goals
        go_wp2_with fail;go_roundg(s.size-(pos+size));case measure=>omega
        case rel=>
         refine⟨pos+size,by omega,rfl,by go_num,rfl,rfl,?_⟩;have hs2:=bg.out.size;simp at hs2;have hblk:∀y,y<w.heap.size+2->w2.heap[y]? =W1.heap[y]? :=λy hy=>(bg.out.block y hy).trans (Qcb W1.drew _ y (by simp;omega));refine(show Jd _ _ _ _ _ from⟨a2,c2,done++[⟨kd,n,str,pos⟩],ts,k,?_,qcr.out,?_,by simp;omega,?_,by simp;omega,?_,?_⟩)
         .rw[<-Nd.out,<-VK.out];simp
         .have h:=dr.out.rC (p:=⟨[w],0,none⟩) (by simp) (by simp) (.slice a2 (done.length+1) c2);simpa [mF]using h
         .exact(((qX.out.drew).alloc (by simp;omega) _).trans (bg.out.mono (by omega))).setCell (by simp) _
         .exact(Qag _ _ _ _ (by simp)).trans ((hblk _ (by omega)).trans IU.out)
         .have h:=Qca w2 [w] 0 _ _ (.slice a2 (done.length+1) c2) ((hblk _ (by omega)).trans SA.out);simpa using h
  .have J1:rest=[]:=by
    rw[List.drop_eq_nil_of_le (by rw[bG];omega)]at hlx;cases k<;>simp[eQ]at hlx<;>exact hlx
   subst J1;rw[List.append_nil]at hdr;subst hdr;have hpz:¬(pos:Int)<s.size:=by omega
   have hps:dY [w] (.slice a done.length c) s.size done wr 0:=
    ⟨hP,(hacc.slice (λi h=>h)).ev (Ev.dL wr λi hi=>by unfold bh at hi;omega),by omega,Qbf _,TJ.out⟩;have hcall:=(Rl [w] (.slice a done.length c) s.size done TI.out 60).1 1 0 (.mk xk xn xs xl) [] wr (by omega) (by omega) hps TH.out;have sY:=hD hps;clear hps;have bI:=hD hcall;clear hcall;have Cp:=hD hbel;clear hbel;have HR:=hD hR;clear hR;have HP:=hD hP;clear hP;clear hlx hacc HL;go_wp2_with fail;refine(bI.out).mono ?_;rintro e w1⟨_,j,rfl,⟨cs,rfl,hrep⟩,nO,hr1,hU⟩;have pK:=hrep;obtain⟨av,rfl,hsl,hss⟩:=cO.iff.1 pK;obtain⟨xa,xc,rfl,_⟩:=hsl.aq;have hj:j=done.length:=by
    have h1:=congrArg List.length hr1;rw[List.length_drop]at h1;simp at h1;have:=nO.le;omega
   subst hj;have s1:=hU.size;have mZ:Hid (w1.heap[w.heap.size]? =some (.cells #[.int .i64 0, .int .i64 0, .string (), .slice none 0 0] 319 (0,0))):=(hU.block _ (by omega) (by unfold bh;omega)).trans HR.out;have bz:Hid (Below w w w1):=(show Below _ _ _ from⟨hU.os.trans Cp.out.os,hU.tape.trans Cp.out.tape,hU.output.trans Cp.out.output,Qcg Cp.out.size s1,λy hy=>(hU.block y (by omega) (by unfold bh;omega)).trans (Cp.out.block y hy)⟩);have⟨p0,p1,p2,p3⟩:=af nO.box;have npw:w.heap.size+1≠w1:=by omega
   have nrw:w.heap.size≠w1:=by omega
   have fq:=hD hrep;clear hrep;have qt:=hD nO;clear nO;clear hU pK hsl hss hr1;have P0:∀o,(w1.alloc o).cell? ([w],0)=some (.slice a done.length c):=λo=>(World.cell?_of_block (w:=w1) (Qcb w1 o [w] (by omega))).trans p0;have P1:∀o,(w1.alloc o).cell? ([w],1)=some (.int .i64 done.length):=λo=>(World.cell?_of_block (w:=w1) (Qcb w1 o [w] (by omega))).trans p1;have P3:∀o,(w1.alloc o).cell? ([w],3)=some (.int .i64 (-1)):=λo=>(World.cell?_of_block (w:=w1) (Qcb w1 o [w] (by omega))).trans p3;have ag:decide (done.length<done.length)=false:=by simp
   have hdi:decide ((done.length:Int)<(done.length:Int))=false:=by simp
   go_upto_region 14 with fail;go_cut [67](λs67 wx=>s67= .bool false/\Ro w1 (.cells #[.int .i64 xk, .int .i64 xn, .string xs, .slice xa xl.length xc] 319) wx);case first=>
    go_quiet(fail);go_wp2_with fail;go_meet;exact⟨rfl,Je _ rfl rfl rfl rfl⟩
   case rest=>
    obtain⟨rfl,Qb,hxs,hxb⟩:=hcut;clear p0 p1 p2 p3;have TL:=(hxb.block [w] (by omega)).trans qt.out.box;have⟨p0,p1,p2,p3⟩:=af TL;have HRc:Hid (wc.heap[w.heap.size]? =some (.cells #[.int .i64 0, .int .i64 0, .string (), .slice none 0 0] 319 (0,0))):=(hxb.block _ (by omega)).trans mZ.out;have⟨e0,e1,e2,e3⟩:=af Qb;have Qh:=wI (fJ w) wc (.agg #[.int .i64 xk, .int .i64 xn, .string xs, .slice xa xl.length xc]) (.mk xk xn xs xl) ⟨_,rfl,aD.ev (α:=aG) fq.out ⟨ao.az hxb,λi hi=> .inl (by unfold fJ at hi⊢;omega)⟩⟩ Zr.out hdp hsz;have HBc:Hid (Below w w wc):=bz.out.trans (hxb.mono (by omega));have Zs:Hid (cO (λi=>i<[w]) wc [.int .i64 xk, .int .i64 xn, .string xs, .slice xa xl.length xc] (.mk xk xn xs xl)):=aD.ev (α:=aG) fq.out ⟨ao.az hxb,λi hi=> .inl (by unfold fJ;omega)⟩;have VL:=hD Qh;clear Qh;have ui:=hD Qb;clear Qb;clear TL hxb;go_wp2_with fail;refine(VL.out).mono ?_;rintro e w5⟨rfl,iL⟩;have Fh:Hid (w5.heap[w.heap.size]? =some (.cells #[.int .i64 0, .int .i64 0, .string (), .slice none 0 0] 319 (0,0))):=(iL.block _ (by omega)).trans HRc.out;have lE:=hD ((iL.block _ (by omega)).trans ui.out);have iU:Hid (Below w w w5):=HBc.out.trans (iL.mono (by omega));have Zt:=hD (aD.ev (α:=aG) Zs.out (Ev.az iL));clear e0 e1 e2 e3 p0 p1 p2 p3 iL;have⟨e0,e1,e2,e3⟩:=af lE.out;have⟨r0,r1,r2,r3⟩:=af Fh.out;have g0:=aj Fh.out 0;have g1:=aj Fh.out 1;have g2:=aj Fh.out 2;have g3:=aj Fh.out 3;go_wp2_with fail;refine Qae (v:= .tuple #[.agg #[.int .i64 xk, .int .i64 xn, .string xs, .slice xa xl.length xc], .int .i64 0, .int .i64 0]) (by simp[results,results278,go_sem,r0,r1,r2,r3]) rfl ⟨_,rfl,⟨_,rfl,aD.ev (α:=aG) Zt.out ?_⟩,?_⟩
    .exact((((Ev.dL w5 (λi h=>by unfold fJ at h;omega)).setCell (.inl (by simp)) _).setCell (.inl (by simp)) _).setCell (.inl (by simp)) _).setCell (.inl (by simp)) _
    .exact(((iU.out.setCell (Qab _) _).setCell (Qab _) _).setCell (Qab _) _).setCell (Qab _) _
def below_drewN {a:ax}(h:Below B a w)(n:Nat):Below B a (w.drewN n):=⟨h.os,h.tape,h.output,h.size,h.block⟩
def vy(b:Nat)(bad:Int)(w:ax):Prop:=w.heap[b]? =some (xK #[(),xI 0,xI 0,bad] 390)
def wJ(b:Nat)(w:ax)(e:Ending)(w':ax):Prop:=e=xR (.agg iE)/\vy b 0 w'/\ao (bh b) w w'
def wK {bad:Int}(h:vy b bad W)(hne:b≠w)(v0 v1 v2 v3:aA):vy b bad ((((W.setCell (w,0) v0).setCell (w,1) v1).setCell (w,2) v2).setCell (w,3) v3):=
 (Qag _ _ _ _ hne).trans ((Qag _ _ _ _ hne).trans ((Qag _ _ _ _ hne).trans ((Qag _ _ _ _ hne).trans h)))
def tC(h:ao (bh b) w W)(v0 v1 v2 v3:aA):ao (bh b) w ((((W.setCell (w,0) v0).setCell (w,1) v1).setCell (w,2) v2).setCell (w,3) v3):=
 (((h.setCell (.inr bT) v0).setCell (.inr bT) v1).setCell (.inr bT) v2).setCell (.inr bT) v3
def F3(b:Nat)(w:World)(h:vy b (-1) w):xC 319 #[xP b] w (wJ b w):=by
 have hbl:b<w:=(Qaa.1 h).1;have⟨p0,p1,p2,p3⟩:=af h;have f3:=aj h 3;have hne:b≠w:=by omega
 have HP:=ag h;clear h;go_enter func319,ntmps319;go_upto_region 3 with fail;have⟨W,hW⟩:=bY ((w.setCell (b,3) (xI 0)).alloc (xK #[xI 0,xI 0,"",()] 319));rw[<-hW];have HB:=ag (show vy b 0 W by unfold vy;rw[hW];exact(Qcb _ _ b (by simpa using hbl)).trans (Qca w b 3 _ _ _ HP.o));have HR:=ag (show W.heap[w.heap.size]? =some (xK #[xI 0,xI 0,"",()] 319)by rw[hW];have h:=Qbh (w.setCell (b,3) (xI 0)) (xK #[xI 0,xI 0,"",()] 319);simpa using h);have HO:=ag (show ao (bh b) w W by rw[hW];exact((ao.refl (bh b) w).Kv 3 _).alloc _);clear hW p0 p1 p2 p3 f3;have⟨p0,p1,p2,p3⟩:=af HB.o;have⟨r0,r1,r2,r3⟩:=af HR.o;have⟨g0,g1,g2,g3⟩:=hZ HR.o;go_quiet(fail);go_wp2_with fail;refine Qae (v:= .agg #[xI 0,xI 0,"",()]) (by simp[results,results319,go_sem,r0,r1,r2,r3]) rfl ⟨rfl,?_,?_⟩
 .exact wK (w:=w) (W:=W.drewN nq) HB.o hne _ _ _ _
 .exact tC (HO.o.drewN nq) _ _ _ _
def CX(b:Nat)(w:ax)(h:vy b (-1) w):xC 344 #[xP b] w (wJ b w):=by
 have hbl:b<w:=(Qaa.1 h).1;have⟨p0,p1,p2,p3⟩:=af h;have hne:b≠w:=by omega
 have HP:=ag h;clear h;go_enter func344,ntmps344;go_wp2_with fail;go_quiet(fail);have⟨W,hW⟩:=bY ((w.alloc (xK iE 319)).drewN nq);rw[<-hW];have HB:=ag (show vy b (-1) W by unfold vy;rw[hW];exact(Qcb w _ b hbl).trans HP.o);have HR:=ag (show dk W w (xK iE 319)by rw[hW];exact Qbh w _);have HO:=ag (show ao (bh b) w W by rw[hW];exact((ao.refl (bh b) w).alloc _).drewN nq);have hsz:w.heap.size<W:=(Qaa.1 HR.o).1;have hcall:=F3 b W HB.o;have bI:=ag hcall;clear hcall;clear hW p0 p1 p2 p3;go_wp2_with fail;refine(bI.o).mono ?_;rintro e w1⟨rfl,hp1,ho1⟩;have mZ:Hd (dk w1 w (xK iE 319)):=(ho1.block _ hsz (by unfold bh;omega)).trans HR.o;have⟨r0,r1,r2,r3⟩:=af mZ.o;have⟨g0,g1,g2,g3⟩:=hZ mZ.o;have MJ:=ag hp1;clear hp1;have q9:=ag ho1;clear ho1;go_wp2_with fail;refine Qae (v:= .agg iE) (by simp[results,results344,go_sem,r0,r1,r2,r3]) rfl ⟨rfl,?_,?_⟩
 .exact wK (w:=w) MJ.o hne _ _ _ _
 .exact tC (HO.o.trans q9.o) _ _ _ _
def F4(b:Nat)(w:ax)(h:vy b (-1) w):xC 318 #[xP b,xI 1] w (wJ b w):=by
 have hbl:b<w:=(Qaa.1 h).1;have hne:b≠w:=by omega
 have hcall:=CX b (w.alloc (xK iE 319)) ((Qcb w _ b hbl).trans h);have HP:=ag h;clear h;have bI:=ag hcall;clear hcall;go_enter func318,ntmps318;go_wp2_with fail;refine(bI.o).mono ?_;rintro e w1⟨rfl,hp1,ho1⟩;have hs1:=ho1.size;simp at hs1;have mZ:Hd (dk w1 w (xK iE 319)):=(ho1.block _ (by simp) (by unfold bh;omega)).trans (Qbh w _);have HO:Hd (ao (bh b) w w1):=((ao.refl _ w).alloc _).cV ho1 (λi hi _=>hi);have MJ:=ag hp1;clear hp1;clear ho1;go_wp2;go_loopg [6]0(λg _ wr=>g=0/\Hd (Ro w1 (xK iE 319) wr));case atStart=>exact⟨rfl,(Je _ rfl rfl rfl rfl)⟩
 case round=>
  obtain⟨rfl,HT⟩:=hrel;have⟨hx,hxs,hxb⟩:=HT.o;have VM:Hd (vy b 0 wr):=(hxb.block b (by omega)).trans MJ.o;have vI:Hd (dk wr w (xK iE 319)):=(hxb.block _ (by omega)).trans mZ.o;have SB:Hd (ao (bh b) w wr):=HO.o.trans (ao.az hxb);have⟨p0,p1,p2,p3⟩:=af VM.o;have⟨r0,r1,r2,r3⟩:=af vI.o;have⟨g0,g1,g2,g3⟩:=hZ vI.o;have⟨x0,x1,x2,x3⟩:=af hx;have qcs:w.heap.size≠w1:=by omega
  have HX:=ag hx;clear hx;clear hxb hxs;go_wp2_with fail;go_quiet(fail);go_wp2_with fail;refine Qae (v:= .agg iE) (by simp[results,results318,go_sem,r0,r1,r2,r3]) rfl ⟨rfl,?_,?_⟩
  .exact wK (w:=w) (W:=wr.drewN nq) VM.o hne _ _ _ _
  .exact tC (SB.o.drewN nq) _ _ _ _
def CY(w:ax):xC 278 #[""] w (cu (.tuple #[.agg iE,xI 0,xI 50]) w):=by
 go_enter func278,ntmps278;go_wp2;go_loopg [3,4,6,7,8]0(λg r1 r2 iv _ _ wr=>g=0/\r1=xI 0/\r2=xI 0/\iv=xI 0/\Hd (Two w (xK iE 319) (xK #[(),xI 0,xI 0,xI (-1)] 390) wr));case atStart=>exact⟨rfl,rfl,rfl,rfl,(Ny (jZ (w:=w) rfl) rfl rfl rfl rfl)⟩
 case round=>
  obtain⟨rfl,rfl,rfl,rfl,HT⟩:=hrel;have⟨hR,hP,hs,hb⟩:=HT.o;have hcall:=F4 [w] wr hP;have hsz:w.heap.size+1<wr:=by omega
  have HR:=ag hR;clear hR;have HB:=ag hb;clear hb;have bI:=ag hcall;clear hcall;clear hP hs;go_wp2_with fail;refine(bI.o).mono ?_;rintro e w1⟨rfl,hp1,ho1⟩;have hs1:=ho1.size;have mZ:Hd (dk w1 w (xK iE 319)):=(ho1.block _ (by omega) (by unfold bh;omega)).trans HR.o;have bz:Hd (aC w w1):=⟨ho1.os.trans HB.o.os,ho1.tape.trans HB.o.tape,ho1.output.trans HB.o.output,Qcg HB.o.size hs1,λy hy=>(ho1.block y (by omega) (by unfold bh;omega)).trans (HB.o.block y hy)⟩;have⟨W,hW⟩:=bY (w1.alloc (xK iE 319));have⟨wx,wxs,wxb⟩:=rE hW;have SA:Hd (vy [w] 0 W):=(wxb.block _ (by omega)).trans hp1;have IU:Hd (dk W w (xK iE 319)):=(wxb.block _ (by omega)).trans mZ.o;have qX:Hd (aC w W):=bz.o.trans (wxb.mono (by omega));clear hp1 ho1 wx wxs wxb;go_upto_region 14 with fail;rw[<-hW];clear hW;have⟨p0,p1,p2,p3⟩:=af SA.o;have⟨r0,r1,r2,r3⟩:=af IU.o;have⟨g0,g1,g2,g3⟩:=hZ IU.o;go_quiet(fail);go_wp2_with fail;go_region;all_goals
   go_wp2_with fail;refine Qae (v:= .tuple #[.agg iE,xI 0,xI 50]) (by simp[results,results278,go_sem,r0,r1,r2,r3]) rfl ⟨rfl,?_⟩;exact((((below_drewN qX.o _).setCell bT _).setCell bT _).setCell bT _).setCell bT _
def jw(c:aI)(x:aG)(t:br):Prop:=∀(M:aV)(w:ax)(v fv:aA),cB M w v x->ab M w fv c.ah->
 xC 321 #[v, .agg #[c.ai,fv]] w (cu (.tuple #[.agg #[t.an,t.of],true]) w)
def gq(c:aI)(x:aG)(p:Int):Prop:=∀(M:aV)(w:ax)(v fv:aA),cB M w v x->ab M w fv c.ah->
 xC 346 #[v, .agg #[c.ai,fv]] w (cu p w)
def eH {k n:Int}{l:List aG}(h:cB M w v (aG.mk k n s l)):∃a cap,v= .agg #[k,n,s,xL a l.length cap]/\ab M w (xL a l.length cap) l:=by
 obtain⟨cs,rfl,hrep⟩:=h;obtain⟨lv,rfl,hsl,_⟩:=cO.iff.1 hrep;have h2:=hsl;obtain⟨a,cap,rfl,_⟩:=h2.aq;exact⟨a,cap,rfl,hsl⟩
def iA(c:aI)(x:aG)(t:br)(ht:t.an=1\/t.an=2)(H:jw c x t):gq c x t.an:=by
 intro M w v fv hag hfs;obtain⟨xk,xn,xs,xl⟩:=x;have tg:=ag hag;have iD:=ag hfs;obtain⟨a,cap,rfl,_⟩:=eH hag;obtain⟨fa,fc,rfl,_⟩:=hfs.aq;have HC:Hd (∀W,aC w W->xC 321 #[.agg #[xk,xn,xs,xL a xl.length cap], .agg #[c.ai,xL fa c.ah.length fc]] W (cu (.tuple #[.agg #[t.an,t.of],true]) W)):=λW hb=>H M W _ _ (tg.o.ae hb) (iD.o.ae hb);obtain⟨tk,FG⟩:=t;dsimp only at ht HC⊢;rcases ht with rfl|rfl;all_goals
  go_enter func346,ntmps346;go_wp2_with fail;refine cC (HC.o _ (by exact bU.alloc (by simp) _)) λw1 hb1=> ?_;have bz:Hd (aC w w1):=((bU.alloc (by simp) _)).trans (hb1.mono (by simp;omega));go_wp2;go_ret;exact⟨rfl,bz.o.alloc bz.o.size _⟩
def iO(c:aI)(k n:Int)(s:aY)(l:List aG)(hk:k=1\/k=2):jw c (.mk k n s l) ⟨k,0⟩:=by
 intro M w v fv hag hfs;obtain⟨a,cap,rfl,_⟩:=eH hag;obtain⟨fa,fc,rfl,_⟩:=hfs.aq;rcases hk with rfl|rfl;all_goals
  go_enter func321,ntmps321;go_wp2_with fail;refine Qae (v:= .tuple #[.agg #[xI _,xI 0],true]) (by simp[results,results321,go_sem];try rfl) rfl ⟨rfl,?_⟩;exact(bU.alloc (by simp) _).alloc (by simp;omega) _
def F5(c:aI)(s:aY)(f:aH)(i:Nat)(hi:fieldAt c s=i)(hf:c.ah[i]? =some f):jw c (.mk 3 0 s []) f.type:=by
 intro M w v fv hag hfs;obtain⟨a,cap,rfl,_⟩:=eH hag;have iD:=ag hfs;obtain⟨fa,fc,rfl,_,_,hc⟩:=hfs.aq;have vZ:=(Qad.1 hf).1;obtain⟨b,off,rfl,hM,hbl,hcell⟩:=hc (by omega);obtain⟨cs,⟨rfl,_⟩,hcs⟩:=hcell i f hf;have HC:Hd (∀W,aC w W->xC 118 #[.agg #[c.ai,xL (b,off) c.ah.length fc],s] W (cu (.tuple #[i,true]) W)):=λW hb=>lO M _ W c s i true (iD.o.ae hb) (by rw[hi,if_neg (by omega)]) (by rw[hi,decide_eq_false (by omega)];rfl);have q1:bJ w b (off+i*4+1) f.type.an:=hcs 1 _ rfl;have q2:bJ w b (off+i*4+1+1) f.type.of:=hcs 2 _ rfl;have QU:(i:Int)<(c.ah.length:Int):=by omega
 go_enter func321,ntmps321;go_wp2_with fail;refine cC (HC.o _ (by exact(bU.alloc (by simp) _).alloc (by simp;omega) _)) λw1 hb1=> ?_;have hb0:aC w w1:=(((bU.alloc (by simp) _)).alloc (by simp;omega) _).trans (hb1.mono (by simp;omega));have k1:bJ w1 b (off+i*4+1) f.type.an:=(hb0.cell (p:=⟨b,off+i*4+1,none⟩) hbl).trans q1;have k2:bJ w1 b (off+i*4+1+1) f.type.of:=(hb0.cell (p:=⟨b,off+i*4+1+1,none⟩) hbl).trans q2;have fp:=ag ((hb1.block [w] (by simp)).trans (CS (w:=w) rfl).2.1);have eZ:=ag ((hb1.block (↑w+2) (by simp)).trans (CS (w:=w) rfl).2.2.1);have⟨c0,c1⟩:=ak fp.o;have MG:bW w1 [w,w] (xK #[xI 0,xI 0] 49):=eZ.o;have⟨r0,r1⟩:=ak MG;have⟨g0,g1⟩:=mu MG;have hs1:=hb1.size;simp at hs1;have iW:=ag hb0;go_wp2_with fail;refine Qae (v:= .tuple #[.agg #[f.type.an,f.type.of],true]) (by simp[results,results321,go_sem,r0,r1]) rfl ⟨rfl,?_⟩;exact(iW.o.setCell (by simp;omega) _).setCell (by simp;omega) _
def kN {l:List aG}{k n:Int}{ll:List aG}(h:ab M w (xL a l.length cap) l)(hi:l[i]? =some (.mk k n s ll)):
 ∃b off ka kc,a=some ⟨b,off,none⟩/\b<w.heap.size/\bJ w b (off+i*4) k/\bJ w b (off+i*4+1) n/\bJ w b (off+i*4+2) s/\bJ w b (off+i*4+3) (xL ka ll.length kc)/\
  cB M w (.agg #[k,n,s,xL ka ll.length kc]) (aG.mk k n s ll):=by
 have⟨a',cap',e,_,_,hc⟩:=h.aq;simp only[Value.slice.injEq,true_and]at e;obtain⟨rfl,rfl⟩:=e;have vZ:=(Qad.1 hi).1;obtain⟨b,off,rfl,hM,hbl,hcell⟩:=hc (by omega);have⟨cs,hrep,hcs⟩:=hcell i _ hi;have pK:cO M w cs (.mk k n s ll):=hrep;obtain⟨lv,rfl,hsl,hss⟩:=cO.iff.1 pK;have h2:=hsl;obtain⟨ka,kc,rfl,_⟩:=h2.aq;exact⟨b,off,ka,kc,rfl,hbl,hcs 0 _ rfl,hcs 1 _ rfl,hcs 2 _ rfl,hcs 3 _ rfl,_,rfl,hrep⟩
def eR(w:ax)(o0 o1:Obj)(wx:ax):Prop:=wx.heap[w.heap.size]? =some o0/\wx.heap[w.heap.size+1]? =some o1/\wx.heap[w.heap.size+1+1]? =some (xK #[xI 0,xI 0] 49)/\aC w wx/\w.heap.size+2<wx
theorem eR.ae(h:eR w o0 o1 wx)(k:aC wx w'):eR w o0 o1 w':=by
 obtain⟨h1,h2,h3,h4,h5⟩:=h;have:=k.size;exact⟨(k.block _ (by omega)).trans h1,(k.block _ (by omega)).trans h2,(k.block _ (by omega)).trans h3,h4.trans (k.mono (by omega)),by omega⟩
theorem eR.drew(h:eR w o0 o1 wx):eR w o0 o1 wx.drew:=⟨h.1,h.2.1,h.2.2.1,h.2.2.2.1.drew,h.2.2.2.2⟩
theorem eR.new(w:ax)(o0 o1:Obj):eR w o0 o1 (((w.alloc o0).alloc o1).alloc (xK #[xI 0,xI 0] 49)):=by
 have⟨a,b,c,d,e⟩:=CS (w:=w) (o0:=o0) (o1:=o1) (o2:=xK #[xI 0,xI 0] 49) rfl;exact⟨a,b,c,e,by rw[d];omega⟩
def vR(c:aI)(s:List UInt8)(x y:aG)(p q:Int)(t:br)(hx:gq c x p)(hy:gq c y q)
 (ht:(s=[38]/\p=2/\q=2/\t=⟨2,0⟩)\/((s=[61]\/s=[62])/\p=q/\(p=1\/p=2)/\t=⟨1,0⟩)\/((s=[42]\/s=[45]\/s=[47])/\p=1/\q=1/\t=⟨1,0⟩)):jw c (.mk 4 0 (bL s) [x,y]) t:=by
 intro M w v fv hag hfs;obtain⟨a,cap,rfl,hsl⟩:=eH hag;obtain⟨xk,xn,xs,xl⟩:=x;obtain⟨yk,yn,ys,yl⟩:=y;obtain⟨b,off,xa,xc,rfl,hbl,x0,x1,x2,x3,Zu⟩:=kN (i:=0) hsl rfl;have⟨b',off',ya,yc,e,_,y0,y1,y2,y3,hya⟩:=kN (i:=1) hsl rfl;simp only[Qcf,Addr.mk.injEq,and_true]at e;obtain⟨rfl,rfl⟩:=e;simp only[Nat.zero_mul,Nat.add_zero]at x0 x1 x2 x3;simp only[Nat.one_mul]at y0 y1 y2 y3;have iD:=ag hfs;obtain⟨fa,fc,rfl,_⟩:=hfs.aq;have HX:Hd (∀W,aC w W->xC 346 #[.agg #[xk,xn,xs,xL xa xl.length xc], .agg #[c.ai,xL fa c.ah.length fc]] W (cu p W)):=λW hb=>hx M W _ _ (Zu.ae hb) (iD.o.ae hb);have HY:Hd (∀W,aC w W->xC 346 #[.agg #[yk,yn,ys,xL ya yl.length yc], .agg #[c.ai,xL fa c.ah.length fc]] W (cu q W)):=λW hb=>hy M W _ _ (hya.ae hb) (iD.o.ae hb);clear hag hfs hsl Zu hya hx hy;have hlen:[aG.mk xk xn xs xl,aG.mk yk yn ys yl].length=2:=rfl;rw[hlen];clear hlen;go_enter func321,ntmps321;go_upto_region 16 with fail;have⟨W,hW⟩:=bY (((w.alloc (xK #[xI 4,xI 0,bL s,xL (b,off) 2 cap] 319)).alloc (xK #[c.ai,xL fa c.ah.length fc] 47)).alloc (xK #[xI 0,xI 0] 49));rw[<-hW];have HW:=ag (show eR w (xK #[xI 4,xI 0,bL s,xL (b,off) 2 cap] 319) (xK #[c.ai,xL fa c.ah.length fc] 47) W by rw[hW];exact eR.new w _ _);clear hW;have zB:Hd (∀W,aC w W->bJ W b off xk/\bJ W b (off+1) xn/\bJ W b (off+2) xs/\bJ W b (off+3) (xL xa xl.length xc)/\bJ W b (off+4) yk/\bJ W b (off+4+1) yn/\bJ W b (off+4+2) ys/\bJ W b (off+4+3) (xL ya yl.length yc)):=λW hb=>
  ⟨(hb.cell (p:=(b,off)) hbl).trans x0,(hb.cell (p:=⟨b,off+1,none⟩) hbl).trans x1,(hb.cell (p:=⟨b,off+2,none⟩) hbl).trans x2,(hb.cell (p:=⟨b,off+3,none⟩) hbl).trans x3,(hb.cell (p:=⟨b,off+4,none⟩) hbl).trans y0,(hb.cell (p:=⟨b,off+4+1,none⟩) hbl).trans y1,(hb.cell (p:=⟨b,off+4+2,none⟩) hbl).trans y2,(hb.cell (p:=⟨b,off+4+3,none⟩) hbl).trans y3⟩;clear x0 x1 x2 x3 y0 y1 y2 y3;go_cut [9](λs9 wx=>s9=xI p/\Hd (eR w (xK #[xI 4,xI 0,bL s,xL (b,off) 2 cap] 319) (xK #[c.ai,xL fa c.ah.length fc] 47) wx));case first=>
  have⟨a0,a1,a2,a3⟩:=af HW.o.1;have⟨c0,c1⟩:=ak HW.o.2.1;have⟨x0,x1,x2,x3,_⟩:=zB.o W HW.o.2.2.2.1;go_region_law(first|(go_simp;go_at_call 346;refine cC (HX.o _ (by exact HW.o.2.2.2.1.drew)) λw1 hb1=> ?_;have oy:=ag (HW.o.drew.ae hb1);clear hb1));all_goals(go_wp2_with fail;go_meet;exact⟨rfl,oy⟩)
 case rest=>
  obtain⟨rfl,fZ⟩:=hcut;clear HW;go_upto_region 17 with fail;go_cut [10](λTM wx=>TM=xI q/\Hd (eR w (xK #[xI 4,xI 0,bL s,xL (b,off) 2 cap] 319) (xK #[c.ai,xL fa c.ah.length fc] 47) wx));case first=>
   have⟨a0,a1,a2,a3⟩:=af fZ.o.1;have⟨c0,c1⟩:=ak fZ.o.2.1;have⟨_,_,_,_,x0,x1,x2,x3⟩:=zB.o _ fZ.o.2.2.2.1;go_region_law(first|(go_simp;go_at_call 346;refine cC (HY.o _ (by exact fZ.o.2.2.2.1.drew)) λw1 hb1=> ?_;have oy:=ag (fZ.o.drew.ae hb1);clear hb1));all_goals(go_wp2_with fail;go_meet;exact⟨rfl,oy⟩)
  case rest=>
   obtain⟨rfl,qi⟩:=hcut;have⟨a0,a1,a2,a3⟩:=af qi.o.1;have⟨r0,r1⟩:=ak qi.o.2.2.1;have⟨g0,g1⟩:=mu qi.o.2.2.1;have hbf:=qi.o.2.2.2.1;have SC:=ag hbf;clear hbf;clear zB HX HY fZ;rcases ht with⟨rfl,rfl,rfl,rfl⟩|⟨hs,rfl,hp,rfl⟩|⟨hs,rfl,rfl,rfl⟩
   .replace a2:ou wc w 2 (xS ⟨#[38]⟩):=a2;go_wp2_with fail;refine Qae (v:= .tuple #[.agg #[xI 2,xI 0],true]) (by simp[results,results321,go_sem,r0,r1]) rfl ⟨rfl,?_⟩;exact(SC.o.setCell (by simp;omega) _).setCell (by simp;omega) _
   .rcases hs with rfl|rfl<;>rcases hp with rfl|rfl;all_goals
     (first|replace a2:ou wc w 2 (xS ⟨#[61]⟩):=a2|replace a2:ou wc w 2 (xS ⟨#[62]⟩):=a2);go_wp2_with fail;refine Qae (v:= .tuple #[.agg #[xI 1,xI 0],true]) (by simp[results,results321,go_sem,r0,r1]) rfl ⟨rfl,?_⟩;exact(SC.o.setCell (by simp;omega) _).setCell (by simp;omega) _
   .rcases hs with rfl|rfl|rfl;all_goals
     (first|replace a2:ou wc w 2 (xS ⟨#[42]⟩):=a2|replace a2:ou wc w 2 (xS ⟨#[45]⟩):=a2|replace a2:ou wc w 2 (xS ⟨#[47]⟩):=a2);go_wp2_with fail;refine Qae (v:= .tuple #[.agg #[xI 1,xI 0],true]) (by simp[results,results321,go_sem,r0,r1]) rfl ⟨rfl,?_⟩;exact(SC.o.setCell (by simp;omega) _).setCell (by simp;omega) _
def fK(s:List UInt8):List UInt8:=
 if s=[108,101,110]then[116]else if s=[116,101,120,116]then[110]else if s=[108,101,102,116]\/s=[102,114,111,109]then[116,110]else if s=[102,105,110,100]then[116,116]else[]
def nt:List (List UInt8):=[[108,101,110],[116,101,120,116],[108,101,102,116],[102,114,111,109],[102,105,110,100]]
def NA(s:List UInt8)(hs:s∈nt)(w:ax):xC 388 #[bL s] w (jt (xS (bL (fK s))) w):=by
 simp only[nt,Qdf,List.not_mem_nil,or_false]at hs;rcases hs with rfl|rfl|rfl|rfl|rfl
 .show xC 388 #[xS ⟨#[108,101,110]⟩] w _;go_enter func388,ntmps388;go_wp2;go_ret;exact⟨rfl,rfl⟩
 .show xC 388 #[xS ⟨#[116,101,120,116]⟩] w _;go_enter func388,ntmps388;go_wp2;go_ret;exact⟨rfl,rfl⟩
 .show xC 388 #[xS ⟨#[108,101,102,116]⟩] w _;go_enter func388,ntmps388;go_wp2;go_ret;exact⟨rfl,rfl⟩
 .show xC 388 #[xS ⟨#[102,114,111,109]⟩] w _;go_enter func388,ntmps388;go_wp2;go_ret;exact⟨rfl,rfl⟩
 .show xC 388 #[xS ⟨#[102,105,110,100]⟩] w _;go_enter func388,ntmps388;go_wp2;go_ret;exact⟨rfl,rfl⟩
def rH(s:List UInt8):br:=if s=[116,101,120,116]\/s=[108,101,102,116]\/s=[102,114,111,109]then⟨2,0⟩else⟨1,0⟩
def partOf(c:UInt8):Int:=if c=110 then 1 else 2
def F6 {s:List UInt8}(hs:s∈nt):0<(fK s).length/\∀c∈fK s,c=110\/c=116:=by
 simp only[nt,Qdf,List.not_mem_nil,or_false]at hs;rcases hs with rfl|rfl|rfl|rfl|rfl<;>decide
def Rp(c:aI)(s:List UInt8)(hs:s∈nt)(l:List aG)(hl:l.length=(fK s).length)(hp:∀(i:Nat)(e:aG)(u:UInt8),l[i]? =some e->(fK s)[i]? =some u->gq c e (partOf u))(M:aV)(w:ax)(v fv:aA)(hag:cB M w v (aG.mk 6 0 (bL s) l))(hfs:ab M w fv c.ah):
 xC 347 #[v, .agg #[c.ai,fv]] w (cu (.tuple #[.agg #[xI (rH s).an,xI (rH s).of],true]) w):=by
 obtain⟨a,cap,rfl,hsl⟩:=eH hag;have iD:=ag hfs;obtain⟨fa,fc,rfl,_⟩:=hfs.aq;have⟨hw0,hwb⟩:=F6 hs;have Zv:=ag (λw=>NA s hs w);have hif:((bL s).toList==[105,102])=false:=by rw[ByteArray.toList_eq,lP];simp only[nt,Qdf,List.not_mem_nil,or_false]at hs;rcases hs with rfl|rfl|rfl|rfl|rfl<;>decide
 have Fj:(((bL s).toList==[108,101,102,116])=true/\rH s=⟨2,0⟩)\/(((bL s).toList==[108,101,102,116])=false/\((bL s).toList==[114,105,103,104,116])=false/\((bL s).toList==[102,114,111,109])=true/\rH s=⟨2,0⟩)\/(((bL s).toList==[108,101,102,116])=false/\((bL s).toList==[114,105,103,104,116])=false/\((bL s).toList==[102,114,111,109])=false/\((bL s).toList==[116,101,120,116])=true/\rH s=⟨2,0⟩)\/(((bL s).toList==[108,101,102,116])=false/\((bL s).toList==[114,105,103,104,116])=false/\((bL s).toList==[102,114,111,109])=false/\((bL s).toList==[116,101,120,116])=false/\rH s=⟨1,0⟩):=by
  rw[ByteArray.toList_eq,lP];simp only[nt,Qdf,List.not_mem_nil,or_false]at hs;rcases hs with rfl|rfl|rfl|rfl|rfl<;>decide
 have IV:=ag Fj;have hwl:(bL (fK s)).size=(fK s).length:=jP _;have hwn:((bL (fK s)).toList==[])=false:=by rw[ByteArray.toList_eq,lP];cases hq:fK s;rw[hq]at hw0;simp at hw0;rfl
 have uh:Hd (∀(i:Nat)(h:i<(bL (fK s)).size),∃u,(fK s)[i]? =some u/\(bL (fK s))[i]=u/\(u=110\/u=116)):=λi h=>by
  have h1:=dz (bL (fK s)) i h;rw[lP]at h1;exact⟨_,h1,rfl,hwb _ (Qaf h1)⟩
 have Zw:(fK s).length<=2:=by simp only[nt,Qdf,List.not_mem_nil,or_false]at hs;rcases hs with rfl|rfl|rfl|rfl|rfl<;>decide
 generalize hwv:bL (fK s)=wv at*;generalize qct:(fK s).length=n at*;rw[hl]at hsl⊢;have gO:=ag hsl;have HP:=ag hp;have HL:=ag hl;have HN:=ag qct;have Zx:=ag hwl;have qfs:wv.size<=2:=by rw[Zx.o];exact Zw
 have qft:wv.size=n:=Zx.o;go_enter func347,ntmps347;go_wp2_with fail;refine dw (Zv.o _) ?_;go_wp2;go_loopg [5,10,11]n(λg r5 iv _ wr=>∃i:Nat,i<=n/\g=n-i/\iv=xI i/\r5=xB false/\Hd (eR w (xK #[xI 6,xI 0,bL s,xL a n cap] 319) (xK #[c.ai,xL fa c.ah.length fc] 47) wr));case atStart=>exact⟨0,Qbf _,rfl,rfl,rfl,(eR.new w _ _)⟩
 case round=>
  obtain⟨i,hi,rfl,rfl,rfl,HW⟩:=hrel;by_cases bH:i<n
  .have⟨u,hu,hwi,hu2⟩:=uh.o i (by omega);have⟨x,hx⟩:=eG l i (by rw[HL.o];exact bH);have hpx:=HP.o i x u hx hu;obtain⟨xk,xn,xs,xl⟩:=x;have Cq:ab M w (xL a l.length cap) l:=by rw[HL.o];exact gO.o
   obtain⟨b,off,xa,xc,rfl,hbl,x0,x1,x2,x3,Zu⟩:=kN Cq hx;have HX:Hd (∀W,aC w W->xC 346 #[.agg #[xk,xn,xs,xL xa xl.length xc], .agg #[c.ai,xL fa c.ah.length fc]] W (cu (partOf u) W)):=λW hb=>hpx M W _ _ (Zu.ae hb) (iD.o.ae hb);have QU:(i:Int)<(n:Int):=by omega
   have hi0:(0:Int)<=(i:Int):=Qba _;have⟨a0,a1,a2,a3⟩:=af HW.o.1;have⟨c0,c1⟩:=ak HW.o.2.1;have y0:bJ wr b (off+i*4) xk:=(HW.o.2.2.2.1.cell (p:=⟨b,off+i*4,none⟩) hbl).trans x0;have y1:bJ wr b (off+i*4+1) xn:=(HW.o.2.2.2.1.cell (p:=⟨b,off+i*4+1,none⟩) hbl).trans x1;have y2:bJ wr b (off+i*4+2) xs:=(HW.o.2.2.2.1.cell (p:=⟨b,off+i*4+2,none⟩) hbl).trans x2;have y3:bJ wr b (off+i*4+3) (xL xa xl.length xc):=(HW.o.2.2.2.1.cell (p:=⟨b,off+i*4+3,none⟩) hbl).trans x3;go_upto_region 14 with fail;go_cut [11](λs11 wx=>s11=xI (partOf u)/\Hd (eR w (xK #[xI 6,xI 0,bL s,xL (b,off) n cap] 319) (xK #[c.ai,xL fa c.ah.length fc] 47) wx));case first=>
    go_region_law(first|(go_simp;go_at_call 346;refine cC (HX.o _ (by exact HW.o.2.2.2.1.drew)) λw1 hb1=> ?_;have oy:=ag (HW.o.drew.ae hb1);clear hb1));all_goals(go_wp2_with fail;go_meet;exact⟨rfl,oy⟩)
   case rest=>
    obtain⟨rfl,fZ⟩:=hcut;rcases hu2 with rfl|rfl
    .rw[show partOf 110=1 from rfl];go_wp2;go_roundg(n-(i+1));case measure=>omega
     case rel=>exact⟨i+1,by omega,rfl,by go_num,rfl,fZ⟩
    .rw[show partOf 116=2 from rfl];go_wp2;go_roundg(n-(i+1));case measure=>omega
     case rel=>exact⟨i+1,by omega,rfl,by go_num,rfl,fZ⟩
  .have⟨a0,a1,a2,a3⟩:=af HW.o.1;have⟨r0,r1⟩:=ak HW.o.2.2.1;have⟨g0,g1⟩:=mu HW.o.2.2.1;have hbf:=HW.o.2.2.2.1;have SC:=ag hbf;rcases IV.o with⟨h1,ht⟩|⟨h1,h2,h3,ht⟩|⟨h1,h2,h3,h4,ht⟩|⟨h1,h2,h3,h4,ht⟩;all_goals
    have HTT:=ag ht;go_wp2_with fail;refine Qae (v:= .tuple #[.agg #[xI (rH s).an,xI (rH s).of],true]) (by simp[results,results347,go_sem,r0,r1,HTT.o]) rfl ⟨rfl,?_⟩;exact(SC.o.setCell (by simp;omega) _).setCell (by simp;omega) _
def Th(c:aI)(x:aG)(t:br):Prop:=∀(M:aV)(w:ax)(v fv:aA),cB M w v x->ab M w fv c.ah->
 xC 347 #[v, .agg #[c.ai,fv]] w (cu (.tuple #[.agg #[t.an,t.of],true]) w)
def tD(c:aI)(s:aY)(l:List aG)(t:br)(H:Th c (.mk 6 0 s l) t):jw c (.mk 6 0 s l) t:=by
 intro M w v fv hag hfs;have tg:=ag hag;have iD:=ag hfs;obtain⟨a,cap,rfl,_⟩:=eH hag;obtain⟨fa,fc,rfl,_⟩:=hfs.aq;have HC:Hd (∀W,aC w W->xC 347 #[.agg #[xI 6,xI 0,s,xL a l.length cap], .agg #[c.ai,xL fa c.ah.length fc]] W (cu (.tuple #[.agg #[t.an,t.of],true]) W)):=λW hb=>H M W _ _ (tg.o.ae hb) (iD.o.ae hb);go_enter func321,ntmps321;go_wp2_with fail;refine cC (HC.o _ (by exact(bU.alloc (by simp) _).alloc (by simp;omega) _)) λw1 hb1=> ?_;have HK:=ag ((eR.new w _ _).ae hb1);have⟨r0,r1⟩:=ak HK.o.2.2.1;have⟨g0,g1⟩:=mu HK.o.2.2.1;go_wp2_with fail;refine Qae (v:= .tuple #[.agg #[t.an,t.of],true]) (by simp[results,results321,go_sem,r0,r1]) rfl ⟨rfl,?_⟩;exact(HK.o.2.2.2.1.setCell (by simp;omega) _).setCell (by simp;omega) _
def call5(c:aI)(s:List UInt8)(hs:s∈nt)(l:List aG)(hl:l.length=(fK s).length)(hp:∀(i:Nat)(e:aG)(u:UInt8),l[i]? =some e->(fK s)[i]? =some u->gq c e (partOf u)):jw c (.mk 6 0 (bL s) l) (rH s):=
 tD c _ l _ (λM w v fv h1 h2=>Rp c s hs l hl hp M w v fv h1 h2)
def Rq(c:aI)(x:aG)(t:br)(H:jw c x t)(hn:iG x=true)(hd:kX x<=8)(hs:eB x<=40)(hc:aX c=true)(hcn:c.ai.size<=maxLen)(M:aV)(w:ax)(v fv:aA)(hag:cB M w v x)(hfs:ab M w fv c.ah):
 xC 279 #[v, .agg #[c.ai,fv]] w (cu (.tuple #[.agg #[t.an,t.of],xI 0]) w):=by
 obtain⟨xk,xn,xs,xl⟩:=x;have tg:=ag hag;have iD:=ag hfs;obtain⟨a,cap,rfl,_⟩:=eH hag;obtain⟨fa,fc,rfl,_⟩:=hfs.aq;have HR:Hd (∀W,aC w W->xC 320 #[.agg #[xk,xn,xs,xL a xl.length cap]] W (cu true W)):=λW hb=>wI M W _ _ (tg.o.ae hb) hn hd hs;have Cr:Hd (∀W,aC w W->xC 241 #[.agg #[c.ai,xL fa c.ah.length fc]] W (cu true W)):=λW hb=>kF M _ W c (iD.o.ae hb) hcn hc;have HC:Hd (∀W,aC w W->xC 321 #[.agg #[xk,xn,xs,xL a xl.length cap], .agg #[c.ai,xL fa c.ah.length fc]] W (cu (.tuple #[.agg #[t.an,t.of],true]) W)):=λW hb=>H M W _ _ (tg.o.ae hb) (iD.o.ae hb);go_enter func279,ntmps279;go_wp2_with fail;refine cC (HR.o _ (by exact(bU.alloc (by simp) _).alloc (by simp;omega) _)) λw1 hb1=> ?_;have HK:=ag ((eR.new w _ _).ae hb1);have⟨c0,c1⟩:=ak HK.o.2.1;have⟨a0,a1,a2,a3⟩:=af HK.o.1;go_wp2_with fail;refine cC (Cr.o _ (by exact HK.o.2.2.2.1)) λw2 bE=> ?_;have qj:=ag (HK.o.ae bE);have⟨c0,c1⟩:=ak qj.o.2.1;have⟨a0,a1,a2,a3⟩:=af qj.o.1;go_wp2_with fail;refine cC (HC.o _ (by exact qj.o.2.2.2.1)) λw3 hb3=> ?_;have um:=ag (qj.o.ae hb3);have⟨r0,r1⟩:=ak um.o.2.2.1;have⟨g0,g1⟩:=mu um.o.2.2.1;have hsz:=um.o.2.2.2.2;have hne:w.heap.size+1+1≠w3:=by omega
 go_wp2_with fail;have⟨z0,z1⟩:=ak (W:=((w3.setCell ([w,w],0) t.an).setCell ([w,w],1) t.of).alloc (xK #[t.an,t.of] 49)) ((Qcb _ _ _ (by simp;omega)).trans (Qca _ _ 1 _ _ _ (Qca _ _ 0 _ _ _ um.o.2.2.1)));refine Qae (v:= .tuple #[.agg #[t.an,t.of],xI 0]) (by simp[results,results279,go_sem];simp[z0,z1]) rfl ⟨rfl,?_⟩;exact((um.o.2.2.2.1.setCell (by simp;omega) _).setCell (by simp;omega) _).alloc (by simp;omega) _
end Go.Proofs.YtepaofffbkfodaaGreatDoor
