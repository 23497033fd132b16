/- A part of the proof; no condition. -/
import Derived.Test.YtpjdjlnknfmfkaaGreatDoorM02
import Derived.Test.YtpjdjlnknfmfkaaGreatDoorM03
set_option linter.all false
set_option maxHeartbeats 8000000
set_option maxRecDepth 100000
namespace Go.Proofs.YtpjdjlnknfmfkaaGreatDoor
open Tryz
open Go.RowKit
variable{v lv c0 c1 c2 c3 cv:bt}{w w' w1 w2 W wr wx w3:bq}{e t:TypeId}{base B k i b m K yc cap g:Nat}{M N:bY}{en:Int}{a ya:fM}{s nm:bS}{o0 o1 o o2:Obj}{f:bJ}{x:bK}{c d:bI}{ls:List bQ}{us:List bE}
def bP.only {α:Type} [bD α]{xs:List α}(h:bP M base e w v xs)(k:bh N w w')(hN:∀i,N i->M i/\i<base):bP M base e w' v xs:=by
 obtain⟨css,h1,h2,h3⟩:=h;have hE:Ev (cz v M) w (cz v M) w':=⟨k.mono λi hi=> .inl (hN i hi).1,λi hi=> .inl hi⟩;refine⟨css,⟨h1.1,?_⟩,h2,λi cs x hc hx=>bD.ev (h3 i cs x hc hx) hE⟩;rcases h1.2 with h0|⟨g,cap,cur,e1,e2,e3,e4⟩
 .exact .inl h0
 exact .inr ⟨g,cap,cur,e1,e2,(k.block g (ab.1 e3).1 (λhg=>by have:=(hN g hg).2;omega)).trans e3,e4⟩
def bh.ej {S:bY}(h:bh S w w1)(k:Below B w1 w2)(hB:w<=B):bh S w w2:=
 ⟨k.os.trans h.os,k.tape.trans h.tape,k.output.trans h.output,aH h.size k.size,λi hi hS=>(k.block i (aN hi hB)).trans (h.block i hi hS)⟩
def Ao:(Tryz.prog.info? 350).map (λi=>(i.zero,i.size,i.bytes))=some (some (.agg jl),4,56):=by kernel_rfl
def uf(b:Nat)(lv:bt)(en:Int)(T:List Tok)(w:bq)(nm:List UInt8)(l:List bG)(q:Nat)(C:List bG->Nat->Prop)(wr:bq):Prop:=
 ∃(a:fM)(c:Nat)(kids rest:List bG)(j:Nat),kids.length=q/\kids++rest=l/\bP (λi=>i<↑w+2) (↑w+2) 350 wr (xL a q c) kids/\eR b lv en T wr j/\bh (cg b) w wr/\w.heap.size+2<=wr/\
  wr.heap[w.heap.size]? =some (xK jl 350)/\wr.heap[w.heap.size+1]? =some (xK #[xI 6,xI 0,bL nm,xL a q c] 350)/\C rest j
def Oc(T:List Tok)(n:Nat)(r:List Tok)(k q:Nat)(rest:List bG)(j:Nat):Prop:=
 (q=0/\∃m,m<=k/\fS m n (T.drop j)=some (rest,r))\/(0<q/\q<n/\eU (T.drop j) [44]=true/\∃m,m<=k/\fS m (n-q) (T.drop (j+1))=some (rest,r))\/(q=n/\rest=[]/\eU (T.drop j) [41]=true/\r=T.drop (j+1))
def Vc(T:List Tok)(n:Nat)(r:List Tok)(k q:Nat)(rest:List bG)(j:Nat):Prop:=∃m,m<=k/\fS m (n-q) (T.drop j)=some (rest,r)
def su {n:Nat}{ts:List Tok}{l:List bG}{r:List Tok}(h:fS k n ts=some (l,r))(hn:0<n):∃m e r1 l',k=m+1/\ke m 1 ts=some (e,r1)/\l=e::l'/\((n=1/\l'=[]/\eU r1 [41]=true/\r=r1.drop 1)\/(1<n/\eU r1 [44]=true/\fS m (n-1) (r1.drop 1)=some (l',r))):=by
 cases k with
 |zero=>simp[fS]at h
 |succ m=>
  unfold fS at h;cases he:ke m 1 ts with
  |none=>rw[he]at h;cases h
  |some p=>
   obtain⟨e,r1⟩:=p;rw[he]at h;dsimp only at h;by_cases h1:n=1
   .rw[if_pos h1]at h;by_cases hs:eU r1 [41]=true
    .rw[if_pos hs]at h;simp only[aG,Prod.mk.injEq]at h;exact⟨m,e,r1,[],rfl,he,h.1.symm, .inl ⟨h1,rfl,hs,h.2.symm⟩⟩
    rw[if_neg hs]at h;cases h
   rw[if_neg h1,if_neg (by omega)]at h;by_cases hs:eU r1 [44]=true
   .rw[if_pos hs]at h;cases ht:fS m (n-1) (r1.drop 1)with
    |none=>rw[ht]at h;cases h
    |some q=>
     obtain⟨l',r'⟩:=q;rw[ht]at h;simp only[aG,Prod.mk.injEq]at h;exact⟨m,e,r1,l',rfl,he,h.1.symm, .inr ⟨by omega,hs,by rw[<-h.2];exact ht⟩⟩
   rw[if_neg hs]at h;cases h
def eR.drew {T:List Tok}(h:eR b lv en T w i):eR b lv en T w.drew i:=⟨h.box,h.toks,h.few,h.le,h.kinds⟩
def Dj(s:List UInt8):eG s<=3:=by unfold eG;split;omega;split;omega;split<;>omega
def Le(b:Nat)(lv:bt)(en:Int)(T:List Tok)(k:Nat)(HE:∀m,m<k->JT b lv en T m):Oa b lv en T k:=by
 intro i nm l r w wK hnm hst RP;have⟨i0,hi0,hz0,hz1,hz2⟩:=info_parts Ao;have hn3:=Dj nm;have hbl:b<w:=(ab.1 hst.box).1;have RN:Hd (∀W,xC 419 #[bL nm] W (j7 (eG nm) W)):=λW=>by have h:=tZ (bL nm) W;rw[mG]at h;exact h
 generalize eG nm=n at*;have iG:=aV hst;have QN:=aV RP;go_enter func420,ntmps420;go_wp2;go_loopg [6]n(λg iv wr=>∃q:Nat,q<=n/\g=n-q/\iv=xI q/\Hd (uf b lv en T w nm l q (Oc T n r k q) wr))
 .refine⟨0,ax _,rfl,rfl,?_⟩;have⟨b0,b1,hz,hb⟩:=kQ (w:=w) (o0:=xK jl 350) (o1:=xK #[xI 6,xI 0,bL nm,()] 350) rfl;exact(show uf _ _ _ _ _ _ _ _ _ _ from⟨none,0,[],l,i,rfl,rfl,bP.nil _ _ _ _,iG.o.aT hb,bh.bA hb,by rw[hz];omega,b0,b1, .inl ⟨rfl,k,cN,QN.o⟩⟩)
 obtain⟨q,hq,rfl,rfl,HL⟩:=hrel;have hqz:(q:Int)<=3:=by omega
 by_cases cE:q<n;rotate_left
 .have Wo:¬(q:Int)<(n:Int):=by omega
  have⟨a,c,kids,rest,j,hkl,hkr,hacc,hps,hon,hsz,hR,hE,hC⟩:=HL.o;have Up:rest=[]/\eU (T.drop j) [41]=true/\r=T.drop (j+1):=by
   rcases hC with⟨h1,_⟩|⟨_,h2,_⟩|⟨_,h1,h2,h3⟩
   .omega
   .omega
   exact⟨h1,h2,h3⟩
  obtain⟨rfl,h41,rfl⟩:=Up;rw[List.append_nil]at hkr;subst hkr;have hcall:=JS b lv en T wr j ⟨#[41]⟩ hps h41;have Bw:=aV hkl;have nT:=aV hacc;have lT:=aV hon;have HR:=aV hR;have Uq:=aV hE;have cI:=aV hcall;go_wp2_with(go_at_call 419;refine ey (RN.o _) ?_);refine(cI.o).mono ?_;rintro e w1⟨v1,rfl,oR,iX⟩;have hs1:=iX.size;have nU:Hd (ed w1 w (xK jl 350)):=(iX.block _ (by omega) (by unfold cg;omega)).trans HR.o;have HE1:Hd (cX w1 [w] (xK #[xI 6,xI 0,bL nm,xL a q c] 350)):=(iX.block _ (by omega) (by unfold cg;omega)).trans Uq.o;have⟨r0,r1,r2,r3⟩:=aU nU.o;have⟨g0,g1,g2,g3⟩:=iS nU.o;have⟨e0,e1,e2,e3⟩:=aU HE1.o;have zX:=aV (nT.o.only iX (λi hi=>by unfold cg at hi;omega));have qV:=aV oR;have Jt:=aV iX;go_wp2_with fail;refine ah (v:= .agg #[xI 6,xI 0,bL nm,xL a q c]) (by simp[results,results420,go_sem,r0,r1,r2,r3]) rfl ?_;have By:bh (cg b) w ((((w1.setCell (w,0) (xI 6)).setCell (w,1) (xI 0)).setCell (w,2) (bL nm)).setCell (w,3) (xL a q c)):=((((lT.o.trans Jt.o).setCell (.inr cN) _).setCell (.inr cN) _).setCell (.inr cN) _).setCell (.inr cN) _;refine⟨_,j+1,rfl,⟨_,rfl,dF.iff.2 ⟨_,rfl,(zX.o.slice (λi hi=>hi)).ev ?_,by rw[kH];unfold maxLen;omega⟩⟩,iG.o.step By ?_ qV.o.le,rfl,By⟩
  .exact((((Ev.eO w1 (λi h=>by unfold gO at h;omega)).setCell (.inl (by simp)) _).setCell (.inl (by simp)) _).setCell (.inl (by simp)) _).setCell (.inl (by simp)) _
  exact(aj _ _ _ _ (by simp;omega)).trans ((aj _ _ _ _ (by simp;omega)).trans ((aj _ _ _ _ (by simp;omega)).trans ((aj _ _ _ _ (by simp;omega)).trans qV.o.box)))
 have Wo:(q:Int)<(n:Int):=by omega
 have⟨a,c,kids,rest,j,hkl,hkr,hacc,hps,hon,hsz,hR,hE,hC⟩:=HL.o;have⟨p0,p1,p2,p3⟩:=aU hps.box;have Bw:=aV hkl;have zh:=aV hkr;have nT:=aV hacc;have tS:=aV hps;have lT:=aV hon;have HR:=aV hR;have Uq:=aV hE;go_upto_if 23 with(go_at_call 419;refine ey (RN.o _) ?_);go_cut [](λwx=>Hd (uf b lv en T w nm l q (Vc T n r k q) wx))
 .rcases hC with⟨rfl,hC⟩|⟨h1,h2,h3,hC⟩|⟨h1,_⟩
  .have nV:=aV hC;go_wp2;go_meet;exact(show uf _ _ _ _ _ _ _ _ _ _ from⟨a,c,kids,rest,j,Bw.o,zh.o,nT.o,tS.o,lT.o,hsz,HR.o,Uq.o,nV.o⟩)
  .have h1z:(0:Int)<(q:Int):=by omega
   have hcall:=JS b lv en T wr j ⟨#[44]⟩ tS.o h3;have cI:=aV hcall;have nV:=aV hC;go_wp2_with fail;refine(cI.o).mono ?_;rintro e w1⟨v1,rfl,oR,iX⟩;have qV:=aV oR;have Jt:=aV iX;go_wp2;go_meet;have hz1:=Jt.o.size;exact(show uf _ _ _ _ _ _ _ _ _ _ from⟨a,c,kids,rest,j+1,Bw.o,zh.o,nT.o.only Jt.o (λi hi=>by unfold cg at hi;omega),qV.o,lT.o.trans Jt.o,by omega,(Jt.o.block _ (by omega) (by unfold cg;omega)).trans HR.o,(Jt.o.block _ (by omega) (by unfold cg;omega)).trans Uq.o,nV.o⟩)
  omega
 have⟨a,c,kids,rest,j,hkl,hkr,hacc,hps,hon,hsz,hR,hE,m,hmk,RP⟩:=Hd.o hcut;obtain⟨m',e,r1,l',rfl,hex,rfl,hC⟩:=su RP (by omega);obtain⟨yk,yn,ys,yl⟩:=e;have hcall:=HE m' (by omega) 1 j (.mk yk yn ys yl) r1 wc.drew (by omega) (by omega) hps.drew hex;have⟨p0,p1,p2,p3⟩:=aU hps.box;have⟨e0,e1,e2,e3⟩:=aU hE;have fE:=aY hE 3;have hown:=hacc.dC;have Bw:=aV hkl;have zh:=aV hkr;have nT:=aV hacc;have tS:=aV hps;have lT:=aV hon;have HR:=aV hR;have Uq:=aV hE;have nV:=aV hC;have cI:=aV hcall;have Wp:=aV hown;go_wp2_with fail;go_region_law(first
  |(go_simp;go_at_call 353;refine cI.o.mono ?_;rintro e w1⟨_,jj,rfl,⟨cs,rfl,hrep⟩,oR,hr1,iX⟩;obtain⟨av,rfl,hsl,hss⟩:=dF.iff.1 hrep;obtain⟨ya,yc,rfl,_⟩:=hsl.bj;have s1:=iX.size;simp at s1;have oS:Hd (bh (cg b) wc w1):=((bh.refl _ wc).drew.trans iX);have fR:Hd (bD.rep (cz (xL a q c) (λi=>i<↑w+2)) w1 [xI yk,xI yn,xS ys,xL ya yl.length yc] (bG.mk yk yn ys yl)):=bD.ev (α:=bG) hrep (Ev.eO w1 (λi hi=>by unfold gO;rcases hi with h|h;show i<wc;omega;exact(Wp.o i h).2));have qV:=aV oR;have nU:=aV hr1;have k3:zB w1 w 3 (xL a q c):=(oS.o.cell (p:=⟨[w],3,none⟩) (by simp;omega) (by unfold cg;simp;omega)).trans e3;have n3:∀o,(w1.alloc o).cell? ([w],3)=some (xL a q c):=λo=>(World.cell?_of_block (w:=w1) (aB w1 o [w] (by omega))).trans k3;have iY:Hd (w1.frozen? ([w],3)=false):=(oS.o.frozen (p:=⟨[w],3,none⟩) (by simp;omega) (by unfold cg;simp;omega)).trans fE;have zX:=aV (nT.o.only oS.o (λi hi=>by unfold cg at hi;omega));clear iX hrep hsl hss oR hr1)
  |(refine eA (α:=bG) rfl _ _ _ rfl (λi=>i<↑w+2) (↑w+2) 350 i0 _ 56 underlying348 hi0 hz0 hz1 hz2 rfl (by decide) (.slice a q c) kids rfl (zX.o.alloc _) (λ_=>True) _ _ (.mk yk yn ys yl) rfl (dj _ _ _ _ rfl trivial) (bD.ev fR.o (Ev.bA cU)) (by rw[Bw.o];unfold maxLen;omega) (by rw[Bw.o];omega) (by simp;omega) ?_;rw[Bw.o];intro a2 c2 w2 cF eD cJ;have dR:=aV cF;have l3:zB w2 w 3 (xL a q c):=(cJ.cell (p:=⟨[w],3,none⟩) (by simp)).trans (n3 _);have l4:w2.frozen? ([w],3)=false:=(cJ.frozen (p:=⟨[w],3,none⟩) (by simp)).trans ((cU.frozen (p:=⟨[w],3,none⟩) (by simp;omega)).trans iY.o);have bZ:=aV cJ;clear cF eD cJ));all_goals
  go_wp2;go_roundg(n-(q+1));case measure=>omega
  case rel=>
   refine⟨q+1,by omega,rfl,by go_num,?_⟩;have hs2:=bZ.o.size;simp at hs2;have hO2:bh (cg b) w w2:=((lT.o.trans oS.o).alloc _).ej bZ.o (by omega);have hblk:∀x,x<w.heap.size+2->w2.heap[x]? =w1.heap[x]? :=λx hx=>(bZ.o.block x hx).trans (aB w1 _ x (by omega));have By:bh (cg b) w (w2.setCell ([w],3) (xL a2 (q+1) c2)):=hO2.setCell (.inr (by simp)) _;refine(show uf _ _ _ _ _ _ _ _ _ _ from⟨a2,c2,kids++[.mk yk yn ys yl],l',jj,by simp[Bw.o],by rw[<-zh.o];simp,dR.o.ue (by simp) (by simp) _,?_,By,by simp;omega,?_,?_,?_⟩)
   .exact iG.o.step By ((aj _ _ _ _ (by simp;omega)).trans ((hblk b (by omega)).trans qV.o.box)) qV.o.le
   .exact(aj _ _ _ _ (by simp)).trans ((hblk _ (by omega)).trans ((oS.o.block _ (by omega) (by unfold cg;omega)).trans HR.o))
   .exact aA w2 _ 3 _ _ _ ((hblk _ (by omega)).trans ((oS.o.block _ (by omega) (by unfold cg;omega)).trans Uq.o))
   have hr1:=nU.o;rcases nV.o with⟨h1,h2,h3,h4⟩|⟨h1,h2,h3⟩
   .subst hr1;exact .inr (.inr ⟨by omega,h2,h3,by rw[h4,List.drop_drop]⟩)
   subst hr1;rw[List.drop_drop]at h3;exact .inr (.inl ⟨by omega,by omega,h2,m',by omega,by rw[show n-(q+1)=n-q-1 from by omega];exact h3⟩)
def Dk(w:bq)(E:Nat):Nat->Prop:=λi=>i<=w\/i=E
def GC(b:Nat)(lv:bt)(en:Int)(T:List Tok)(w:bq)(E:Nat)(C:bG->Nat->Prop)(wr:bq):Prop:=
 ∃(ck cn:Int)(cs:bS)(cl:List bG)(a:fM)(c j:Nat),wr.heap[E]? =some (xK #[ck,cn,cs,xL a cl.length c] 350)/\dF (Dk w E) wr [xI ck,xI cn,xS cs,xL a cl.length c] (.mk ck cn cs cl)/\eR b lv en T wr j/\bh (cg b) w wr/\
  wr.heap[w.heap.size]? =some (xK jl 350)/\C (.mk ck cn cs cl) j
def xg {least:Nat}{cur x:bG}{ts r:List Tok}(h:oW m least cur ts=some (x,r)):
 (x=cur/\r=ts/\∀t r',ts=t::r'->¬(t.bg=4/\least<=dy t.s))\/
 ∃m' t r' f r2,m=m'+1/\ts=t::r'/\t.bg=4/\least<=dy t.s/\ke m' (dy t.s+1) r'=some (f,r2)/\oW m' least (.mk 4 0 (bL t.s) [cur,f]) r2=some (x,r):=by
 cases m with
 |zero=>simp[oW]at h
 |succ m'=>
  unfold oW at h;cases ts with
  |nil=>simp at h;exact .inl ⟨h.1.symm,h.2,λt r' he=>by cases he⟩
  |cons t r'=>
   dsimp only at h;by_cases hc:t.bg=4/\least<=dy t.s
   .rw[if_pos hc]at h;cases he:ke m' (dy t.s+1) r' with
    |none=>rw[he]at h;cases h
    |some q=>obtain⟨f,r2⟩:=q;rw[he]at h;exact .inr ⟨m',t,r',f,r2,rfl,rfl,hc.1,hc.2,he,h⟩
   rw[if_neg hc]at h;simp only[aG,Prod.mk.injEq]at h;exact .inl ⟨h.1.symm,h.2.symm,λt2 r2 he=>by cases he;exact hc⟩
def Dl(s:List UInt8):dy s<=4:=by unfold dy;split;omega;split;omega;split;omega;split<;>omega
def xh {x y:bG}{cx cy:List bt}(hM:¬M K)(hK:cX W K (.cells (cx++cy).toArray 350 (0,0)))(hx:dF M W cx x)(hy:dF M W cy y):aS M W (xL (K,0) 2 2) [x,y]:=by
 have lx:cx.length=4:=bD.len (α:=bG) hx;have ly:cy.length=4:=bD.len (α:=bG) hy;refine⟨[cx,cy],⟨by simp[lx,ly];rfl,some ⟨K,0,none⟩,2,rfl,cN,by unfold maxLen;omega,λ_=>⟨K,0,rfl,hM,(ab.1 hK).1,λj u hu=> ?_⟩⟩,rfl,λi cs z hc hz=> ?_⟩
 .rw[Nat.zero_add];exact cell_of_heap hK (by simpa using hu)
 match i with
 |0=>simp at hc hz;subst hc hz;exact hx
 |1=>simp at hc hz;subst hc hz;exact hy
 |n+2=>simp at hc
def Lf {T:List Tok}{WD:World}{jj:Nat}{ck cn fk fn:Int}{cs fs:ByteArray}{cl fl:List bG}{c:Nat}{ts:List UInt8}
 (hbl:b<w.heap.size)(iG:eR b lv en T w i)(lT:bh (cg b) w wr)(C2:bh (cg b) wr WD)(ij:bh (cg b) WD w2)
 (Tn:w2.heap[w1.heap.size]? =some (.cells #[.int .i64 ck, .int .i64 cn, .string cs, .slice a cl.length c] 350 (0,0)))
 (QO:WD.heap[w.heap.size]? =some (.cells #[.int .i64 0, .int .i64 0, .string (), .slice none 0 0] 350 (0,0)))
 (Wq:dF (Dk w w1.heap.size) WD [.int .i64 ck, .int .i64 cn, .string cs, .slice a cl.length c] (.mk ck cn cs cl))
 (fR:dF (gO WD.drew) w2 [.int .i64 fk, .int .i64 fn, .string fs, .slice ya fl.length yc] (.mk fk fn fs fl))(Ju:eR b lv en T w2 jj)
 (hs1:w.heap.size+1<=w1.heap.size)(hE:w1.heap.size<wr.heap.size)(ZS:wr.heap.size<=WD.heap.size)(s2:WD.heap.size<=w2.heap.size)(tT:ts.length<=200)(C:bG->Nat->Prop)(hC:C (.mk 4 0 (bL ts) [.mk ck cn cs cl, .mk fk fn fs fl]) jj):
 GC b lv en T w w1.heap.size C (((((w2.setCell ⟨w1.heap.size,0,none⟩ (.int .i64 4)).setCell ⟨w1.heap.size,1,none⟩ (.int .i64 0)).setCell ⟨w1.heap.size,2,none⟩ (.string (bL ts))).setCell ⟨w1.heap.size,3,none⟩ (.slice (some ⟨w2.heap.size,0,none⟩) 2 2)).alloc (.cells #[.int .i64 ck, .int .i64 cn, .string cs, .slice a cl.length c, .int .i64 fk, .int .i64 fn, .string fs, .slice ya fl.length yc] 350)):=by
 obtain⟨W3,hW3⟩:∃W3:World,W3=(((w2.setCell ⟨w1.heap.size,0,none⟩ (.int .i64 4)).setCell ⟨w1.heap.size,1,none⟩ (.int .i64 0)).setCell ⟨w1.heap.size,2,none⟩ (.string (bL ts))).setCell ⟨w1.heap.size,3,none⟩ (.slice (some ⟨w2.heap.size,0,none⟩) 2 2):=⟨_,rfl⟩;have wL:W3.heap.size=w2.heap.size:=by rw[hW3];simp
 have hE3:W3.heap[w1.heap.size]? =some (.cells #[.int .i64 4, .int .i64 0, .string (bL ts), .slice (some ⟨w2.heap.size,0,none⟩) 2 2] 350 (0,0)):=by
  rw[hW3];have h0:=aA w2 w1.heap.size 0 _ _ (.int .i64 4) Tn;have h1:=aA _ w1.heap.size 1 _ _ (.int .i64 0) h0;have h2:=aA _ w1.heap.size 2 _ _ (.string (bL ts)) h1;exact aA _ w1.heap.size 3 _ _ (.slice (some ⟨w2.heap.size,0,none⟩) 2 2) h2
 have By:bh (λi=>i=w1.heap.size) w2 W3:=by
  rw[hW3];exact((((bh.refl (λi=>i=w1.heap.size) w2).setCell (p:=⟨w1.heap.size,0,none⟩) (.inl rfl) _).setCell (p:=⟨w1.heap.size,1,none⟩) (.inl rfl) _).setCell (p:=⟨w1.heap.size,2,none⟩) (.inl rfl) _).setCell (p:=⟨w1.heap.size,3,none⟩) (.inl rfl) _
 rw[<-hW3];clear hW3;generalize hK:(Obj.cells #[.int .i64 ck, .int .i64 cn, .string cs, .slice a cl.length c, .int .i64 fk, .int .i64 fn, .string fs, .slice ya fl.length yc] 350 (0,0))=K;have ZT:bh (cg b) w (W3.alloc K):=by
  have h1:=(lT.trans C2).trans ij;have h2:bh (cg b) w W3:=h1.dL By (λi hi cE=>by omega);exact h2.alloc _
 have hKb:(W3.alloc K).heap[w2.heap.size]? =some (.cells (([.int .i64 ck, .int .i64 cn, .string cs, .slice a cl.length c]:List Value)++([.int .i64 fk, .int .i64 fn, .string fs, .slice ya fl.length yc]:List Value)).toArray 350 (0,0)):=by
  have h:=az W3 K;rw[wL]at h;rw[h,<-hK];rfl
 have Wr:Ev (Dk w w1.heap.size) WD (Dk w w1.heap.size) (W3.alloc K):=
  ⟨((ij.mono (λi hi=> .inl (by unfold cg at hi;omega))).trans (By.mono (λi hi=> .inr hi))).alloc _,λi hi=> .inl hi⟩;have Ws:Ev (gO WD.drew) w2 (Dk w w1.heap.size) (W3.alloc K):=
  ⟨(By.mono (λi hi=>by show i<WD.heap.size;omega)).alloc _,λi hi=> .inl (by show i<WD.heap.size;rcases hi with h|h<;>omega)⟩;refine⟨4,0,bL ts,[.mk ck cn cs cl, .mk fk fn fs fl],some ⟨w2.heap.size,0,none⟩,2,jj,(aB W3 _ _ (by omega)).trans hE3,dF.iff.2 ⟨_,rfl,?_,by rw[kH];unfold maxLen;omega⟩,iG.step ZT ?_ Ju.le,ZT,?_,hC⟩
 .exact xh (by unfold Dk;omega) hKb (Wq.zC Wr) (fR.zC Ws)
 .exact(aB W3 _ b (by omega)).trans ((By.block b (by omega) (by omega)).trans Ju.box)
 exact(aB W3 _ _ (by omega)).trans ((By.block _ (by omega) (by omega)).trans ((ij.block _ (by omega) (by unfold cg;omega)).trans QO))
def Lg(b:Nat)(lv:bt)(en:Int)(T:List Tok)(hsh:rr T)(k:Nat)(HT:GA b lv en T k)(HE:∀m,m<k->JT b lv en T m):JT b lv en T (k+1):=by
 intro least i x r w hl1 Wt hst hp;have hbl:b<w:=(ab.1 hst.box).1;obtain⟨e0,r0,ZU,Jv⟩:∃e0 r0,kx k (T.drop i)=some (e0,r0)/\oW k least e0 r0=some (x,r):=by
  unfold ke at hp;cases hq:kx k (T.drop i)with
  |none=>rw[hq]at hp;cases hp
  |some q=>obtain⟨e0,r0⟩:=q;rw[hq]at hp;exact⟨e0,r0,rfl,hp⟩
 clear hp;have hb0:bC w (w.alloc (xK #[xI 0,xI 0,"",()] 350)):=cU;have hcall:=HT i e0 r0 _ (hst.aT hb0) ZU;obtain⟨zk,zn,zs,zl⟩:=e0;have iG:=aV hst;clear hst;have Bz:=aV Jv;clear Jv;have cI:=aV hcall;clear hcall;have ik:=aV hb0;clear hb0;clear ZU;go_enter func353,ntmps353;go_wp2_with fail;refine(cI.o).mono ?_;rintro e w1⟨_,j0,rfl,⟨cs,rfl,hrep⟩,oR,hr1,iX⟩;obtain⟨av,rfl,hsl,hss⟩:=dF.iff.1 hrep;obtain⟨za,zc,rfl,_⟩:=hsl.bj;have hs1:=iX.size;simp at hs1;have Jw:Hd (ed w1 w (xK #[xI 0,xI 0,"",()] 350)):=(iX.block _ (by simp) (by unfold cg;omega)).trans (az w _);have rU:Hd (bh (cg b) w w1):=((bh.refl _ w).alloc _).dL iX (λi hi _=>hi);have fR:=aV hrep;clear hrep;have qV:=aV oR;clear oR;have nU:=aV hr1;clear hr1;clear hsl hss iX;go_wp2;go_loopg [6]k(λg _ wr=>∃m:Nat,m<=k/\g=m/\Hd (GC b lv en T w w1 (λcur j=>oW m least cur (T.drop j)=some (x,r)) wr)/\w1.heap.size<wr)
 .refine⟨k,cN,rfl,?_,by simp⟩;have hbb:bC w1 (w1.alloc (xK #[zk,zn,zs,xL za zl.length zc] 350)):=cU;refine(show GC _ _ _ _ _ _ _ _ from⟨zk,zn,zs,zl,za,zc,j0,az _ _,?_,qV.o.aT hbb,rU.o.alloc _,(hbb.block _ (by omega)).trans Jw.o,by {show oW k least _ (T.drop j0)=_;rw[<-nU.o];exact Bz.o}⟩);exact fR.o.zC ⟨(bh.refl _ w1).alloc _,λi hi=>by
   rcases hi with h|h
   .exact .inl (by unfold gO;simp;omega)
   exact .inr (by omega)⟩
 obtain⟨m,hm,rfl,HM,hE⟩:=hrel;have⟨ck,cn,cs,cl,a,c,j,hEb,hcr,hps,hon,hR,hC⟩:=HM.o;have⟨p0,p1,p2,p3⟩:=aU hps.box;obtain⟨la,lcap,rfl,hcells⟩:=hps.cells;have FN:=hps.few;have qf8:=hps.le;have hj0:(0:Int)<=(j:Int):=an _;rcases xg hC with⟨rfl,rfl,hno⟩|⟨m',t,r',f,r2,rfl,hts,hk4,hlb,hex,QP⟩
 .
  go_upto_region 2 with fail;go_cut [55](λs55 wx=>s55=xB false/\∃n,wx=wr.drewN n)
  .by_cases zx:j<T.length
   .have⟨t,ht⟩:=fg T j zx;obtain⟨bl,off,rfl,wI,FO,q0,q1,q2,q3⟩:=hcells t ht;have Wu:=hno t _ (drop_cons ht);have hmem:=ai ht;have hjz:(j:Int)<(T.length:Int):=by omega
    by_cases hk4:t.bg=4
    .have⟨c0,hc0,hs0⟩:=(hsh t hmem).2.2.2 hk4;have cE:dy t.s<least:=by
      rcases Nat.lt_or_ge (dy t.s) least with h|h
      .exact h
      exact absurd ⟨hk4,h⟩ Wu
     have hz1:¬(least:Int)<=(dy t.s:Int):=by omega
     have hz2:decide ((least:Int)<=(dy t.s:Int))=false:=by simpa using hz1
     have wL:decide (least<=dy t.s)=false:=by simpa using cE
     have e0:(dt t.bg==0)=true:=by simp[dt,hk4]
     have Wv:Hd (∀W,xC 378 #[bL t.s] W λe w'=>e=xR (dy t.s)/\w'=W):=λW=>by rw[hs0];exact(oq c0 hc0 W).mono λ_ _ h=>⟨h.1,h.2.symm⟩
     clear hcells hno Wu hmem ht hk4 hs0 hc0 hcr hEb hR hC;go_quiet((go_at_call 378;exact Calls.quiet_of_same (Wv.o _)));go_wp2;go_meet;exact⟨rfl,_,rfl⟩
    have e0:(dt t.bg==0)=false:=by have:=hps.kinds t hmem;simp[dt,hk4];omega
    clear hcells hno Wu hmem ht hk4 hcr hEb hR hC;go_quiet(fail);go_wp2;go_meet;exact⟨rfl,_,rfl⟩
   have hd1:decide ((j:Int)<(T.length:Int))=false:=by simp;omega
   have hd2:decide (j<T.length)=false:=by simp;omega
   have hd3:¬(j:Int)<(T.length:Int):=by omega
   clear hcells hno hcr hEb hR hC;go_quiet(fail);go_wp2;go_meet;exact⟨rfl,_,rfl⟩
  obtain⟨rfl,nn,rfl⟩:=hcut;have⟨e0,e1,e2,e3⟩:=aU hEb;have⟨r0,r1,r2,r3⟩:=aU hR;have⟨g0,g1,g2,g3⟩:=iS hR;have hRE:w.heap.size≠w1:=by omega
  have⟨av,hav,hsl,hss⟩:=dF.iff.1 hcr;simp only[List.cons.injEq,true_and,and_true]at hav;subst hav;have gS:=aV hsl;clear hsl;have nS:=aV hss;clear hss;have tS:=aV hps;clear hps;have lT:=aV hon;clear hon;have HEB:=aV hEb;clear hEb;have zY:=aV hR;clear hR;clear hcells hno hcr hC;go_wp2_with fail;refine ah (v:= .agg #[ck,cn,cs,xL a cl.length c]) (by simp[results,results353,go_sem,r0,r1,r2,r3]) rfl ?_;have By:bh (cg b) w ((((wr.setCell (w,0) ck).setCell (w,1) cn).setCell (w,2) cs).setCell (w,3) (xL a cl.length c)):=(((lT.o.setCell (.inr cN) _).setCell (.inr cN) _).setCell (.inr cN) _).setCell (.inr cN) _;refine⟨_,j,rfl,⟨_,rfl,dF.iff.2 ⟨_,rfl,gS.o.ev ?_,nS.o⟩⟩,(iG.o.step By ?_ tS.o.le).drewN nn,rfl,By.drewN nn⟩
  .have h:=((((Ev.eO (M:=Dk w w1) (N:=gO w) wr (λi h=>by unfold gO at h;exact .inl (by omega))).setCell (p:=⟨w,0,none⟩) (.inl (.inl cN)) ck).setCell (p:=⟨w,1,none⟩) (.inl (.inl cN)) cn).setCell (p:=⟨w,2,none⟩) (.inl (.inl cN)) cs).setCell (p:=⟨w,3,none⟩) (.inl (.inl cN)) (xL a cl.length c);exact⟨h.only.drewN nn,h.sub⟩
  exact(aj _ _ _ _ (by simp;omega)).trans ((aj _ _ _ _ (by simp;omega)).trans ((aj _ _ _ _ (by simp;omega)).trans ((aj _ _ _ _ (by simp;omega)).trans tS.o.box)))
 .
  obtain⟨t',BA⟩:∃t',T[j]? =some t':=by
   rcases Nat.lt_or_ge j T.length with h|h
   .exact⟨_,af h⟩
   rw[List.drop_eq_nil_of_le h]at hts;cases hts
  rw[drop_cons BA]at hts;simp only[List.cons.injEq]at hts;obtain⟨rfl,rfl⟩:=hts;have zx:j<T.length:=(ag.1 BA).1;obtain⟨bl,off,rfl,wI,FO,q0,q1,q2,q3⟩:=hcells t' BA;have hmem:=ai BA;have hjz:(j:Int)<(T.length:Int):=by omega
  have⟨c0,hc0,hs0⟩:=(hsh t' hmem).2.2.2 hk4;have eZ:=Dl t'.s;have hz1:(least:Int)<=(dy t'.s:Int):=by omega
  have hz2:decide ((least:Int)<=(dy t'.s:Int))=true:=by simpa using hz1
  have wL:decide (least<=dy t'.s)=true:=by simpa using hlb
  have e0:(dt t'.bg==0)=true:=by simp[dt,hk4]
  have Wv:Hd (∀W,xC 378 #[bL t'.s] W λe w'=>e=xR (dy t'.s)/\w'=W):=λW=>by rw[hs0];exact(oq c0 hc0 W).mono λ_ _ h=>⟨h.1,h.2.symm⟩
  have tT:Hd (t'.s.length<=200):=(hsh t' hmem).1;have tS:=aV hps;clear hps;have lT:=aV hon;clear hon;have HEB:=aV hEb;clear hEb;have zY:=aV hR;clear hR;have Jy:=aV hcr;clear hcr;have Ur:=aV hex;clear hex;have Ww:=aV QP;clear QP;clear hcells hmem BA hk4 hs0 hc0 hC;go_upto_region 2 with fail;go_cut [55](λs55 wx=>s55=xB true/\∃n,wx=wr.drewN n)
  .go_quiet((go_at_call 378;exact Calls.quiet_of_same (Wv.o _)));go_wp2;go_meet;exact⟨rfl,_,rfl⟩
  obtain⟨rfl,nn,rfl⟩:=hcut;go_upto_region 3 with fail;go_cut [6](λs6 wx=>s6=xS (bL t'.s)/\∃n,wx=(wr.drewN nn).drewN n)
  .go_quiet(fail);go_wp2;go_meet;exact⟨rfl,_,rfl⟩
  obtain⟨rfl,n2,rfl⟩:=hcut;have f1:=aY tS.o.box 1;go_upto_region 5 with fail;have⟨WD,hWD⟩:=dd ((wr.drewN (nn+n2)).setCell (b,1) (xI ((j:Int)+1)));rw[<-hWD];have HPD:=aV (show eR b (xL (bl,off) T.length lcap) en T WD (j+1)by rw[hWD];exact((tS.o.drewN (nn+n2)).next zx (bh.refl _ _)).1);have C2:=aV (show bh (cg b) wr WD by rw[hWD];exact((bh.refl _ wr).drewN (nn+n2)).Lc 1 _);have ZV:Hd (ed WD w1 (xK #[ck,cn,cs,xL a cl.length c] 350)):=(C2.o.block _ hE (by unfold cg;omega)).trans HEB.o;have QO:Hd (ed WD w (xK #[xI 0,xI 0,"",()] 350)):=(C2.o.block _ (by omega) (by unfold cg;omega)).trans zY.o;have Wq:Hd (dF (Dk w w1) WD [xI ck,xI cn,xS cs,xL a cl.length c] (.mk ck cn cs cl)):=Jy.o.zC ⟨C2.o.mono (λi hi=> .inl (by unfold cg at hi;omega)),λi hi=> .inl hi⟩;have ZS:=C2.o.size;clear hWD p0 p1 p2 p3 f1 q0 q1 q2 q3;have⟨d0,d1,d2,d3⟩:=aU ZV.o;obtain⟨fk,fn,fs,fl⟩:=f;have hcall:=HE m' (by omega) (dy t'.s+1) (j+1) (.mk fk fn fs fl) r2 WD.drew (by omega) (by omega) HPD.o.drew Ur.o;rw[show((dy t'.s+1:Nat):Int)=(dy t'.s:Int)+1 from by omega]at hcall;have zg:=aV hcall;clear hcall;have z1:IntKind.i64.wrap ((dy t'.s:Int)+1)=(dy t'.s:Int)+1:=aw _ (by omega);go_region_law(first
   |(go_simp;go_at_call 378;refine(Wv.o _).mono ?_;rintro e w'⟨rfl,rfl⟩)
   |(go_simp;go_at_call 353;refine zg.o.mono ?_;rintro e w2⟨_,jj,rfl,⟨cs2,rfl,hrep⟩,hps2,hr2,CN⟩;obtain⟨av,rfl,hsl,hss⟩:=dF.iff.1 hrep;obtain⟨ya,yc,rfl,_⟩:=hsl.bj;have s2:=CN.size;simp at s2;have ij:Hd (bh (cg b) WD w2):=((bh.refl _ WD).drew.trans CN);have Tn:Hd (ed w2 w1 (xK #[ck,cn,cs,xL a cl.length c] 350)):=(ij.o.block _ (by omega) (by unfold cg;omega)).trans ZV.o;have ZW:w1.heap.size<w2:=by omega
     have HEA:Hd (∀o,(w2.alloc o).heap[w1.heap.size]? =some (xK #[ck,cn,cs,xL a cl.length c] 350)):=λo=>(aB w2 o _ ZW).trans Tn.o;have⟨k0,k1,k2,k3⟩:=aU Tn.o;have n0:∀o,(w2.alloc o).cell? (w1,0)=some (xI ck):=λo=>(aU (HEA.o o)).1;have n1:∀o,(w2.alloc o).cell? (w1,1)=some (xI cn):=λo=>(aU (HEA.o o)).2.1;have n2':∀o,(w2.alloc o).cell? (w1,2)=some (xS cs):=λo=>(aU (HEA.o o)).2.2.1;have n3:∀o,(w2.alloc o).cell? (w1,3)=some (xL a cl.length c):=λo=>(aU (HEA.o o)).2.2.2;have⟨fz0,fz1,fz2,fz3⟩:=iS Tn.o;have fR:=aV hrep;have Ju:=aV hps2;have vZ:=aV hr2;clear CN hrep hsl hss hps2 hr2));all_goals
   clear z1;go_wp2;go_roundg m';case measure=>omega
   case rel=>
    refine⟨m',by omega,rfl,?_,by simp;omega⟩;have FP:=Lf hbl iG.o lT.o C2.o ij.o Tn.o QO.o Wq.o fR.o Ju.o (by omega) hE ZS s2 tT.o;exact(FP _ (by rw[<-vZ.o];exact Ww.o))
def Sd(b:Nat)(lv:bt)(en:Int)(T:List Tok)(hsh:rr T)(k:Nat):JT b lv en T k/\GA b lv en T k/\Oa b lv en T k:=by
 induction k using Nat.strongRecOn with
 |ind k ih=>
  refine⟨?_,?_,Le b lv en T k λm hm=>(ih m hm).1⟩
  .cases k with
   |zero=>intro least i x r w _ _ _ h;simp[ke]at h
   |succ k=>exact Lg b lv en T hsh k (ih k (by omega)).2.1 λm hm=>(ih m (by omega)).1
  cases k with
  |zero=>intro i x r w _ h;simp[kx]at h
  |succ k=>exact GB b lv en T hsh k (ih k (by omega)).2.2
def ug {s:List UInt8}(h:0<dy s):∃c,c∈eQ/\s=[c]:=by
 unfold dy at h;split at h
 .rename_i h1;rcases h1 with h1|h1|h1<;>exact⟨_,by decide,h1⟩
 split at h
 .rename_i h1;rcases h1 with h1|h1<;>exact⟨_,by decide,h1⟩
 split at h
 .rename_i h1;exact⟨_,by decide,h1⟩
 split at h
 .rename_i h1;rcases h1 with h1|h1<;>exact⟨_,by decide,h1⟩
 omega
def Se(M:bY)(w:bq)(k n:Int)(s:bS)(l:List bG)(lv:bt)(hl:aS M w lv l)(hs:s.size<=200)(h:wX k n s.data.toList l.length=true):
 xC 422 #[.agg #[k,n,s,lv]] w (di true w):=by
 obtain⟨a,cap,rfl,dN,hm,_⟩:=hl.bj;unfold wX at h;by_cases h1:k=1
 .subst h1;simp only[if_true,aF,decide_eq_true_eq,List.isEmpty_iff,beq_iff_eq]at h;obtain⟨⟨⟨hn1,hn2⟩,hs0⟩,uP⟩:=h;obtain rfl:=gD hs0;rw[uP];go_enter func422,ntmps422;go_wp2;go_ret;exact⟨rfl,cU⟩
 rw[if_neg h1]at h;simp only[aF,decide_eq_true_eq]at h;obtain⟨rfl,h⟩:=h;by_cases h2:k=2
 .subst h2;simp only[if_true,aF,beq_iff_eq]at h;obtain⟨ht,uP⟩:=h;rw[uP];have HT:=aV ht;go_enter func422,ntmps422;go_wp2_with fail;refine dx (si _ _ HT.o) λw1 hb1=> ?_;have⟨q0,q1,q2,q3⟩:=aU (boxed hb1);have cu:=aV hb1;go_wp2;go_ret;exact⟨rfl,ct cu.o⟩
 rw[if_neg h2]at h;by_cases h3:k=3
 .subst h3;simp only[if_true,aF,beq_iff_eq]at h;obtain⟨ht,uP⟩:=h;rw[uP];rw[qs]at ht;have HT:=aV ht;go_enter func422,ntmps422;go_wp2_with fail;refine ey (iB true _ _ HT.o (by unfold maxLen;omega)) ?_;go_wp2;go_ret;exact⟨rfl,cU⟩
 rw[if_neg h3]at h;by_cases h4:k=4
 .subst h4;simp only[if_true,aF,beq_iff_eq,decide_eq_true_eq]at h;obtain⟨ht,uP⟩:=h;have⟨c,hc,hsc⟩:=ug ht;obtain rfl:=gD hsc;rw[uP];have hz:(0:Int)<(dy [c]:Int):=by simp at ht;omega
  have HB:=aV (λw=>oq c hc w);generalize dy [c]=bb at*;go_enter func422,ntmps422;go_wp2_with fail;refine ey (HB.o _) ?_;go_wp2;go_ret;exact⟨rfl,cU⟩
 rw[if_neg h4]at h;by_cases h6:k=6
 .subst h6;simp only[if_true,aF,beq_iff_eq,decide_eq_true_eq]at h;obtain⟨ht,uP⟩:=h;have hz:(0:Int)<(eG s.data.toList:Int):=by omega
  have HA:=aV (λw=>tZ s w);have hz2:decide ((0:Int)<(eG s.data.toList:Int))=true:=by simpa using ht
  have wL:decide (0<eG s.data.toList)=true:=by simpa using ht
  rw[uP];generalize eG s.data.toList=bb at*;go_enter func422,ntmps422;go_wp2_with fail;go_quiet((go_at_call 419;exact Calls.quiet_of_same ((HA.o _).mono λ_ _ h=>⟨h.1,h.2.symm⟩)));go_wp2;go_ret;exact⟨rfl,cU.trans ⟨rfl,rfl,rfl,cN,λ_ _=>rfl⟩⟩
 rw[if_neg h6]at h;cases h
def xj {k n:Int}{s:List UInt8}{c:Nat}(h:wX k n s c=true):s.length<=200:=by
 unfold wX at h;by_cases h1:k=1
 .rw[if_pos h1]at h;simp only[aF,List.isEmpty_iff]at h;rw[h.1.2];simp
 rw[if_neg h1]at h;simp only[aF]at h;replace h:=h.2;by_cases h2:k=2
 .rw[if_pos h2]at h;simp only[aF,kO,decide_eq_true_eq]at h;omega
 rw[if_neg h2]at h;by_cases h3:k=3
 .rw[if_pos h3]at h;simp only[aF,rq,decide_eq_true_eq]at h;omega
 rw[if_neg h3]at h;by_cases h4:k=4
 .rw[if_pos h4]at h;simp only[aF,decide_eq_true_eq]at h;obtain⟨c,_,rfl⟩:=ug h.1;simp
 rw[if_neg h4]at h;by_cases h6:k=6
 .rw[if_pos h6]at h;simp only[aF,decide_eq_true_eq]at h;have ha:=h.1;unfold eG at ha;split at ha
  .rename_i hh;rcases hh with rfl|rfl|rfl<;>simp
  split at ha
  .rename_i hh;rcases hh with rfl|rfl|rfl|rfl|rfl|rfl<;>simp
  split at ha
  .rename_i hh;subst hh;simp
  omega
 rw[if_neg h6]at h;cases h
theorem pG:∀{l:List bG}{i:Nat}{e:bG},l[i]? =some e->eu (l.take (i+1))=eu (l.take i)+fw e
 |[],i,e,h=>by simp at h
 |x::r,0,e,h=>by simp at h;subst h;simp[eu]
 |x::r,i+1,e,h=>by
  have:=pG (l:=r) (i:=i) (e:=e) (by simpa using h);simp only[List.take_succ_cons,eu];rw[this];omega
theorem qt:∀(l:List bG)(i:Nat),eu (l.take i)<=eu l
 |[],i=>by simp
 |x::r,0=>by simp[eu]
 |x::r,i+1=>by have:=qt r i;simp only[List.take_succ_cons,eu];omega
theorem uh:∀{l:List bG}{i:Nat}{e:bG},l[i]? =some e->fw e<=eu l/\lV e<=wW l/\(se l=true->ju e=true)
 |[],i,e,h=>by simp at h
 |x::r,0,e,h=>by
  simp at h;subst h;refine⟨by simp only[eu];omega,by simp only[wW];omega,λhn=> ?_⟩;simp only[se,aF]at hn;exact hn.1
 |x::r,i+1,e,h=>by
  have⟨h1,h2,h3⟩:=uh (l:=r) (i:=i) (e:=e) (by simpa using h);refine⟨by simp only[eu];omega,by simp only[wW];omega,λhn=> ?_⟩;simp only[se,aF]at hn;exact h3 hn.2
def ui(e:bG):1<=fw e:=by cases e;simp[fw]
def Sf:∀(N:Nat)(e:bG),fw e<=N->∀(M:Nat->Prop)(w:World)(v:Value)(deep left:Int),dq M w v e->ju e=true->(lV e:Int)<=deep->deep<=8->(fw e:Int)<=left->left<=40->
 Calls prog 380 #[v, .int .i64 deep, .int .i64 left] w λe' w'=>e'= .returned (.int .i64 (left-fw e))/\Below w w w':=by
 intro N;induction N with
 |zero=>intro e he;have:=ui e;omega
 |succ N ih=>
  intro e he M w v deep left hag QQ hd hd8 hs qf9;obtain⟨k,n,s,l⟩:=e;obtain⟨cs,rfl,hrep⟩:=hag;obtain⟨lv,rfl,hsl,hss⟩:=dF.iff.1 hrep;have gS:=hD hsl;obtain⟨a,cap,rfl,dN,hm,hc⟩:=hsl.bj;simp only[ju,aF]at QQ;obtain⟨hn1,hn2⟩:=QQ;have hsz:s.size<=200:=by have:=xj hn1;rw[cH]at this;exact this
  simp only[fw]at he hs;simp only[lV]at hd;have e0:(fw (.mk k n s l):Int)=eu l+1:=by simp[fw]
  rw[e0];have hd1:¬deep<1:=by omega
  have hs1:¬left<1:=by omega
  have ZX:Hid (∀W,Below w w W->Calls prog 422 #[.agg #[.int .i64 k, .int .i64 n, .string s, .slice a l.length cap]] W λe w'=>e= .returned (.bool true)/\Below W W w'):=(show∀W,_->_ fromλW hb=>Se M W k n s l _ (gS.out.aT hb) hsz hn1);have HC:=hD hc;clear hc;have zZ:=hD hn2;clear hn2;have HD:=hD hd;clear hd;clear hrep hsl hss hn1 e0;generalize hlen:l.length=len at*;have lp:=hD hlen;clear hlen;go_enter func380,ntmps380;go_wp2_with fail;refine(ZX.out _ (by exact((ay _ _).alloc (ae _) _))).mono ?_;rintro e w1⟨rfl,hb1⟩;have dp:=hD (boxed hb1);have cu:=hD (ct hb1);have s1:=hb1.size;simp at s1;clear hb1;go_wp2_with fail;go_loopg [2,7]len(λg lf iv wr=>∃i:Nat,i<=len/\g=len-i/\iv= .int .i64 i/\lf= .int .i64 (left-1-eu (l.take i))/\Hid (Below w1 w1 wr));exact⟨0,ax _,rfl,rfl,by simp[eu],(show Below _ _ _ from ay _ _)⟩;obtain⟨i,hi,rfl,rfl,rfl,bZ⟩:=hrel;have hle:=qt l i;have⟨g0,g1,g2,g3⟩:=aU ((bZ.out.block w (by omega)).trans dp.out);have s2:=bZ.out.size;have hge:(0:Int)<=left-1-(eu (l.take i):Int):=by omega
  have hup:left-1-(eu (l.take i):Int)<=40:=by omega
  by_cases cE:i<len
  .obtain⟨b,off,rfl,hMb,hbl,hcell⟩:=HC.out (by omega);obtain⟨x,hx⟩:∃x,l[i]? =some x:=⟨_,af (by rw[lp.out];exact cE)⟩;obtain⟨xk,xn,xs,xl⟩:=x;have⟨cs,hrep,hcs⟩:=hcell i _ hx;have qo:=hrep;obtain⟨xv,rfl,hxs,hxz⟩:=dF.iff.1 qo;obtain⟨xa,xc,rfl,_⟩:=hxs.bj;have⟨f1,f2,f3⟩:=uh hx;have f4:=pG hx;have f5:=qt l (i+1);have hB:Below w w wr:=cu.out.trans (bZ.out.mono (by have:=cu.out.size;omega));have q0:wr.cell? (b,off+i*4)=some (.int .i64 xk):=(hB.cell (p:=⟨b,off+i*4,none⟩) hbl).trans (hcs 0 _ rfl);have q1:wr.cell? (b,off+i*4+1)=some (.int .i64 xn):=(hB.cell (p:=⟨b,off+i*4+1,none⟩) hbl).trans (hcs 1 _ rfl);have q2:wr.cell? (b,off+i*4+2)=some (.string xs):=(hB.cell (p:=⟨b,off+i*4+2,none⟩) hbl).trans (hcs 2 _ rfl);have q3:wr.cell? (b,off+i*4+3)=some (.slice xa xl.length xc):=(hB.cell (p:=⟨b,off+i*4+3,none⟩) hbl).trans (hcs 3 _ rfl);have aV:=HD.out;have hcall:=ih (.mk xk xn xs xl) (by omega) M wr _ (deep-1) (left-1-(eu (l.take i):Int)) ⟨_,rfl,bD.ev (α:=bG) hrep (Ev.bA hB)⟩ (f3 zZ.out) (by omega) (by omega) (by omega) (by omega);have po:Hid (left-1-(eu (l.take i):Int)-(fw (.mk xk xn xs xl):Int)=left-1-(eu (l.take (i+1)):Int)):=(show _=_ by rw[f4];omega);have cI:=hD hcall;clear hcall;clear hcell hcs hrep qo hxs hxz f1 f2 f3 f4 f5 hx hB aV;go_wp2_with fail;refine(cI.out).mono ?_;rintro e w2⟨rfl,cJ⟩;have cR:=hD cJ;clear cJ;go_wp2_with fail;go_roundg(len-(i+1));exact⟨i+1,by omega,rfl,by go_num,by rw[po.out],(show Below _ _ _ from bZ.out.trans (cR.out.mono s2))⟩;omega
  have wJ:i=len:=by omega
  go_wp2_with fail;go_ret;refine⟨jN ?_,cu.out.trans (bZ.out.mono (by have:=cu.out.size;omega))⟩;rw[ak (by rw[lp.out];omega)];omega
def xp(M:bY)(w:bq)(v:bt)(e:bG)(hag:dq M w v e)(hn:ju e=true)(hd:lV e<=8)(hs:fw e<=40):
 xC 355 #[v] w λe' w'=>e'=xR true/\bC w w':=by
 obtain⟨k,n,s,l⟩:=e;obtain⟨cs,rfl,hrep⟩:=hag;have qo:=hrep;obtain⟨lv,rfl,hsl,hss⟩:=dF.iff.1 qo;obtain⟨a,cap,rfl,_⟩:=hsl.bj;have HC:Hd (∀W,bC w W->xC 380 #[.agg #[k,n,s,xL a l.length cap],xI 8,xI 40] W λe' w'=>e'=xR (xI (40-fw (.mk k n s l)))/\bC W w'):=λW hb=>Sf 40 (.mk k n s l) hs M W _ 8 40 ⟨_,rfl,bD.ev (α:=bG) hrep (Ev.bA hb)⟩ hn (by omega) (by omega) (by omega) (by omega);have hz:(0:Int)<=40-(fw (.mk k n s l):Int):=by omega
 generalize fw (.mk k n s l)=sz at*;delta xC;go_in;go_wp2_with fail;refine dx (HC.o _ (by exact cU)) λw1 hb1=> ?_;have cu:=aV (ct hb1);go_wp2;go_ret;exact⟨cL (by simp;omega),cu.o⟩
def GD {l:List UInt8}{kd n:Nat}{str:List UInt8}{size:Nat}(hl:l.length<=200)(h:sd l=some ((kd,n,str),size)):1<=kd/\kd<=4/\str.length<=200/\(kd=1->str=[])/\(kd≠1->n=0)/\(kd=4->∃c,c∈eQ/\str=[c])/\0<size/\size<=l.length:=by
 cases l with
 |nil=>simp[sd]at h
 |cons c r=>
  unfold sd at h;dsimp only at h;simp only[aC]at hl⊢;by_cases hd:oV c=true
  .rw[if_pos hd]at h;split at h
   .cases h
   simp only[aG,Prod.mk.injEq]at h;obtain⟨⟨rfl,rfl,rfl⟩,rfl⟩:=h;exact⟨by omega,by omega,by simp,λ_=>rfl,λh=>absurd rfl h,λh=>by omega,by omega,by omega⟩
  rw[if_neg hd]at h;by_cases jE:rj c=true
  .rw[if_pos jE]at h;split at h
   .simp only[aG,Prod.mk.injEq]at h;obtain⟨⟨rfl,rfl,rfl⟩,rfl⟩:=h;have hle:((c::r).takeWhile er).length<=(c::r).length:=(List.takeWhile_prefix er).length_le;simp only[aC]at hle;have hw:er c=true:=by unfold er;rw[jE];rfl
    have tN:0<((c::r).takeWhile er).length:=by rw[List.takeWhile_cons_of_pos hw];simp
    exact⟨by omega,by omega,by omega,λh=>by omega,λ_=>rfl,λh=>by omega,tN,hle⟩
   cases h
  rw[if_neg jE]at h;by_cases CM:c=34
  .rw[if_pos CM]at h;split at h
   .rename_i x hx;split at h
    .simp only[aG,Prod.mk.injEq]at h;obtain⟨⟨rfl,rfl,rfl⟩,rfl⟩:=h;have hlen:=congrArg List.length hx;rw[List.length_drop]at hlen;simp only[aC]at hlen;exact⟨by omega,by omega,by omega,λh=>by omega,λ_=>rfl,λh=>by omega,by omega,by omega⟩
    cases h
   cases h
  rw[if_neg CM]at h;split at h
  .rename_i hm;simp only[aG,Prod.mk.injEq]at h;obtain⟨⟨rfl,rfl,rfl⟩,rfl⟩:=h;have Tm:=List.contains_iff_mem.1 hm;refine⟨by omega,by omega,by simp,λh=>by omega,λ_=>rfl,λ_=>⟨c,?_,rfl⟩,by omega,by omega⟩;simp only[eQ,aO,List.not_mem_nil,or_false]at Tm⊢;rcases Tm with h|h|h|h|h|h|h|h|h|h<;>simp[h]
  split at h
  .rename_i hm;simp only[aG,Prod.mk.injEq]at h;obtain⟨⟨rfl,rfl,rfl⟩,rfl⟩:=h;exact⟨by omega,by omega,by simp,λh=>by omega,λ_=>rfl,λ_=>⟨c,by rw[hm.1];simp[eQ],rfl⟩,by omega,by omega⟩
  cases h
theorem lB:∀(k:Nat)(l:List UInt8)(i:Nat)(T:List Tok),l.length<=200->fN k l i=some T->rr T/\(∀t∈T,1<=t.bg/\t.bg<=4)/\T.length<=l.length
 |k,[],i,T,_,h=>by
  cases k<;>simp[fN]at h<;>subst h<;>exact⟨λt ht=>(by cases ht),λt ht=>(by cases ht),by simp⟩
 |0,_::_,i,T,_,h=>by simp[fN]at h
 |k+1,c::r,i,T,hl,h=>by
  unfold fN at h;by_cases hc:c=32
  .rw[if_pos hc]at h;have⟨h1,h2,h3⟩:=lB k r (i+1) T (by simp at hl;omega) h;exact⟨h1,h2,by simp;omega⟩
  rw[if_neg hc]at h;cases h1:sd (c::r)with
  |none=>rw[h1]at h;cases h
  |some q=>
   obtain⟨⟨kd,n,s⟩,size⟩:=q;rw[h1]at h;dsimp only at h;have⟨a1,a2,a3,a4,a5,a6,a7,a8⟩:=GD hl h1;rw[if_neg (by omega)]at h;cases h2:fN k ((c::r).drop size) (i+size)with
   |none=>rw[h2]at h;cases h
   |some ts=>
    rw[h2]at h;simp only[Option.map_some,aG]at h;subst h;have⟨b1,b2,b3⟩:=lB k _ (i+size) ts (by rw[List.length_drop];omega) h2;rw[List.length_drop]at b3;simp only[aC]at b3 a8⊢;refine⟨λt ht=> ?_,λt ht=> ?_,by omega⟩
    .rcases aO.1 ht with rfl|ht
     .exact⟨a3,a4,a5,a6⟩
     exact b1 t ht
    rcases aO.1 ht with rfl|ht
    .exact⟨a1,a2⟩
    exact b2 t ht
def GF:(Tryz.prog.info? 430).map (λi=>(i.zero,i.size,i.bytes))=some (some (.agg #[xI 0,xI 0,"",xI 0]),4,40):=by kernel_rfl
def JU(w:bq)(s:bS)(T:List Tok)(pos:Nat)(wr:bq):Prop:=
 ∃(a:fM)(c:Nat)(done rest:List Tok)(k:Nat),done++rest=T/\fN k (s.data.toList.drop pos) pos=some rest/\bP (λi=>i<↑w+2) (↑w+2) 430 wr (xL a done.length c) (done.map nv)/\done.length<=pos/\bC w wr/\w.heap.size+2<=wr/\
  wr.heap[w.heap.size]? =some (xK jl 350)/\wr.heap[w.heap.size+1]? =some (xK #[xL a done.length c,xI 0,s.size,xI (-1)] 428)
def Sg(w:bq)(o:Obj)(wx:bq):Prop:=wx.heap[w.heap.size]? =some o/\wx.heap.size=[w]/\bC w wx
def JV(o:Obj)(h1:wx.heap=(w.alloc o).heap)(h2:wx.os=w.os)(h3:wx.tape=w.tape)(h4:wx.output=w.output):Sg w o wx:=by
 have⟨a,b,d⟩:=sj (w:=w) (o0:=o) rfl;unfold Sg;rw[h1];exact⟨a,b,⟨h2,h3,h4,by rw[h1];exact d.size,by rw[h1];exact d.block⟩⟩
def GG(w:bq)(x:bG)(e:Ending)(w':bq):Prop:=∃v,e=xR (.tuple #[v,xI 0,xI 0])/\dq (gO w) w' v x/\bC w w'
def JW(s:ByteArray)(w:World)(x:bG)(h:fj s.data.toList=some x):Calls prog 309 #[.string s] w (GG w x):=by
 have⟨i0,hi0,hz0,hz1,hz2⟩:=info_parts GF;obtain⟨T,hT,hex,hs,QQ,hdp,hsz⟩:∃T,fN 200 s.data.toList 0=some T/\ke 60 1 T=some (x,[])/\s.size<=200/\ju x=true/\lV x<=8/\fw x<=40:=by
  unfold fj at h;cases h1:fN 200 s.data.toList 0 with
  |none=>rw[h1]at h;cases h
  |some T=>
   rw[h1]at h;dsimp only at h;cases h2:ke 60 1 T with
   |none=>rw[h2]at h;cases h
   |some q=>
    obtain⟨e,r⟩:=q;rw[h2]at h;cases r with
    |cons t r=>cases h
    |nil=>
     dsimp only at h;split at h
     .rename_i hc;simp only[aG]at h;subst h;rw[cH]at hc;exact⟨T,rfl,h2,hc⟩
     cases h
 clear h;obtain⟨xk,xn,xs,xl⟩:=x;have⟨hsh,hkd,hTl⟩:=lB 200 _ 0 T (by rw[cH];exact hs) hT;rw[cH]at hTl;have HT:=hD hT;clear hT;have Ur:=hD hex;clear hex;have Us:=hD hsh;clear hsh;have Ut:=hD hkd;clear hkd;have To:=hD QQ;clear QQ;go_enter func309,ntmps309;go_wp2_with fail;go_loopg [3,4,6,7,8]s.size(λg r1 r2 iv _ _ wr=>∃pos:Nat,pos<=s.size/\g=s.size-pos/\iv= .int .i64 pos/\r1= .int .i64 0/\r2= .int .i64 0/\Hid (JU w s T pos wr))
 .refine⟨0,ax _,rfl,rfl,rfl,rfl,?_⟩;have⟨b0,b1,hz,hb⟩:=kQ (w:=w) (o0:= .cells #[.int .i64 0, .int .i64 0, .string (), .slice none 0 0] 350) (o1:= .cells #[.slice none 0 0, .int .i64 0, .int .i64 s.size, .int .i64 (-1)] 428) rfl;exact(show JU _ _ _ _ _ from⟨none,0,[],T,200,rfl,HT.out,bP.nil _ _ _ _,ae _,hb,by rw[hz];omega,b0,b1⟩)
 obtain⟨pos,tN,rfl,rfl,rfl,rfl,HL⟩:=hrel;have⟨a,c,done,rest,k,hdr,hlx,hacc,hdl,hbel,hsz2,hR,hP⟩:=HL.out;by_cases cE:pos<s.size
 .obtain⟨ch,QR⟩:∃ch,s[pos]=ch:=⟨_,rfl⟩;have hb:=dY s pos cE;rw[QR]at hb;have FQ:s.data.toList.drop pos=ch::s.data.toList.drop (pos+1):=by
   have hl:=(ag.1 hb).1;rw[List.drop_eq_getElem_cons hl,(ag.1 hb).2]
  have hpz:(pos:Int)<s.size:=by omega
  rw[FQ]at hlx;cases k with
  |zero=>simp[fN]at hlx
  |succ k=>
   unfold fN at hlx;by_cases RR:ch=32
   .subst RR;rw[if_pos rfl]at hlx;have Wx:=hD hlx;clear hlx;have NQ:=hD hdr;clear hdr;have nT:=hD hacc;clear hacc;have CO:=hD hbel;clear hbel;have HR:=hD hR;clear hR;have HP:=hD hP;clear hP;clear FQ hb HL;go_wp2_with fail;go_roundg(s.size-(pos+1));exact⟨pos+1,by omega,rfl,by go_num,rfl,rfl,(show JU _ _ _ _ _ from⟨a,c,done,rest,k,NQ.out,Wx.out,nT.out,by omega,CO.out,hsz2,HR.out,HP.out⟩)⟩;omega
   rw[if_neg RR]at hlx;have e32:((ch.toNat:Int)==32)=false:=by simp;intro h;exact RR (UInt8.toNat_inj.1 (by simp;omega))
   cases h1:sd (ch::s.data.toList.drop (pos+1))with
   |none=>rw[h1]at hlx;cases hlx
   |some q=>
    obtain⟨⟨kd,n,str⟩,size⟩:=q;rw[h1]at hlx;dsimp only at hlx;rw[<-FQ]at h1;have⟨hcall,hz0',hle,hn9,hst⟩:=N8 s wr pos hs kd n str size h1;rw[if_neg (by omega),<-FQ]at hlx;rw[List.drop_drop]at hlx;cases h2:fN k (s.data.toList.drop (pos+size)) (pos+size)with
    |none=>rw[h2]at hlx;cases hlx
    |some ts=>
     rw[h2]at hlx;simp only[Option.map_some,aG]at hlx;have qga:(((pos+size:Nat):Int)==0)=false:=by simp;omega
     have Wx:=hD hlx;clear hlx;have qdc:=hD h2;clear h2;have NQ:=hD hdr;clear hdr;have nT:=hD hacc;clear hacc;have CO:=hD hbel;clear hbel;have HR:=hD hR;clear hR;have HP:=hD hP;clear hP;have cI:=hD hcall;clear hcall;clear FQ hb HL h1;go_wp2_with fail;refine(cI.out).mono ?_;rintro e w1⟨rfl,hb1⟩;have s1:=hb1.size;have Np:Hid (w1.heap[w.heap.size+1]? =some (.cells #[.slice a done.length c, .int .i64 0, .int .i64 s.size, .int .i64 (-1)] 428 (0,0))):=(hb1.block _ (by omega)).trans HP.out;have zX:=hD (nT.out.aT hb1);have nU:Hid (w1.heap[w.heap.size]? =some (.cells #[.int .i64 0, .int .i64 0, .string (), .slice none 0 0] 350 (0,0))):=(hb1.block _ (by omega)).trans HR.out;have cu:Hid (Below w w w1):=CO.out.trans (hb1.mono (by omega));have⟨p0,p1,p2,p3⟩:=aU Np.out;have fP:=aY Np.out 0;have npw:w.heap.size+1≠w1:=by omega
     clear hb1;go_upto_region 11 with fail;obtain⟨W1,hW1⟩:∃W1:World,W1=w1.alloc (.cells #[.int .i64 (dt kd), .int .i64 n, .string (bL str), .int .i64 pos] 430):=⟨_,rfl⟩;rw[<-hW1];have⟨bX,hzW,hbW⟩:=sj hW1;have gy:=hD bX;have Tp:Hid (W1.heap[w.heap.size+1]? =some (.cells #[.slice a done.length c, .int .i64 0, .int .i64 s.size, .int .i64 (-1)] 428 (0,0))):=(hbW.block _ (by omega)).trans Np.out;have HAW:=hD (zX.out.aT hbW);have Jw:Hid (W1.heap[w.heap.size]? =some (.cells #[.int .i64 0, .int .i64 0, .string (), .slice none 0 0] 350 (0,0))):=(hbW.block _ (by omega)).trans nU.out;have qW:Hid (Below w w W1):=cu.out.trans (hbW.mono (by omega));have hsW:w1.heap.size<W1:=by omega
     clear hW1 hbW hzW bX p0 p1 p2 p3 fP;have⟨p0,p1,p2,p3⟩:=aU Tp.out;have⟨x0,x1,x2,x3⟩:=aU gy.out;have P0:∀o,(W1.alloc o).cell? ([w],0)=some (.slice a done.length c):=λo=>(World.cell?_of_block (w:=W1) (aB W1 o [w] (by omega))).trans p0;have Ye:(done.map nv).length=done.length:=aL _;have Uu:=hD Ye;clear Ye;go_region_law(first
      |(refine eA (α:=xb) rfl _ _ _ rfl (λi=>i<↑w+2) (↑w+2) 430 i0 _ 40 underlying426 hi0 hz0 hz1 hz2 rfl (by decide) (.slice a done.length c) (done.map nv) rfl ((HAW.out.aT ⟨rfl,rfl,rfl,ae _,λ_ _=>rfl⟩:bP _ _ _ W1.drew _ _).alloc _) (λ_=>True) _ _ ⟨dt kd,n,bL str,pos⟩ rfl (dj _ _ _ _ rfl trivial) ⟨rfl,by rw[kH];exact hst⟩ (by rw[Uu.out];unfold maxLen;omega) (by rw[Uu.out];omega) (by simp;omega) ?_;rw[Uu.out];intro a2 c2 w2 cF eD cJ;have dR:=hD cF;have l3:w2.cell? ([w],0)=some (.slice a done.length c):=(cJ.cell (p:=⟨[w],0,none⟩) (by simp)).trans (P0 _);have l4:w2.frozen? ([w],0)=false:=(cJ.frozen (p:=⟨[w],0,none⟩) (by simp)).trans ((((ay _ _).alloc (ae _) _).frozen (p:=⟨[w],0,none⟩) (by simp;omega)).trans (aY Tp.out 0));have bZ:=hD cJ;clear cF eD cJ));all_goals
      go_wp2_with fail;go_roundg(s.size-(pos+size));case measure=>omega
      case rel=>
       refine⟨pos+size,by omega,rfl,by go_num,rfl,rfl,?_⟩;have hs2:=bZ.out.size;simp at hs2;have hblk:∀y,y<w.heap.size+2->w2.heap[y]? =W1.heap[y]? :=λy hy=>(bZ.out.block y hy).trans (aB W1.drew _ y (by simp;omega));refine(show JU _ _ _ _ _ from⟨a2,c2,done++[⟨kd,n,str,pos⟩],ts,k,?_,qdc.out,?_,by simp;omega,?_,by simp;omega,?_,?_⟩)
       .rw[<-NQ.out,<-Wx.out];simp
       .have h:=dR.out.ue (p:=⟨[w],0,none⟩) (by simp) (by simp) (.slice a2 (done.length+1) c2);simpa [nv]using h
       .exact(((qW.out.drew).alloc (by simp;omega) _).trans (bZ.out.mono (by omega))).setCell (by simp) _
       .exact(aj _ _ _ _ (by simp)).trans ((hblk _ (by omega)).trans Jw.out)
       have h:=aA w2 [w] 0 _ _ (.slice a2 (done.length+1) c2) ((hblk _ (by omega)).trans Tp.out);simpa using h
 have KK:rest=[]:=by
  rw[List.drop_eq_nil_of_le (by rw[cH];omega)]at hlx;cases k<;>simp[fN]at hlx<;>exact hlx
 subst KK;rw[List.append_nil]at hdr;subst hdr;have hpz:¬(pos:Int)<s.size:=by omega
 have hps:eR [w] (.slice a done.length c) s.size done wr 0:=
  ⟨hP,(hacc.slice (λi h=>h)).ev (Ev.eO wr λi hi=>by unfold cg at hi;omega),by omega,ax _,Ut.out⟩;have hcall:=(Sd [w] (.slice a done.length c) s.size done Us.out 60).1 1 0 (.mk xk xn xs xl) [] wr (by omega) (by omega) hps Ur.out;have tS:=hD hps;clear hps;have cI:=hD hcall;clear hcall;have CO:=hD hbel;clear hbel;have HR:=hD hR;clear hR;have HP:=hD hP;clear hP;clear hlx hacc HL;go_wp2_with fail;refine(cI.out).mono ?_;rintro e w1⟨_,j,rfl,⟨cs,rfl,hrep⟩,oR,hr1,iX⟩;have qo:=hrep;obtain⟨av,rfl,hsl,hss⟩:=dF.iff.1 qo;obtain⟨xa,xc,rfl,_⟩:=hsl.bj;have hj:j=done.length:=by
  have h1:=congrArg List.length hr1;rw[List.length_drop]at h1;simp at h1;have:=oR.le;omega
 subst hj;have s1:=iX.size;have nU:Hid (w1.heap[w.heap.size]? =some (.cells #[.int .i64 0, .int .i64 0, .string (), .slice none 0 0] 350 (0,0))):=(iX.block _ (by omega) (by unfold cg;omega)).trans HR.out;have cu:Hid (Below w w w1):=(show Below _ _ _ from⟨iX.os.trans CO.out.os,iX.tape.trans CO.out.tape,iX.output.trans CO.out.output,aH CO.out.size s1,λy hy=>(iX.block y (by omega) (by unfold cg;omega)).trans (CO.out.block y hy)⟩);have⟨p0,p1,p2,p3⟩:=aU oR.box;have npw:w.heap.size+1≠w1:=by omega
 have nrw:w.heap.size≠w1:=by omega
 have fR:=hD hrep;clear hrep;have qV:=hD oR;clear oR;clear iX qo hsl hss hr1;have P0:∀o,(w1.alloc o).cell? ([w],0)=some (.slice a done.length c):=λo=>(World.cell?_of_block (w:=w1) (aB w1 o [w] (by omega))).trans p0;have P1:∀o,(w1.alloc o).cell? ([w],1)=some (.int .i64 done.length):=λo=>(World.cell?_of_block (w:=w1) (aB w1 o [w] (by omega))).trans p1;have P3:∀o,(w1.alloc o).cell? ([w],3)=some (.int .i64 (-1)):=λo=>(World.cell?_of_block (w:=w1) (aB w1 o [w] (by omega))).trans p3;have aV:decide (done.length<done.length)=false:=by simp
 have hdi:decide ((done.length:Int)<(done.length:Int))=false:=by simp
 go_upto_region 14 with fail;go_cut [67](λs67 wx=>s67= .bool false/\Sg w1 (.cells #[.int .i64 xk, .int .i64 xn, .string xs, .slice xa xl.length xc] 350) wx)
 .go_quiet(fail);go_wp2_with fail;go_meet;exact⟨rfl,JV _ rfl rfl rfl rfl⟩
 obtain⟨rfl,QJ,hxs,hxb⟩:=hcut;clear p0 p1 p2 p3;have Uv:=(hxb.block [w] (by omega)).trans qV.out.box;have⟨p0,p1,p2,p3⟩:=aU Uv;have HRc:Hid (wc.heap[w.heap.size]? =some (.cells #[.int .i64 0, .int .i64 0, .string (), .slice none 0 0] 350 (0,0))):=(hxb.block _ (by omega)).trans nU.out;have⟨e0,e1,e2,e3⟩:=aU QJ;have QS:=xp (gO w) wc (.agg #[.int .i64 xk, .int .i64 xn, .string xs, .slice xa xl.length xc]) (.mk xk xn xs xl) ⟨_,rfl,bD.ev (α:=bG) fR.out ⟨bh.bA hxb,λi hi=> .inl (by unfold gO at hi⊢;omega)⟩⟩ To.out hdp hsz;have HBc:Hid (Below w w wc):=cu.out.trans (hxb.mono (by omega));have ZY:Hid (dF (λi=>i<[w]) wc [.int .i64 xk, .int .i64 xn, .string xs, .slice xa xl.length xc] (.mk xk xn xs xl)):=bD.ev (α:=bG) fR.out ⟨bh.bA hxb,λi hi=> .inl (by unfold gO;omega)⟩;have Wy:=hD QS;clear QS;have uO:=hD QJ;clear QJ;clear Uv hxb;go_wp2_with fail;refine(Wy.out).mono ?_;rintro e w5⟨rfl,iz⟩;have Gh:Hid (w5.heap[w.heap.size]? =some (.cells #[.int .i64 0, .int .i64 0, .string (), .slice none 0 0] 350 (0,0))):=(iz.block _ (by omega)).trans HRc.out;have od:=hD ((iz.block _ (by omega)).trans uO.out);have jF:Hid (Below w w w5):=HBc.out.trans (iz.mono (by omega));have ZZ:=hD (bD.ev (α:=bG) ZY.out (Ev.bA iz));clear e0 e1 e2 e3 p0 p1 p2 p3 iz;have⟨e0,e1,e2,e3⟩:=aU od.out;have⟨r0,r1,r2,r3⟩:=aU Gh.out;have g0:=aY Gh.out 0;have g1:=aY Gh.out 1;have g2:=aY Gh.out 2;have g3:=aY Gh.out 3;go_wp2_with fail;refine ah (v:= .tuple #[.agg #[.int .i64 xk, .int .i64 xn, .string xs, .slice xa xl.length xc], .int .i64 0, .int .i64 0]) (by simp[results,results309,go_sem,r0,r1,r2,r3]) rfl ⟨_,rfl,⟨_,rfl,bD.ev (α:=bG) ZZ.out ?_⟩,?_⟩
 .exact((((Ev.eO w5 (λi h=>by unfold gO at h;omega)).setCell (.inl (by simp)) _).setCell (.inl (by simp)) _).setCell (.inl (by simp)) _).setCell (.inl (by simp)) _
 exact(((jF.out.setCell (ae _) _).setCell (ae _) _).setCell (ae _) _).setCell (ae _) _
def below_drewN {a:bq}(h:Below B a w)(n:Nat):Below B a (w.drewN n):=⟨h.os,h.tape,h.output,h.size,h.block⟩
def vQ(b:Nat)(bad:Int)(w:bq):Prop:=w.heap[b]? =some (xK #[(),xI 0,xI 0,bad] 428)
def xq(b:Nat)(w:bq)(e:Ending)(w':bq):Prop:=e=xR (.agg jl)/\vQ b 0 w'/\bh (cg b) w w'
def xu {bad:Int}(h:vQ b bad W)(hne:b≠w)(v0 v1 v2 v3:bt):vQ b bad ((((W.setCell (w,0) v0).setCell (w,1) v1).setCell (w,2) v2).setCell (w,3) v3):=
 (aj _ _ _ _ hne).trans ((aj _ _ _ _ hne).trans ((aj _ _ _ _ hne).trans ((aj _ _ _ _ hne).trans h)))
def uj(h:bh (cg b) w W)(v0 v1 v2 v3:bt):bh (cg b) w ((((W.setCell (w,0) v0).setCell (w,1) v1).setCell (w,2) v2).setCell (w,3) v3):=
 (((h.setCell (.inr cN) v0).setCell (.inr cN) v1).setCell (.inr cN) v2).setCell (.inr cN) v3
def GH(b:Nat)(w:World)(h:vQ b (-1) w):xC 354 #[xP b] w (xq b w):=by
 have hbl:b<w:=(ab.1 h).1;have⟨p0,p1,p2,p3⟩:=aU h;have f3:=aY h 3;have hne:b≠w:=by omega
 have HP:=aV h;clear h;delta xC;go_in;go_upto_region 3 with fail;have⟨W,hW⟩:=dd ((w.setCell (b,3) (xI 0)).alloc (xK #[xI 0,xI 0,"",()] 350));rw[<-hW];have HB:=aV (show vQ b 0 W by unfold vQ;rw[hW];exact(aB _ _ b (by simpa using hbl)).trans (aA w b 3 _ _ _ HP.o));have HR:=aV (show W.heap[w.heap.size]? =some (xK #[xI 0,xI 0,"",()] 350)by rw[hW];have h:=az (w.setCell (b,3) (xI 0)) (xK #[xI 0,xI 0,"",()] 350);simpa using h);have HO:=aV (show bh (cg b) w W by rw[hW];exact((bh.refl (cg b) w).Lc 3 _).alloc _);clear hW p0 p1 p2 p3 f3;have⟨p0,p1,p2,p3⟩:=aU HB.o;have⟨r0,r1,r2,r3⟩:=aU HR.o;have⟨g0,g1,g2,g3⟩:=iS HR.o;go_quiet(fail);go_wp2_with fail;refine ah (v:= .agg #[xI 0,xI 0,"",()]) (by simp[results,results354,go_sem,r0,r1,r2,r3]) rfl ⟨rfl,?_,?_⟩
 .exact xu (w:=w) (W:=W.drewN nq) HB.o hne _ _ _ _
 exact uj (HO.o.drewN nq) _ _ _ _
def Dm(b:Nat)(w:bq)(h:vQ b (-1) w):xC 379 #[xP b] w (xq b w):=by
 have hbl:b<w:=(ab.1 h).1;have⟨p0,p1,p2,p3⟩:=aU h;have hne:b≠w:=by omega
 have HP:=aV h;clear h;delta xC;go_in;go_wp2_with fail;go_quiet(fail);have⟨W,hW⟩:=dd ((w.alloc (xK jl 350)).drewN nq);rw[<-hW];have HB:=aV (show vQ b (-1) W by unfold vQ;rw[hW];exact(aB w _ b hbl).trans HP.o);have HR:=aV (show ed W w (xK jl 350)by rw[hW];exact az w _);have HO:=aV (show bh (cg b) w W by rw[hW];exact((bh.refl (cg b) w).alloc _).drewN nq);have hsz:w.heap.size<W:=(ab.1 HR.o).1;have hcall:=GH b W HB.o;have cI:=aV hcall;clear hcall;clear hW p0 p1 p2 p3;go_wp2_with fail;refine(cI.o).mono ?_;rintro e w1⟨rfl,hp1,ho1⟩;have nU:Hd (ed w1 w (xK jl 350)):=(ho1.block _ hsz (by unfold cg;omega)).trans HR.o;have⟨r0,r1,r2,r3⟩:=aU nU.o;have⟨g0,g1,g2,g3⟩:=iS nU.o;have Np:=aV hp1;clear hp1;have rU:=aV ho1;clear ho1;go_wp2_with fail;refine ah (v:= .agg jl) (by simp[results,results379,go_sem,r0,r1,r2,r3]) rfl ⟨rfl,?_,?_⟩
 .exact xu (w:=w) Np.o hne _ _ _ _
 exact uj (HO.o.trans rU.o) _ _ _ _
def GI(b:Nat)(w:bq)(h:vQ b (-1) w):xC 353 #[xP b,xI 1] w (xq b w):=by
 have hbl:b<w:=(ab.1 h).1;have hne:b≠w:=by omega
 have hcall:=Dm b (w.alloc (xK jl 350)) ((aB w _ b hbl).trans h);have HP:=aV h;clear h;have cI:=aV hcall;clear hcall;delta xC;go_in;go_wp2_with fail;refine(cI.o).mono ?_;rintro e w1⟨rfl,hp1,ho1⟩;have hs1:=ho1.size;simp at hs1;have nU:Hd (ed w1 w (xK jl 350)):=(ho1.block _ (by simp) (by unfold cg;omega)).trans (az w _);have HO:Hd (bh (cg b) w w1):=((bh.refl _ w).alloc _).dL ho1 (λi hi _=>hi);have Np:=aV hp1;clear hp1;clear ho1;go_wp2;go_loopg [6]0(λg _ wr=>g=0/\Hd (Sg w1 (xK jl 350) wr));exact⟨rfl,(JV _ rfl rfl rfl rfl)⟩;obtain⟨rfl,HT⟩:=hrel;have⟨hx,hxs,hxb⟩:=HT.o;have Wz:Hd (vQ b 0 wr):=(hxb.block b (by omega)).trans Np.o;have vZ:Hd (ed wr w (xK jl 350)):=(hxb.block _ (by omega)).trans nU.o;have Tq:Hd (bh (cg b) w wr):=HO.o.trans (bh.bA hxb);have⟨p0,p1,p2,p3⟩:=aU Wz.o;have⟨r0,r1,r2,r3⟩:=aU vZ.o;have⟨g0,g1,g2,g3⟩:=iS vZ.o;have⟨x0,x1,x2,x3⟩:=aU hx;have qdd:w.heap.size≠w1:=by omega
 have HX:=aV hx;clear hx;clear hxb hxs;go_wp2_with fail;go_quiet(fail);go_wp2_with fail;refine ah (v:= .agg jl) (by simp[results,results353,go_sem,r0,r1,r2,r3]) rfl ⟨rfl,?_,?_⟩
 .exact xu (w:=w) (W:=wr.drewN nq) Wz.o hne _ _ _ _
 exact uj (Tq.o.drewN nq) _ _ _ _
def Dn(w:bq):xC 309 #[""] w (di (.tuple #[.agg jl,xI 0,xI 50]) w):=by
 delta xC;go_in;go_wp2;go_loopg [3,4,6,7,8]0(λg r1 r2 iv _ _ wr=>g=0/\r1=xI 0/\r2=xI 0/\iv=xI 0/\Hd (Two w (xK jl 350) (xK #[(),xI 0,xI 0,xI (-1)] 428) wr));exact⟨rfl,rfl,rfl,rfl,(Ob (kQ (w:=w) rfl) rfl rfl rfl rfl)⟩;obtain⟨rfl,rfl,rfl,rfl,HT⟩:=hrel;have⟨hR,hP,hs,hb⟩:=HT.o;have hcall:=GI [w] wr hP;have hsz:w.heap.size+1<wr:=by omega
 have HR:=aV hR;clear hR;have HB:=aV hb;clear hb;have cI:=aV hcall;clear hcall;clear hP hs;go_wp2_with fail;refine(cI.o).mono ?_;rintro e w1⟨rfl,hp1,ho1⟩;have hs1:=ho1.size;have nU:Hd (ed w1 w (xK jl 350)):=(ho1.block _ (by omega) (by unfold cg;omega)).trans HR.o;have cu:Hd (bC w w1):=⟨ho1.os.trans HB.o.os,ho1.tape.trans HB.o.tape,ho1.output.trans HB.o.output,aH HB.o.size hs1,λy hy=>(ho1.block y (by omega) (by unfold cg;omega)).trans (HB.o.block y hy)⟩;have⟨W,hW⟩:=dd (w1.alloc (xK jl 350));have⟨wx,wxs,wxb⟩:=sj hW;have Tp:Hd (vQ [w] 0 W):=(wxb.block _ (by omega)).trans hp1;have Jw:Hd (ed W w (xK jl 350)):=(wxb.block _ (by omega)).trans nU.o;have qW:Hd (bC w W):=cu.o.trans (wxb.mono (by omega));clear hp1 ho1 wx wxs wxb;go_upto_region 14 with fail;rw[<-hW];clear hW;have⟨p0,p1,p2,p3⟩:=aU Tp.o;have⟨r0,r1,r2,r3⟩:=aU Jw.o;have⟨g0,g1,g2,g3⟩:=iS Jw.o;go_quiet(fail);go_wp2_with fail;go_region;all_goals
  go_wp2_with fail;refine ah (v:= .tuple #[.agg jl,xI 0,xI 50]) (by simp[results,results309,go_sem,r0,r1,r2,r3]) rfl ⟨rfl,?_⟩;exact((((below_drewN qW.o _).setCell cN _).setCell cN _).setCell cN _).setCell cN _
def kg(c:bI)(x:bG)(t:cq):Prop:=∀(M:bY)(w:bq)(v fv:bt),dq M w v x->aS M w fv c.aW->
 xC 356 #[v, .agg #[c.aX,fv]] w (di (.tuple #[.agg #[t.bg,t.of],true]) w)
def iC(c:bI)(x:bG)(p:Int):Prop:=∀(M:bY)(w:bq)(v fv:bt),dq M w v x->aS M w fv c.aW->
 xC 381 #[v, .agg #[c.aX,fv]] w (di p w)
def fF {k n:Int}{l:List bG}(h:dq M w v (bG.mk k n s l)):∃a cap,v= .agg #[k,n,s,xL a l.length cap]/\aS M w (xL a l.length cap) l:=by
 obtain⟨cs,rfl,hrep⟩:=h;obtain⟨lv,rfl,hsl,_⟩:=dF.iff.1 hrep;have h2:=hsl;obtain⟨a,cap,rfl,_⟩:=h2.bj;exact⟨a,cap,rfl,hsl⟩
def jn(c:bI)(x:bG)(t:cq)(ht:t.bg=1\/t.bg=2)(H:kg c x t):iC c x t.bg:=by
 intro M w v fv hag hfs;obtain⟨xk,xn,xs,xl⟩:=x;have tU:=aV hag;have jL:=aV hfs;obtain⟨a,cap,rfl,_⟩:=fF hag;obtain⟨fa,fc,rfl,_⟩:=hfs.bj;have HC:Hd (∀W,bC w W->xC 356 #[.agg #[xk,xn,xs,xL a xl.length cap], .agg #[c.aX,xL fa c.aW.length fc]] W (di (.tuple #[.agg #[t.bg,t.of],true]) W)):=λW hb=>H M W _ _ (tU.o.aT hb) (jL.o.aT hb);obtain⟨tk,Gi⟩:=t;dsimp only at ht HC⊢;rcases ht with rfl|rfl;all_goals
  go_enter func381,ntmps381;go_wp2_with fail;refine dx (HC.o _ (by exact cU.alloc (by simp) _)) λw1 hb1=> ?_;have cu:Hd (bC w w1):=((cU.alloc (by simp) _)).trans (hb1.mono (by simp;omega));go_wp2;go_ret;exact⟨rfl,cu.o.alloc cu.o.size _⟩
def jH(c:bI)(k n:Int)(s:bS)(l:List bG)(hk:k=1\/k=2):kg c (.mk k n s l) ⟨k,0⟩:=by
 intro M w v fv hag hfs;obtain⟨a,cap,rfl,_⟩:=fF hag;obtain⟨fa,fc,rfl,_⟩:=hfs.bj;rcases hk with rfl|rfl;all_goals
  go_enter func356,ntmps356;go_wp2_with fail;refine ah (v:= .tuple #[.agg #[xI _,xI 0],true]) (by simp[results,results356,go_sem];try rfl) rfl ⟨rfl,?_⟩;exact(cU.alloc (by simp) _).alloc (by simp;omega) _
def GJ(c:bI)(s:bS)(f:bJ)(i:Nat)(hi:fieldAt c s=i)(hf:c.aW[i]? =some f):kg c (.mk 3 0 s []) f.type:=by
 intro M w v fv hag hfs;obtain⟨a,cap,rfl,_⟩:=fF hag;have jL:=aV hfs;obtain⟨fa,fc,rfl,_,_,hc⟩:=hfs.bj;have wJ:=(ag.1 hf).1;obtain⟨b,off,rfl,hM,hbl,hcell⟩:=hc (by omega);obtain⟨cs,⟨rfl,_⟩,hcs⟩:=hcell i f hf;have HC:Hd (∀W,bC w W->xC 135 #[.agg #[c.aX,xL (b,off) c.aW.length fc],s] W (di (.tuple #[i,true]) W)):=λW hb=>mF M _ W c s i true (jL.o.aT hb) (by rw[hi,if_neg (by omega)]) (by rw[hi,decide_eq_false (by omega)];rfl);have q1:cC w b (off+i*4+1) f.type.bg:=hcs 1 _ rfl;have q2:cC w b (off+i*4+1+1) f.type.of:=hcs 2 _ rfl;have RM:(i:Int)<(c.aW.length:Int):=by omega
 go_enter func356,ntmps356;go_wp2_with fail;refine dx (HC.o _ (by exact(cU.alloc (by simp) _).alloc (by simp;omega) _)) λw1 hb1=> ?_;have hb0:bC w w1:=(((cU.alloc (by simp) _)).alloc (by simp;omega) _).trans (hb1.mono (by simp;omega));have k1:cC w1 b (off+i*4+1) f.type.bg:=(hb0.cell (p:=⟨b,off+i*4+1,none⟩) hbl).trans q1;have k2:cC w1 b (off+i*4+1+1) f.type.of:=(hb0.cell (p:=⟨b,off+i*4+1+1,none⟩) hbl).trans q2;have gy:=aV ((hb1.block [w] (by simp)).trans (Dh (w:=w) rfl).2.1);have gz:=aV ((hb1.block (↑w+2) (by simp)).trans (Dh (w:=w) rfl).2.2.1);have⟨c0,c1⟩:=aZ gy.o;have No:cX w1 [w,w] (xK #[xI 0,xI 0] 55):=gz.o;have⟨r0,r1⟩:=aZ No;have⟨g0,g1⟩:=nZ No;have hs1:=hb1.size;simp at hs1;have ik:=aV hb0;go_wp2_with fail;refine ah (v:= .tuple #[.agg #[f.type.bg,f.type.of],true]) (by simp[results,results356,go_sem,r0,r1]) rfl ⟨rfl,?_⟩;exact(ik.o.setCell (by simp;omega) _).setCell (by simp;omega) _
def lK {l:List bG}{k n:Int}{ll:List bG}(h:aS M w (xL a l.length cap) l)(hi:l[i]? =some (.mk k n s ll)):
 ∃b off ka kc,a=some ⟨b,off,none⟩/\b<w.heap.size/\cC w b (off+i*4) k/\cC w b (off+i*4+1) n/\cC w b (off+i*4+2) s/\cC w b (off+i*4+3) (xL ka ll.length kc)/\
  dq M w (.agg #[k,n,s,xL ka ll.length kc]) (bG.mk k n s ll):=by
 have⟨a',cap',e,_,_,hc⟩:=h.bj;simp only[Value.slice.injEq,true_and]at e;obtain⟨rfl,rfl⟩:=e;have wJ:=(ag.1 hi).1;obtain⟨b,off,rfl,hM,hbl,hcell⟩:=hc (by omega);have⟨cs,hrep,hcs⟩:=hcell i _ hi;have qo:dF M w cs (.mk k n s ll):=hrep;obtain⟨lv,rfl,hsl,hss⟩:=dF.iff.1 qo;have h2:=hsl;obtain⟨ka,kc,rfl,_⟩:=h2.bj;exact⟨b,off,ka,kc,rfl,hbl,hcs 0 _ rfl,hcs 1 _ rfl,hcs 2 _ rfl,hcs 3 _ rfl,_,rfl,hrep⟩
def fO(w:bq)(o0 o1:Obj)(wx:bq):Prop:=wx.heap[w.heap.size]? =some o0/\wx.heap[w.heap.size+1]? =some o1/\wx.heap[w.heap.size+1+1]? =some (xK #[xI 0,xI 0] 55)/\bC w wx/\w.heap.size+2<wx
def fO.aT(h:fO w o0 o1 wx)(k:bC wx w'):fO w o0 o1 w':=by
 obtain⟨h1,h2,h3,h4,h5⟩:=h;have:=k.size;exact⟨(k.block _ (by omega)).trans h1,(k.block _ (by omega)).trans h2,(k.block _ (by omega)).trans h3,h4.trans (k.mono (by omega)),by omega⟩
def fO.drew(h:fO w o0 o1 wx):fO w o0 o1 wx.drew:=⟨h.1,h.2.1,h.2.2.1,h.2.2.2.1.drew,h.2.2.2.2⟩
def fO.new(w:bq)(o0 o1:Obj):fO w o0 o1 (((w.alloc o0).alloc o1).alloc (xK #[xI 0,xI 0] 55)):=by
 have⟨a,b,c,d,e⟩:=Dh (w:=w) (o0:=o0) (o1:=o1) (o2:=xK #[xI 0,xI 0] 55) rfl;exact⟨a,b,c,e,by rw[d];omega⟩
def wj(c:bI)(s:List UInt8)(x y:bG)(p q:Int)(t:cq)(hx:iC c x p)(hy:iC c y q)
 (ht:(s=[38]/\p=2/\q=2/\t=⟨2,0⟩)\/((s=[61]\/s=[62])/\p=q/\(p=1\/p=2)/\t=⟨1,0⟩)\/((s=[42]\/s=[45]\/s=[47])/\p=1/\q=1/\t=⟨1,0⟩)):kg c (.mk 4 0 (bL s) [x,y]) t:=by
 intro M w v fv hag hfs;obtain⟨a,cap,rfl,hsl⟩:=fF hag;obtain⟨xk,xn,xs,xl⟩:=x;obtain⟨yk,yn,ys,yl⟩:=y;obtain⟨b,off,xa,xc,rfl,hbl,x0,x1,x2,x3,Z0⟩:=lK (i:=0) hsl rfl;have⟨b',off',ya,yc,e,_,y0,y1,y2,y3,hya⟩:=lK (i:=1) hsl rfl;simp only[aG,Addr.mk.injEq,and_true]at e;obtain⟨rfl,rfl⟩:=e;simp only[Nat.zero_mul,Nat.add_zero]at x0 x1 x2 x3;simp only[Nat.one_mul]at y0 y1 y2 y3;have jL:=aV hfs;obtain⟨fa,fc,rfl,_⟩:=hfs.bj;have HX:Hd (∀W,bC w W->xC 381 #[.agg #[xk,xn,xs,xL xa xl.length xc], .agg #[c.aX,xL fa c.aW.length fc]] W (di p W)):=λW hb=>hx M W _ _ (Z0.aT hb) (jL.o.aT hb);have HY:Hd (∀W,bC w W->xC 381 #[.agg #[yk,yn,ys,xL ya yl.length yc], .agg #[c.aX,xL fa c.aW.length fc]] W (di q W)):=λW hb=>hy M W _ _ (hya.aT hb) (jL.o.aT hb);clear hag hfs hsl Z0 hya hx hy;have hlen:[bG.mk xk xn xs xl,bG.mk yk yn ys yl].length=2:=rfl;rw[hlen];clear hlen;go_enter func356,ntmps356;go_upto_region 16 with fail;have⟨W,hW⟩:=dd (((w.alloc (xK #[xI 4,xI 0,bL s,xL (b,off) 2 cap] 350)).alloc (xK #[c.aX,xL fa c.aW.length fc] 53)).alloc (xK #[xI 0,xI 0] 55));rw[<-hW];have HW:=aV (show fO w (xK #[xI 4,xI 0,bL s,xL (b,off) 2 cap] 350) (xK #[c.aX,xL fa c.aW.length fc] 53) W by rw[hW];exact fO.new w _ _);clear hW;have wM:Hd (∀W,bC w W->cC W b off xk/\cC W b (off+1) xn/\cC W b (off+2) xs/\cC W b (off+3) (xL xa xl.length xc)/\cC W b (off+4) yk/\cC W b (off+4+1) yn/\cC W b (off+4+2) ys/\cC W b (off+4+3) (xL ya yl.length yc)):=λW hb=>
  ⟨(hb.cell (p:=(b,off)) hbl).trans x0,(hb.cell (p:=⟨b,off+1,none⟩) hbl).trans x1,(hb.cell (p:=⟨b,off+2,none⟩) hbl).trans x2,(hb.cell (p:=⟨b,off+3,none⟩) hbl).trans x3,(hb.cell (p:=⟨b,off+4,none⟩) hbl).trans y0,(hb.cell (p:=⟨b,off+4+1,none⟩) hbl).trans y1,(hb.cell (p:=⟨b,off+4+2,none⟩) hbl).trans y2,(hb.cell (p:=⟨b,off+4+3,none⟩) hbl).trans y3⟩;clear x0 x1 x2 x3 y0 y1 y2 y3;go_cut [9](λs9 wx=>s9=xI p/\Hd (fO w (xK #[xI 4,xI 0,bL s,xL (b,off) 2 cap] 350) (xK #[c.aX,xL fa c.aW.length fc] 53) wx))
 .have⟨a0,a1,a2,a3⟩:=aU HW.o.1;have⟨c0,c1⟩:=aZ HW.o.2.1;have⟨x0,x1,x2,x3,_⟩:=wM.o W HW.o.2.2.2.1;go_region_law(first|(go_simp;go_at_call 381;refine dx (HX.o _ (by exact HW.o.2.2.2.1.drew)) λw1 hb1=> ?_;have pq:=aV (HW.o.drew.aT hb1);clear hb1));all_goals(go_wp2_with fail;go_meet;exact⟨rfl,pq⟩)
 obtain⟨rfl,ij⟩:=hcut;clear HW;go_upto_region 17 with fail;go_cut [10](λZ2 wx=>Z2=xI q/\Hd (fO w (xK #[xI 4,xI 0,bL s,xL (b,off) 2 cap] 350) (xK #[c.aX,xL fa c.aW.length fc] 53) wx))
 .have⟨a0,a1,a2,a3⟩:=aU ij.o.1;have⟨c0,c1⟩:=aZ ij.o.2.1;have⟨_,_,_,_,x0,x1,x2,x3⟩:=wM.o _ ij.o.2.2.2.1;go_region_law(first|(go_simp;go_at_call 381;refine dx (HY.o _ (by exact ij.o.2.2.2.1.drew)) λw1 hb1=> ?_;have pq:=aV (ij.o.drew.aT hb1);clear hb1));all_goals(go_wp2_with fail;go_meet;exact⟨rfl,pq⟩)
 obtain⟨rfl,oe⟩:=hcut;have⟨a0,a1,a2,a3⟩:=aU oe.o.1;have⟨r0,r1⟩:=aZ oe.o.2.2.1;have⟨g0,g1⟩:=nZ oe.o.2.2.1;have hbf:=oe.o.2.2.2.1;have Tr:=aV hbf;clear hbf;clear wM HX HY ij;rcases ht with⟨rfl,rfl,rfl,rfl⟩|⟨hs,rfl,hp,rfl⟩|⟨hs,rfl,rfl,rfl⟩
 .replace a2:oT wc w 2 (xS ⟨#[38]⟩):=a2;go_wp2_with fail;refine ah (v:= .tuple #[.agg #[xI 2,xI 0],true]) (by simp[results,results356,go_sem,r0,r1]) rfl ⟨rfl,?_⟩;exact(Tr.o.setCell (by simp;omega) _).setCell (by simp;omega) _
 .rcases hs with rfl|rfl<;>rcases hp with rfl|rfl;all_goals
   (first|replace a2:oT wc w 2 (xS ⟨#[61]⟩):=a2|replace a2:oT wc w 2 (xS ⟨#[62]⟩):=a2);go_wp2_with fail;refine ah (v:= .tuple #[.agg #[xI 1,xI 0],true]) (by simp[results,results356,go_sem,r0,r1]) rfl ⟨rfl,?_⟩;exact(Tr.o.setCell (by simp;omega) _).setCell (by simp;omega) _
 rcases hs with rfl|rfl|rfl;all_goals
  (first|replace a2:oT wc w 2 (xS ⟨#[42]⟩):=a2|replace a2:oT wc w 2 (xS ⟨#[45]⟩):=a2|replace a2:oT wc w 2 (xS ⟨#[47]⟩):=a2);go_wp2_with fail;refine ah (v:= .tuple #[.agg #[xI 1,xI 0],true]) (by simp[results,results356,go_sem,r0,r1]) rfl ⟨rfl,?_⟩;exact(Tr.o.setCell (by simp;omega) _).setCell (by simp;omega) _
def gQ(s:List UInt8):List UInt8:=
 if s=[108,101,110]then[116]else if s=[116,101,120,116]then[110]else if s=[108,101,102,116]\/s=[102,114,111,109]then[116,110]else if s=[102,105,110,100]then[116,116]else[]
def ou:List (List UInt8):=[[108,101,110],[116,101,120,116],[108,101,102,116],[102,114,111,109],[102,105,110,100]]
def Od(s:List UInt8)(hs:s∈ou)(w:bq):xC 423 #[bL s] w (j7 (xS (bL (gQ s))) w):=by
 simp only[ou,aO,List.not_mem_nil,or_false]at hs;rcases hs with rfl|rfl|rfl|rfl|rfl
 .show xC 423 #[xS ⟨#[108,101,110]⟩] w _;go_enter func423,ntmps423;go_wp2;go_ret;exact⟨rfl,rfl⟩
 .show xC 423 #[xS ⟨#[116,101,120,116]⟩] w _;go_enter func423,ntmps423;go_wp2;go_ret;exact⟨rfl,rfl⟩
 .show xC 423 #[xS ⟨#[108,101,102,116]⟩] w _;go_enter func423,ntmps423;go_wp2;go_ret;exact⟨rfl,rfl⟩
 .show xC 423 #[xS ⟨#[102,114,111,109]⟩] w _;go_enter func423,ntmps423;go_wp2;go_ret;exact⟨rfl,rfl⟩
 show xC 423 #[xS ⟨#[102,105,110,100]⟩] w _;go_enter func423,ntmps423;go_wp2;go_ret;exact⟨rfl,rfl⟩
def sw(s:List UInt8):cq:=if s=[116,101,120,116]\/s=[108,101,102,116]\/s=[102,114,111,109]then⟨2,0⟩else⟨1,0⟩
def partOf(c:UInt8):Int:=if c=110 then 1 else 2
def GK {s:List UInt8}(hs:s∈ou):0<(gQ s).length/\∀c∈gQ s,c=110\/c=116:=by
 simp only[ou,aO,List.not_mem_nil,or_false]at hs;rcases hs with rfl|rfl|rfl|rfl|rfl<;>decide
def Sh(c:bI)(s:List UInt8)(hs:s∈ou)(l:List bG)(hl:l.length=(gQ s).length)(hp:∀(i:Nat)(e:bG)(u:UInt8),l[i]? =some e->(gQ s)[i]? =some u->iC c e (partOf u))(M:bY)(w:bq)(v fv:bt)(hag:dq M w v (bG.mk 6 0 (bL s) l))(hfs:aS M w fv c.aW):
 xC 382 #[v, .agg #[c.aX,fv]] w (di (.tuple #[.agg #[xI (sw s).bg,xI (sw s).of],true]) w):=by
 obtain⟨a,cap,rfl,hsl⟩:=fF hag;have jL:=aV hfs;obtain⟨fa,fc,rfl,_⟩:=hfs.bj;have⟨hw0,hwb⟩:=GK hs;have Z3:=aV (λw=>Od s hs w);have hif:((bL s).toList==[105,102])=false:=by rw[ByteArray.toList_eq,mG];simp only[ou,aO,List.not_mem_nil,or_false]at hs;rcases hs with rfl|rfl|rfl|rfl|rfl<;>decide
 have FP:(((bL s).toList==[108,101,102,116])=true/\sw s=⟨2,0⟩)\/(((bL s).toList==[108,101,102,116])=false/\((bL s).toList==[114,105,103,104,116])=false/\((bL s).toList==[102,114,111,109])=true/\sw s=⟨2,0⟩)\/(((bL s).toList==[108,101,102,116])=false/\((bL s).toList==[114,105,103,104,116])=false/\((bL s).toList==[102,114,111,109])=false/\((bL s).toList==[116,101,120,116])=true/\sw s=⟨2,0⟩)\/(((bL s).toList==[108,101,102,116])=false/\((bL s).toList==[114,105,103,104,116])=false/\((bL s).toList==[102,114,111,109])=false/\((bL s).toList==[116,101,120,116])=false/\sw s=⟨1,0⟩):=by
  rw[ByteArray.toList_eq,mG];simp only[ou,aO,List.not_mem_nil,or_false]at hs;rcases hs with rfl|rfl|rfl|rfl|rfl<;>decide
 have CP:=aV FP;have hwl:(bL (gQ s)).size=(gQ s).length:=kH _;have hwn:((bL (gQ s)).toList==[])=false:=by rw[ByteArray.toList_eq,mG];cases hq:gQ s;rw[hq]at hw0;simp at hw0;rfl
 have uN:Hd (∀(i:Nat)(h:i<(bL (gQ s)).size),∃u,(gQ s)[i]? =some u/\(bL (gQ s))[i]=u/\(u=110\/u=116)):=λi h=>by
  have h1:=dY (bL (gQ s)) i h;rw[mG]at h1;exact⟨_,h1,rfl,hwb _ (ai h1)⟩
 have Z4:(gQ s).length<=2:=by simp only[ou,aO,List.not_mem_nil,or_false]at hs;rcases hs with rfl|rfl|rfl|rfl|rfl<;>decide
 generalize hwv:bL (gQ s)=wv at*;generalize qde:(gQ s).length=n at*;rw[hl]at hsl⊢;have gS:=aV hsl;have HP:=aV hp;have HL:=aV hl;have HN:=aV qde;have Z5:=aV hwl;have qgb:wv.size<=2:=by rw[Z5.o];exact Z4
 have qgc:wv.size=n:=Z5.o;delta xC;go_in;go_wp2_with fail;refine ey (Z3.o _) ?_;go_wp2;go_loopg [5,10,11]n(λg r5 iv _ wr=>∃i:Nat,i<=n/\g=n-i/\iv=xI i/\r5=xB false/\Hd (fO w (xK #[xI 6,xI 0,bL s,xL a n cap] 350) (xK #[c.aX,xL fa c.aW.length fc] 53) wr));exact⟨0,ax _,rfl,rfl,rfl,(fO.new w _ _)⟩;obtain⟨i,hi,rfl,rfl,rfl,HW⟩:=hrel;by_cases cE:i<n
 .have⟨u,hu,hwi,hu2⟩:=uN.o i (by omega);have⟨x,hx⟩:=fg l i (by rw[HL.o];exact cE);have hpx:=HP.o i x u hx hu;obtain⟨xk,xn,xs,xl⟩:=x;have CQ:aS M w (xL a l.length cap) l:=by rw[HL.o];exact gS.o
  obtain⟨b,off,xa,xc,rfl,hbl,x0,x1,x2,x3,Z0⟩:=lK CQ hx;have HX:Hd (∀W,bC w W->xC 381 #[.agg #[xk,xn,xs,xL xa xl.length xc], .agg #[c.aX,xL fa c.aW.length fc]] W (di (partOf u) W)):=λW hb=>hpx M W _ _ (Z0.aT hb) (jL.o.aT hb);have RM:(i:Int)<(n:Int):=by omega
  have hi0:(0:Int)<=(i:Int):=an _;have⟨a0,a1,a2,a3⟩:=aU HW.o.1;have⟨c0,c1⟩:=aZ HW.o.2.1;have y0:cC wr b (off+i*4) xk:=(HW.o.2.2.2.1.cell (p:=⟨b,off+i*4,none⟩) hbl).trans x0;have y1:cC wr b (off+i*4+1) xn:=(HW.o.2.2.2.1.cell (p:=⟨b,off+i*4+1,none⟩) hbl).trans x1;have y2:cC wr b (off+i*4+2) xs:=(HW.o.2.2.2.1.cell (p:=⟨b,off+i*4+2,none⟩) hbl).trans x2;have y3:cC wr b (off+i*4+3) (xL xa xl.length xc):=(HW.o.2.2.2.1.cell (p:=⟨b,off+i*4+3,none⟩) hbl).trans x3;go_upto_region 14 with fail;go_cut [11](λs11 wx=>s11=xI (partOf u)/\Hd (fO w (xK #[xI 6,xI 0,bL s,xL (b,off) n cap] 350) (xK #[c.aX,xL fa c.aW.length fc] 53) wx))
  .go_region_law(first|(go_simp;go_at_call 381;refine dx (HX.o _ (by exact HW.o.2.2.2.1.drew)) λw1 hb1=> ?_;have pq:=aV (HW.o.drew.aT hb1);clear hb1));all_goals(go_wp2_with fail;go_meet;exact⟨rfl,pq⟩)
  obtain⟨rfl,ij⟩:=hcut;rcases hu2 with rfl|rfl
  .rw[show partOf 110=1 from rfl];go_wp2;go_roundg(n-(i+1));exact⟨i+1,by omega,rfl,by go_num,rfl,ij⟩;omega
  rw[show partOf 116=2 from rfl];go_wp2;go_roundg(n-(i+1));exact⟨i+1,by omega,rfl,by go_num,rfl,ij⟩;omega
 have⟨a0,a1,a2,a3⟩:=aU HW.o.1;have⟨r0,r1⟩:=aZ HW.o.2.2.1;have⟨g0,g1⟩:=nZ HW.o.2.2.1;have hbf:=HW.o.2.2.2.1;have Tr:=aV hbf;rcases CP.o with⟨h1,ht⟩|⟨h1,h2,h3,ht⟩|⟨h1,h2,h3,h4,ht⟩|⟨h1,h2,h3,h4,ht⟩;all_goals
  have HTT:=aV ht;go_wp2_with fail;refine ah (v:= .tuple #[.agg #[xI (sw s).bg,xI (sw s).of],true]) (by simp[results,results382,go_sem,r0,r1,HTT.o]) rfl ⟨rfl,?_⟩;exact(Tr.o.setCell (by simp;omega) _).setCell (by simp;omega) _
def T5(c:bI)(x:bG)(t:cq):Prop:=∀(M:bY)(w:bq)(v fv:bt),dq M w v x->aS M w fv c.aW->
 xC 382 #[v, .agg #[c.aX,fv]] w (di (.tuple #[.agg #[t.bg,t.of],true]) w)
def um(c:bI)(s:bS)(l:List bG)(t:cq)(H:T5 c (.mk 6 0 s l) t):kg c (.mk 6 0 s l) t:=by
 intro M w v fv hag hfs;have tU:=aV hag;have jL:=aV hfs;obtain⟨a,cap,rfl,_⟩:=fF hag;obtain⟨fa,fc,rfl,_⟩:=hfs.bj;have HC:Hd (∀W,bC w W->xC 382 #[.agg #[xI 6,xI 0,s,xL a l.length cap], .agg #[c.aX,xL fa c.aW.length fc]] W (di (.tuple #[.agg #[t.bg,t.of],true]) W)):=λW hb=>H M W _ _ (tU.o.aT hb) (jL.o.aT hb);go_enter func356,ntmps356;go_wp2_with fail;refine dx (HC.o _ (by exact(cU.alloc (by simp) _).alloc (by simp;omega) _)) λw1 hb1=> ?_;have HK:=aV ((fO.new w _ _).aT hb1);have⟨r0,r1⟩:=aZ HK.o.2.2.1;have⟨g0,g1⟩:=nZ HK.o.2.2.1;go_wp2_with fail;refine ah (v:= .tuple #[.agg #[t.bg,t.of],true]) (by simp[results,results356,go_sem,r0,r1]) rfl ⟨rfl,?_⟩;exact(HK.o.2.2.2.1.setCell (by simp;omega) _).setCell (by simp;omega) _
def call5(c:bI)(s:List UInt8)(hs:s∈ou)(l:List bG)(hl:l.length=(gQ s).length)(hp:∀(i:Nat)(e:bG)(u:UInt8),l[i]? =some e->(gQ s)[i]? =some u->iC c e (partOf u)):kg c (.mk 6 0 (bL s) l) (sw s):=
 um c _ l _ (λM w v fv h1 h2=>Sh c s hs l hl hp M w v fv h1 h2)
def Si(c:bI)(x:bG)(t:cq)(H:kg c x t)(hn:ju x=true)(hd:lV x<=8)(hs:fw x<=40)(hc:cj c=true)(hcn:c.aX.size<=maxLen)(M:bY)(w:bq)(v fv:bt)(hag:dq M w v x)(hfs:aS M w fv c.aW):
 xC 310 #[v, .agg #[c.aX,fv]] w (di (.tuple #[.agg #[t.bg,t.of],xI 0]) w):=by
 obtain⟨xk,xn,xs,xl⟩:=x;have tU:=aV hag;have jL:=aV hfs;obtain⟨a,cap,rfl,_⟩:=fF hag;obtain⟨fa,fc,rfl,_⟩:=hfs.bj;have HR:Hd (∀W,bC w W->xC 355 #[.agg #[xk,xn,xs,xL a xl.length cap]] W (di true W)):=λW hb=>xp M W _ _ (tU.o.aT hb) hn hd hs;have zj:Hd (∀W,bC w W->xC 270 #[.agg #[c.aX,xL fa c.aW.length fc]] W (di true W)):=λW hb=>lA M _ W c (jL.o.aT hb) hcn hc;have HC:Hd (∀W,bC w W->xC 356 #[.agg #[xk,xn,xs,xL a xl.length cap], .agg #[c.aX,xL fa c.aW.length fc]] W (di (.tuple #[.agg #[t.bg,t.of],true]) W)):=λW hb=>H M W _ _ (tU.o.aT hb) (jL.o.aT hb);delta xC;go_in;go_wp2_with fail;refine dx (HR.o _ (by exact(cU.alloc (by simp) _).alloc (by simp;omega) _)) λw1 hb1=> ?_;have HK:=aV ((fO.new w _ _).aT hb1);have⟨c0,c1⟩:=aZ HK.o.2.1;have⟨a0,a1,a2,a3⟩:=aU HK.o.1;go_wp2_with fail;refine dx (zj.o _ (by exact HK.o.2.2.2.1)) λw2 cJ=> ?_;have nh:=aV (HK.o.aT cJ);have⟨c0,c1⟩:=aZ nh.o.2.1;have⟨a0,a1,a2,a3⟩:=aU nh.o.1;go_wp2_with fail;refine dx (HC.o _ (by exact nh.o.2.2.2.1)) λw3 hb3=> ?_;have qp:=aV (nh.o.aT hb3);have⟨r0,r1⟩:=aZ qp.o.2.2.1;have⟨g0,g1⟩:=nZ qp.o.2.2.1;have hsz:=qp.o.2.2.2.2;have hne:w.heap.size+1+1≠w3:=by omega
 go_wp2_with fail;have⟨z0,z1⟩:=aZ (W:=((w3.setCell ([w,w],0) t.bg).setCell ([w,w],1) t.of).alloc (xK #[t.bg,t.of] 55)) ((aB _ _ _ (by simp;omega)).trans (aA _ _ 1 _ _ _ (aA _ _ 0 _ _ _ qp.o.2.2.1)));refine ah (v:= .tuple #[.agg #[t.bg,t.of],xI 0]) (by simp[results,results310,go_sem];simp[z0,z1]) rfl ⟨rfl,?_⟩;exact((qp.o.2.2.2.1.setCell (by simp;omega) _).setCell (by simp;omega) _).alloc (by simp;omega) _
def JX(c:bI)(x0 x1 x2:bG)(p:Int)(hp:p=1\/p=2)(h0:iC c x0 1)(h1:iC c x1 p)(h2:iC c x2 p):T5 c (.mk 6 0 (bL [105,102]) [x0,x1,x2]) ⟨p,0⟩:=by
 intro M w v fv hag hfs;obtain⟨a,cap,rfl,hsl⟩:=fF hag;obtain⟨k0,n0,s0,l0⟩:=x0;obtain⟨k1,n1,s1,l1⟩:=x1;obtain⟨k2,n2,s2,l2⟩:=x2;obtain⟨b,off,a0,c0,rfl,hbl,e00,e01,e02,e03,g0⟩:=lK (i:=0) hsl rfl;have⟨b',off',a1,c1,e,_,e10,e11,e12,e13,g1⟩:=lK (i:=1) hsl rfl;simp only[aG,Addr.mk.injEq,and_true]at e;obtain⟨rfl,rfl⟩:=e;have⟨b',off',a2,c2,e,_,e20,e21,e22,e23,g2⟩:=lK (i:=2) hsl rfl;simp only[aG,Addr.mk.injEq,and_true]at e;obtain⟨rfl,rfl⟩:=e;simp only[Nat.zero_mul,Nat.add_zero]at e00 e01 e02 e03;simp only[Nat.one_mul]at e10 e11 e12 e13;simp only[Nat.reduceMul]at e20 e21 e22 e23;have jL:=aV hfs;obtain⟨fa,fc,rfl,_⟩:=hfs.bj;have uO:Hd (∀W,bC w W->xC 381 #[.agg #[k0,n0,s0,xL a0 l0.length c0], .agg #[c.aX,xL fa c.aW.length fc]] W (di (xI 1) W)):=λW hb=>h0 M W _ _ (g0.aT hb) (jL.o.aT hb);have gy:Hd (∀W,bC w W->xC 381 #[.agg #[k1,n1,s1,xL a1 l1.length c1], .agg #[c.aX,xL fa c.aW.length fc]] W (di p W)):=λW hb=>h1 M W _ _ (g1.aT hb) (jL.o.aT hb);have gz:Hd (∀W,bC w W->xC 381 #[.agg #[k2,n2,s2,xL a2 l2.length c2], .agg #[c.aX,xL fa c.aW.length fc]] W (di p W)):=λW hb=>h2 M W _ _ (g2.aT hb) (jL.o.aT hb);have Z6:Hd (∀W,bC w W->cC W b off k0/\cC W b (off+1) n0/\cC W b (off+2) s0/\cC W b (off+3) (xL a0 l0.length c0)):=λW hb=>⟨(hb.cell (p:=(b,off)) hbl).trans e00,(hb.cell (p:=⟨b,off+1,none⟩) hbl).trans e01,(hb.cell (p:=⟨b,off+2,none⟩) hbl).trans e02,(hb.cell (p:=⟨b,off+3,none⟩) hbl).trans e03⟩;have Z7:Hd (∀W,bC w W->cC W b (off+4) k1/\cC W b (off+4+1) n1/\cC W b (off+4+2) s1/\cC W b (off+4+3) (xL a1 l1.length c1)):=λW hb=>⟨(hb.cell (p:=⟨b,off+4,none⟩) hbl).trans e10,(hb.cell (p:=⟨b,off+4+1,none⟩) hbl).trans e11,(hb.cell (p:=⟨b,off+4+2,none⟩) hbl).trans e12,(hb.cell (p:=⟨b,off+4+3,none⟩) hbl).trans e13⟩;have Z8:Hd (∀W,bC w W->cC W b (off+8) k2/\cC W b (off+8+1) n2/\cC W b (off+8+2) s2/\cC W b (off+8+3) (xL a2 l2.length c2)):=λW hb=>⟨(hb.cell (p:=⟨b,off+8,none⟩) hbl).trans e20,(hb.cell (p:=⟨b,off+8+1,none⟩) hbl).trans e21,(hb.cell (p:=⟨b,off+8+2,none⟩) hbl).trans e22,(hb.cell (p:=⟨b,off+8+3,none⟩) hbl).trans e23⟩;clear hag hfs hsl g0 g1 g2 h0 h1 h2 e00 e01 e02 e03 e10 e11 e12 e13 e20 e21 e22 e23;rw[show [bG.mk k0 n0 s0 l0,bG.mk k1 n1 s1 l1,bG.mk k2 n2 s2 l2].length=3 from rfl,show bL [105,102]=⟨#[105,102]⟩from rfl];go_enter func382,ntmps382;go_upto_region 4 with fail;have⟨W,hW⟩:=dd (((w.alloc (xK #[xI 6,xI 0,xS ⟨#[105,102]⟩,xL (b,off) 3 cap] 350)).alloc (xK #[c.aX,xL fa c.aW.length fc] 53)).alloc (xK #[xI 0,xI 0] 55));rw[<-hW];have Yf:=aV (show fO w (xK #[xI 6,xI 0,xS ⟨#[105,102]⟩,xL (b,off) 3 cap] 350) (xK #[c.aX,xL fa c.aW.length fc] 53) W by rw[hW];exact fO.new w _ _);clear hW;go_cut [6](λs6 wx=>s6=xI 1/\Hd (fO w (xK #[xI 6,xI 0,xS ⟨#[105,102]⟩,xL (b,off) 3 cap] 350) (xK #[c.aX,xL fa c.aW.length fc] 53) wx))
 .have⟨z0,z1,z2,z3⟩:=aU Yf.o.1;have⟨y0,y1⟩:=aZ Yf.o.2.1;have⟨x0,x1,x2,x3⟩:=Z6.o _ Yf.o.2.2.2.1;go_region_law(first|(go_simp;go_at_call 381;refine dx (uO.o _ (by exact Yf.o.2.2.2.1.drew)) λw1 hb1=> ?_;have pq:=aV (Yf.o.drew.aT hb1);clear hb1));all_goals(go_wp2_with fail;go_meet;exact⟨rfl,pq⟩)
 obtain⟨rfl,oS⟩:=hcut;go_upto_region 5 with fail;go_cut [7](λs7 wx=>s7=xI p/\Hd (fO w (xK #[xI 6,xI 0,xS ⟨#[105,102]⟩,xL (b,off) 3 cap] 350) (xK #[c.aX,xL fa c.aW.length fc] 53) wx))
 .have⟨z0,z1,z2,z3⟩:=aU oS.o.1;have⟨y0,y1⟩:=aZ oS.o.2.1;have⟨x0,x1,x2,x3⟩:=Z7.o _ oS.o.2.2.2.1;go_region_law(first|(go_simp;go_at_call 381;refine dx (gy.o _ (by exact oS.o.2.2.2.1.drew)) λw1 hb1=> ?_;have pq:=aV (oS.o.drew.aT hb1);clear hb1));all_goals(go_wp2_with fail;go_meet;exact⟨rfl,pq⟩)
 obtain⟨rfl,ij⟩:=hcut;go_upto_region 6 with fail;go_cut [8](λs8 wx=>s8=xI p/\Hd (fO w (xK #[xI 6,xI 0,xS ⟨#[105,102]⟩,xL (b,off) 3 cap] 350) (xK #[c.aX,xL fa c.aW.length fc] 53) wx))
 .have⟨z0,z1,z2,z3⟩:=aU ij.o.1;have⟨y0,y1⟩:=aZ ij.o.2.1;have⟨x0,x1,x2,x3⟩:=Z8.o _ ij.o.2.2.2.1;go_region_law(first|(go_simp;go_at_call 381;refine dx (gz.o _ (by exact ij.o.2.2.2.1.drew)) λw1 hb1=> ?_;have pq:=aV (ij.o.drew.aT hb1);clear hb1));all_goals(go_wp2_with fail;go_meet;exact⟨rfl,pq⟩)
 obtain⟨rfl,oe⟩:=hcut;have⟨r0,r1⟩:=aZ oe.o.2.2.1;have⟨f0,f1⟩:=nZ oe.o.2.2.1;have hbf:=oe.o.2.2.2.1;have Tr:=aV hbf;clear hbf;clear Z6 Z7 Z8 uO gy gz Yf oS ij;rcases hp with rfl|rfl;all_goals
  go_wp2_with fail;refine ah (v:= .tuple #[.agg #[xI _,xI 0],true]) (by simp[results,results382,go_sem,r0,r1];try rfl) rfl ⟨rfl,?_⟩;exact(Tr.o.setCell (by simp;omega) _).setCell (by simp;omega) _
def BQ {l:List UInt8}{x:bG}(h:fj l=some x):ju x=true/\lV x<=8/\fw x<=40:=by
 unfold fj at h;split at h
 .cases h
 split at h
 .split at h
  .rename_i hc;cases h;exact hc.2
  cases h
 cases h
def xx {c:bI}(hc:cj c=true)(hf:f∈c.aW):∃i:Nat,fieldAt c f.aX=i/\c.aW[i]? =some f:=by
 have⟨i,hi⟩:=aP hf;exact⟨i,(((cw c).1 hc).2.2 i f (ag.1 hi).1 hi).2,hi⟩
def J0(s:bS):bL s.data.toList=s:=(gD rfl).symm
def rK:∀s∈names9,s≠[55]/\s≠[34,97,32,98,34]/\s≠[]:=by decide
def xy {c:bI}(hc:cj c=true)(hn:∀f∈c.aW,f.aX.data.toList∈names9)(hf:f∈c.aW):kg c (tX f.aX.data.toList) f.type:=by
 have⟨h1,h2,_⟩:=rK _ (hn f hf);have⟨i,h3,h4⟩:=xx hc hf;unfold tX;rw[if_neg h1,if_neg h2];unfold fE;rw[J0];exact GJ c f.aX f i h3 h4
def J1 {c:bI}(hc:cj c=true)(hn:∀f∈c.aW,f.aX.data.toList∈names9)(h:uq c s):s.data.toList∈[55]::names9/\kg c (tX s.data.toList) ⟨1,0⟩:=by
 rcases h with rfl|⟨f,hf,ht,rfl⟩
 .exact⟨by decide,jH c 1 7 (bL []) [] (.inl rfl)⟩
 exact⟨List.mem_cons_of_mem _ (hn f hf),ht▸xy hc hn hf⟩
def Dq {c:bI}(hc:cj c=true)(hn:∀f∈c.aW,f.aX.data.toList∈names9)(h:qu c s):s.data.toList∈[34,97,32,98,34]::names9/\kg c (tX s.data.toList) ⟨2,0⟩:=by
 rcases h with rfl|⟨f,hf,ht,rfl⟩
 .exact⟨by decide,jH c 2 0 (bL [97,32,98]) [] (.inr rfl)⟩
 exact⟨List.mem_cons_of_mem _ (hn f hf),ht▸xy hc hn hf⟩
section
variable {c:bI}{num txt:bG}(hx:kg c num ⟨1,0⟩)(hy:kg c txt ⟨2,0⟩)
include hx hy
def Li:∀x∈pE num txt,kg c x ⟨1,0⟩:=by
 have px:iC c num 1:=jn c num ⟨1,0⟩ (.inl rfl) hx;have py:iC c txt 2:=jn c txt ⟨2,0⟩ (.inr rfl) hy;have pn:∀n,iC c (nE n) 1:=λn=>jn c _ ⟨1,0⟩ (.inl rfl) (jH c 1 n _ _ (.inl rfl));have pt:∀s,iC c (tE s) 2:=λs=>jn c _ ⟨2,0⟩ (.inr rfl) (jH c 2 0 _ _ (.inr rfl));have Yh:∀s x y,(s=[42]\/s=[45]\/s=[47])->iC c x 1->iC c y 1->kg c (JR s x y) ⟨1,0⟩:=λs x y hs h1 h2=>wj c s x y 1 1 _ h1 h2 (.inr (.inr ⟨hs,rfl,rfl,rfl⟩));have pop:∀s x y,(s=[42]\/s=[45]\/s=[47])->iC c x 1->iC c y 1->iC c (JR s x y) 1:=λs x y hs h1 h2=>jn c _ ⟨1,0⟩ (.inl rfl) (Yh s x y hs h1 h2);intro x hm;simp only[pE,aO,List.not_mem_nil,or_false]at hm;rcases hm with rfl|rfl|rfl|rfl|rfl|rfl|rfl
 .exact jH c 1 3 _ _ (.inl rfl)
 .exact hx
 .exact Yh _ _ _ (.inr (.inl rfl)) (pop _ _ _ (.inl rfl) px (pn 2)) (pn 1)
 .exact call5 c [108,101,110] (by decide) [txt] rfl (λi e u he hu=>by
   match i with
   |0=>simp at he;subst he;have:u=116:=by simpa [gQ]using hu.symm
       subst this;exact py
   |n+1=>simp at he)
 .exact um c _ _ _ (JX c _ _ _ 1 (.inl rfl) (jn c _ ⟨1,0⟩ (.inl rfl) (wj c [62] _ _ 1 1 _ px (pn 2) (.inr (.inl ⟨.inr rfl,rfl, .inl rfl,rfl⟩)))) px (pop _ _ _ (.inr (.inl rfl)) (pn 0) px))
 .exact call5 c [102,105,110,100] (by decide) [tE [98],txt] rfl (λi e u he hu=>by
   match i with
   |0=>simp at he;subst he;have:u=116:=by simpa [gQ]using hu.symm
       subst this;exact pt _
   |1=>simp at he;subst he;have:u=116:=by simpa [gQ]using hu.symm
       subst this;exact py
   |n+2=>simp at he)
 exact Yh _ _ _ (.inr (.inr rfl)) px px
def GQ:∀x∈nu num txt,kg c x ⟨2,0⟩:=by
 have px:iC c num 1:=jn c num ⟨1,0⟩ (.inl rfl) hx;have py:iC c txt 2:=jn c txt ⟨2,0⟩ (.inr rfl) hy;have pn:∀n,iC c (nE n) 1:=λn=>jn c _ ⟨1,0⟩ (.inl rfl) (jH c 1 n _ _ (.inl rfl));have pt:∀s,iC c (tE s) 2:=λs=>jn c _ ⟨2,0⟩ (.inr rfl) (jH c 2 0 _ _ (.inr rfl));have Yh:∀x y,iC c x 2->iC c y 2->kg c (JR [38] x y) ⟨2,0⟩:=λx y h1 h2=>wj c [38] x y 2 2 _ h1 h2 (.inl ⟨rfl,rfl,rfl,rfl⟩);intro x hm;simp only[nu,aO,List.not_mem_nil,or_false]at hm;rcases hm with rfl|rfl|rfl|rfl|rfl|rfl|rfl
 .exact jH c 2 0 _ _ (.inr rfl)
 .exact hy
 .exact Yh _ _ (jn c _ ⟨2,0⟩ (.inr rfl) (Yh _ _ py (pt _))) py
 .exact call5 c [116,101,120,116] (by decide) [num] rfl (λi e u he hu=>by
   match i with
   |0=>simp at he;subst he;have:u=110:=by simpa [gQ]using hu.symm
       subst this;exact px
   |n+1=>simp at he)
 .exact call5 c [108,101,102,116] (by decide) [txt,nE 2] rfl (λi e u he hu=>by
   match i with
   |0=>simp at he;subst he;have:u=116:=by simpa [gQ]using hu.symm
       subst this;exact py
   |1=>simp at he;subst he;have:u=110:=by simpa [gQ]using hu.symm
       subst this;exact pn _
   |n+2=>simp at he)
 .exact call5 c [102,114,111,109] (by decide) [txt,nE 3] rfl (λi e u he hu=>by
   match i with
   |0=>simp at he;subst he;have:u=116:=by simpa [gQ]using hu.symm
       subst this;exact py
   |1=>simp at he;subst he;have:u=110:=by simpa [gQ]using hu.symm
       subst this;exact pn _
   |n+2=>simp at he)
 exact um c _ _ _ (JX c _ _ _ 2 (.inr rfl) (jn c _ ⟨1,0⟩ (.inl rfl) (wj c [61] _ _ 1 1 _ px (pn 1) (.inr (.inl ⟨.inl rfl,rfl, .inl rfl,rfl⟩)))) py (pt _))
end
def Oj {α β:Type}{P:α×β->Bool}{l:List α}{m:List β}(h:(l.zip m).all P=true)(hl:l.length=m.length){a:α}(ha:a∈l):∃b∈m,P (a,b)=true:=by
 have⟨i,hi⟩:=aP ha;have wJ:=(ag.1 hi).1;have hm:m[i]? =some (m[i]'(by omega)):=af (by omega);refine⟨_,ai hm,List.all_eq_true.1 h _ (ai (i:=i) ?_)⟩;rw[List.getElem?_zip_eq_some];exact⟨hi,hm⟩
def rL:fj []=none:=by decide
def sA(c:bI)(t:cq)(s:bS):Prop:=s.data.toList=[]\/∃x,fj s.data.toList=some x/\kg c x t
def Ar(s:bS)(w:bq)(h:s.data.toList=[]\/∃x,fj s.data.toList=some x):xC 308 #[s] w (di true w):=by
 rcases h with h|⟨x,h⟩
 .obtain rfl:=gD h;have HC:=aV (Dn w);go_enter func308,ntmps308;go_wp2_with fail;refine dx (HC.o) λw1 hb1=> ?_;have cu:=aV hb1;go_wp2;go_ret;exact⟨rfl,cu.o.alloc cu.o.size _⟩
 have hz:(s.toList==[])=false:=by
  rw[ByteArray.toList_eq];cases hq:s.data.toList with
  |nil=>rw[hq,rL]at h;cases h
  |cons a r=>rfl
 have HC:=aV (JW s w x h);obtain⟨xk,xn,xs,xl⟩:=x;go_enter func308,ntmps308;go_wp2_with fail;refine(HC.o).mono ?_;rintro e w1⟨v,rfl,hag,hb1⟩;obtain⟨a,cap,rfl,_⟩:=fF hag;have cu:=aV hb1;go_wp2;go_ret;exact⟨rfl,cu.o.alloc cu.o.size _⟩
def Dr(c:bI)(t:cq)(s:bS)(h:sA c t s)(hc:cj c=true)(hcn:c.aX.size<=maxLen)(M:bY)(w:bq)(hM:Bd M w)(fv:bt)(hfs:aS M w fv c.aW):
 xC 272 #[s, .agg #[c.aX,fv], .agg #[t.bg,t.of]] w (di true w):=by
 have jL:=aV hfs;obtain⟨fa,fc,rfl,_⟩:=hfs.bj;rcases h with h|⟨x,h,hk⟩
 .obtain rfl:=gD h;go_enter func272,ntmps272;go_wp2;go_ret;exact⟨rfl,cU.alloc (by simp) _⟩
 have hz:(s.toList==[])=false:=by
  rw[ByteArray.toList_eq];cases hq:s.data.toList with
  |nil=>rw[hq,rL]at h;cases h
  |cons a r=>rfl
 have⟨hn1,hn2,hn3⟩:=BQ h;have HT:Hd (∀W v,bC w W->dq M W v x->xC 310 #[v, .agg #[c.aX,xL fa c.aW.length fc]] W (di (.tuple #[.agg #[t.bg,t.of],xI 0]) W)):=λW v hb hag=>Si c x t hk hn1 hn2 hn3 hc hcn M W v _ hag (jL.o.aT hb);have HC:=aV (λW=>JW s W x h);obtain⟨xk,xn,xs,xl⟩:=x;obtain⟨tk,Gi⟩:=t;go_enter func272,ntmps272;go_wp2_with fail;refine(HC.o _).mono ?_;rintro e w1⟨v,rfl,hag,hb1⟩;have hb0:bC w w1:=(cU.alloc (by simp) _).trans (hb1.mono (by simp;omega));have qdh:dq M w1 v (bG.mk xk xn xs xl):=hag.ev (Ev.eO w1 λi hi=>by have:=hM i hi;unfold gO;simp;omega);have tU:=aV qdh;obtain⟨a,cap,rfl,_⟩:=fF hag;have uO:=aV ((hb1.block w (by simp;omega)).trans (kQ (w:=w) rfl).1);have gy:=aV ((hb1.block [w] (by simp)).trans (kQ (w:=w) rfl).2.1);have s1:=hb1.size;simp at s1;have⟨c0,c1⟩:=aZ uO.o;have⟨t0,t1⟩:=aZ gy.o;have n0:w.heap.size≠w1:=by omega
 have n1:w.heap.size+1≠w1:=by omega
 have C0:∀o,(w1.alloc o).cell? (w,0)=some (xS c.aX):=λo=>(World.cell?_of_block (w:=w1) (aB w1 o w (by omega))).trans c0;have C1:∀o,(w1.alloc o).cell? (w,1)=some (xL fa c.aW.length fc):=λo=>(World.cell?_of_block (w:=w1) (aB w1 o w (by omega))).trans c1;have ik:=aV hb0;go_wp2_with fail;refine dx (HT.o _ _ (by exact ik.o.alloc ik.o.size _) (tU.o.aT cU)) λw2 cJ=> ?_;have bZ:Hd (bC w w2):=(ik.o.alloc ik.o.size _).trans (cJ.mono (by simp;omega));have s2:=cJ.size;simp at s2;have HY1:=aV ((cJ.block [w] (by simp;omega)).trans ((aB w1 _ [w] (by omega)).trans gy.o));have⟨t0,t1⟩:=aZ HY1.o;have n2:w.heap.size+1≠w2:=by omega
 have T0:∀o,(w2.alloc o).cell? ([w],0)=some (xI tk):=λo=>(World.cell?_of_block (w:=w2) (aB w2 o [w] (by omega))).trans t0;have T1:∀o,(w2.alloc o).cell? ([w],1)=some (xI Gi):=λo=>(World.cell?_of_block (w:=w2) (aB w2 o [w] (by omega))).trans t1;go_wp2;go_ret;exact⟨rfl,bZ.o.alloc bZ.o.size _⟩
def ow(x:bK):Prop:=
 (x.bg=1/\x.field=⟨#[]⟩/\x.more=⟨#[]⟩/\x.cW=⟨#[]⟩)\/
 (x.bg=2/\x.aX=⟨#[]⟩/\x.more=⟨#[]⟩/\x.type=⟨0,0⟩/\x.dO=⟨#[]⟩/\x.cW=⟨#[]⟩)\/
 (x.bg=3/\x.more=⟨#[]⟩/\x.type=⟨0,0⟩/\x.dO=⟨#[]⟩/\x.cW=⟨#[]⟩)\/
 (x.bg=4/\x.aX=⟨#[]⟩/\x.more=⟨#[]⟩/\x.cW=⟨#[]⟩)\/
 (x.bg=5)\/
 (x.bg=6/\x.aX=⟨#[]⟩/\x.more=⟨#[]⟩/\x.type=⟨0,0⟩/\x.dO=⟨#[]⟩/\x.cW=⟨#[]⟩)
def Ol(x:bK)(h:ow x)(w:bq):
 xC 307 #[.agg #[x.bg,x.field,x.aX,x.more,x.type.bg,x.type.of,x.dO,x.cW]] w (di (.agg #[x.bg,x.field,x.aX,x.more,x.type.bg,x.type.of,x.dO,x.cW]) w):=by
 obtain⟨k,f,n,m,⟨tk,tf⟩,e,o⟩:=x;simp only[ow,cq.mk.injEq]at h;rcases h with⟨rfl,rfl,rfl,rfl⟩|⟨rfl,rfl,rfl,⟨rfl,rfl⟩,rfl,rfl⟩|⟨rfl,rfl,⟨rfl,rfl⟩,rfl,rfl⟩|⟨rfl,rfl,rfl,rfl⟩|rfl|⟨rfl,rfl,rfl,⟨rfl,rfl⟩,rfl,rfl⟩;all_goals
  dsimp only;delta xC;go_in;go_wp2_with fail;refine ah (v:= .agg #[_,_,_,_,_,_,_,_]) (by simp[results,results307,go_sem]) rfl ⟨rfl,?_⟩;repeat(first|exact ay _ _|refine Below.setCell ?_ (by simp<;>omega) _|refine Below.alloc ?_ (by simp<;>omega) _)
def bz {c4 c5 c6 c7:Value}(h:W.heap[g]? =some (xK #[c0,c1,c2,c3,c4,c5,c6,c7] t)):
 W.cell? (g,0)=some c0/\W.cell? (g,1)=some c1/\W.cell? (g,2)=some c2/\W.cell? (g,3)=some c3/\W.cell? (g,4)=some c4/\W.cell? (g,5)=some c5/\W.cell? (g,6)=some c6/\W.cell? (g,7)=some c7:=by simp[World.cell?,h]
def uY(w:bq)(o:Obj)(wx:bq):Prop:=wx.heap[w.heap.size]? =some o/\bC w wx/\w.heap.size<wx
def uY.aT(h:uY w o wx)(k:bC wx w'):uY w o w':=by
 have:=h.2.2;have:=h.2.1.size;have:=k.size;exact⟨(k.block _ h.2.2).trans h.1,h.2.1.trans (k.mono (by omega)),by omega⟩
def uY.drew(h:uY w o wx):uY w o wx.drew:=⟨h.1,h.2.1.drew,h.2.2⟩
def Om(x:bK):Prop:=
 ((x.bg=1\/x.bg=3\/x.bg=5)->bF x.aX=true)/\(x.bg=5->bF x.more=true)/\((x.bg=1\/x.bg=4\/x.bg=5)->bO x.type=true)/\
 (x.dO.data.toList=[]\/∃y,fj x.dO.data.toList=some y)/\(x.cW.data.toList=[]\/∃y,fj x.cW.data.toList=some y)/\
 x.field.size<=maxLen/\x.aX.size<=maxLen/\x.more.size<=maxLen
def GR(x:bK)(h:ow x)(hf:Om x)(b:Bool)(hb:(decide (x.bg=1)||bF x.field)=b)(w:bq):
 xC 271 #[.agg #[x.bg,x.field,x.aX,x.more,x.type.bg,x.type.of,x.dO,x.cW]] w (di b w):=by
 have HN:Hd (∀w,_):=Ol x h;obtain⟨k,f,n,m,⟨tk,tf⟩,e,o⟩:=x;obtain⟨hn,hm,ht,he,ho,hs1,hs2,qX⟩:=hf;have hk:k=1\/k=2\/k=3\/k=4\/k=5\/k=6:=by simp only[ow]at h;omega
 dsimp only at*;have HT:=aV λhk w=>oU true ⟨tk,tf⟩ w (ht hk);have tM:=aV λhk w=>iB true n w (hn hk) hs2;have Bz:=aV λhk w=>iB true m w (hm hk) qX;have HF:=aV λw=>iB (bF f) f w rfl hs1;have Yi:=aV λw=>Ar e w he;have Uy:=aV λw=>Ar o w ho;clear hn hm ht he ho hs1 hs2 qX h;delta xC;go_in;go_upto_region 1 with fail;have⟨W,hW⟩:=dd (w.alloc (xK #[k,f,n,m,tk,tf,e,o] 57));rw[<-hW];have HW:=aV (show uY w (xK #[k,f,n,m,tk,tf,e,o] 57) W by rw[hW];exact⟨(sj (w:=w) rfl).1,cU,by simp⟩);clear hW;go_cut [16](λs16 wx=>s16=xB false/\Hd (uY w (xK #[k,f,n,m,tk,tf,e,o] 57) wx))
 .have⟨a0,a1,a2,a3,a4,a5,a6,a7⟩:=bz HW.o.1;have hk1:¬k<1:=by omega
  have hk6:¬6<k:=by omega
  go_region_law(first|(go_simp;go_at_call 307;refine dx (HN.o _) λw1 hb1=> ?_;have pq:=aV (HW.o.drew.aT hb1);clear hb1;have⟨b0,b1,b2,b3,b4,b5,b6,b7⟩:=bz pq.o.1));all_goals(go_wp2_with fail;go_meet;exact⟨rfl,pq⟩)
 obtain⟨rfl,ij⟩:=hcut;clear HW HN;have⟨a0,a1,a2,a3,a4,a5,a6,a7⟩:=bz ij.o.1;rcases hk with rfl|rfl|rfl|rfl|rfl|rfl
 .obtain rfl:true=b:=hb;go_wp2_with fail;refine ey (tM.o (by simp) _) ?_;go_wp2_with fail;refine dx (HT.o (by simp) _) λw3 hb3=> ?_;have oe:=aV (ij.o.aT hb3);clear hb3;clear a0 a1 a2 a3 a4 a5 a6 a7;have⟨a0,a1,a2,a3,a4,a5,a6,a7⟩:=bz oe.o.1;go_wp2_with fail;refine dx (Yi.o _) λw4 eZ=> ?_;have nj:=aV (oe.o.aT eZ);clear eZ;clear a0 a1 a2 a3 a4 a5 a6 a7;have⟨a0,a1,a2,a3,a4,a5,a6,a7⟩:=bz nj.o.1;go_wp2_with fail;refine dx (Uy.o _) λw5 iz=> ?_;have qY:=aV (nj.o.aT iz);clear iz;clear a0 a1 a2 a3 a4 a5 a6 a7;have⟨a0,a1,a2,a3,a4,a5,a6,a7⟩:=bz qY.o.1;go_wp2;go_ret;exact⟨rfl,qY.o.2.1⟩
 .have hb':bF f=b:=hb;rw[hb']at HF;clear hb hb';go_wp2_with fail;refine ey (HF.o _) ?_;cases b with
  |false=>
   go_wp2;go_ret;exact⟨rfl,ij.o.2.1⟩
  |true=>
   go_wp2_with fail;refine dx (Yi.o _) λw3 hb3=> ?_;have oe:=aV (ij.o.aT hb3);clear hb3;clear a0 a1 a2 a3 a4 a5 a6 a7;have⟨a0,a1,a2,a3,a4,a5,a6,a7⟩:=bz oe.o.1;go_wp2_with fail;refine dx (Uy.o _) λw4 eZ=> ?_;have nj:=aV (oe.o.aT eZ);clear eZ;clear a0 a1 a2 a3 a4 a5 a6 a7;have⟨a0,a1,a2,a3,a4,a5,a6,a7⟩:=bz nj.o.1;go_wp2;go_ret;exact⟨rfl,nj.o.2.1⟩
 .have hb':bF f=b:=hb;rw[hb']at HF;clear hb hb';go_wp2_with fail;refine ey (HF.o _) ?_;cases b with
  |false=>
   go_wp2;go_ret;exact⟨rfl,ij.o.2.1⟩
  |true=>
   go_wp2_with fail;refine ey (tM.o (by simp) _) ?_;go_wp2_with fail;refine dx (Yi.o _) λw3 hb3=> ?_;have oe:=aV (ij.o.aT hb3);clear hb3;clear a0 a1 a2 a3 a4 a5 a6 a7;have⟨a0,a1,a2,a3,a4,a5,a6,a7⟩:=bz oe.o.1;go_wp2_with fail;refine dx (Uy.o _) λw4 eZ=> ?_;have nj:=aV (oe.o.aT eZ);clear eZ;clear a0 a1 a2 a3 a4 a5 a6 a7;have⟨a0,a1,a2,a3,a4,a5,a6,a7⟩:=bz nj.o.1;go_wp2;go_ret;exact⟨rfl,nj.o.2.1⟩
 .have hb':bF f=b:=hb;rw[hb']at HF;clear hb hb';go_wp2_with fail;refine ey (HF.o _) ?_;cases b with
  |false=>
   go_wp2;go_ret;exact⟨rfl,ij.o.2.1⟩
  |true=>
   go_wp2_with fail;refine dx (HT.o (by simp) _) λw3 hb3=> ?_;have oe:=aV (ij.o.aT hb3);clear hb3;clear a0 a1 a2 a3 a4 a5 a6 a7;have⟨a0,a1,a2,a3,a4,a5,a6,a7⟩:=bz oe.o.1;go_wp2_with fail;refine dx (Yi.o _) λw4 eZ=> ?_;have nj:=aV (oe.o.aT eZ);clear eZ;clear a0 a1 a2 a3 a4 a5 a6 a7;have⟨a0,a1,a2,a3,a4,a5,a6,a7⟩:=bz nj.o.1;go_wp2_with fail;refine dx (Uy.o _) λw5 iz=> ?_;have qY:=aV (nj.o.aT iz);clear iz;clear a0 a1 a2 a3 a4 a5 a6 a7;have⟨a0,a1,a2,a3,a4,a5,a6,a7⟩:=bz qY.o.1;go_wp2;go_ret;exact⟨rfl,qY.o.2.1⟩
 .have hb':bF f=b:=hb;rw[hb']at HF;clear hb hb';go_wp2_with fail;refine ey (HF.o _) ?_;cases b with
  |false=>
   go_wp2;go_ret;exact⟨rfl,ij.o.2.1⟩
  |true=>
   go_wp2_with fail;refine ey (tM.o (by simp) _) ?_;go_wp2_with fail;refine dx (HT.o (by simp) _) λw3 hb3=> ?_;have oe:=aV (ij.o.aT hb3);clear hb3;clear a0 a1 a2 a3 a4 a5 a6 a7;have⟨a0,a1,a2,a3,a4,a5,a6,a7⟩:=bz oe.o.1;go_wp2_with fail;refine ey (Bz.o (by simp) _) ?_;go_wp2_with fail;refine dx (Yi.o _) λw4 eZ=> ?_;have nj:=aV (oe.o.aT eZ);clear eZ;clear a0 a1 a2 a3 a4 a5 a6 a7;have⟨a0,a1,a2,a3,a4,a5,a6,a7⟩:=bz nj.o.1;go_wp2_with fail;refine dx (Uy.o _) λw5 iz=> ?_;have qY:=aV (nj.o.aT iz);clear iz;clear a0 a1 a2 a3 a4 a5 a6 a7;have⟨a0,a1,a2,a3,a4,a5,a6,a7⟩:=bz qY.o.1;go_wp2;go_ret;exact⟨rfl,qY.o.2.1⟩
 have hb':bF f=b:=hb;rw[hb']at HF;clear hb hb';go_wp2_with fail;refine ey (HF.o _) ?_;cases b with
 |false=>
  go_wp2;go_ret;exact⟨rfl,ij.o.2.1⟩
 |true=>
  go_wp2_with fail;refine dx (Yi.o _) λw3 hb3=> ?_;have oe:=aV (ij.o.aT hb3);clear hb3;clear a0 a1 a2 a3 a4 a5 a6 a7;have⟨a0,a1,a2,a3,a4,a5,a6,a7⟩:=bz oe.o.1;go_wp2_with fail;refine dx (Uy.o _) λw4 eZ=> ?_;have nj:=aV (oe.o.aT eZ);clear eZ;clear a0 a1 a2 a3 a4 a5 a6 a7;have⟨a0,a1,a2,a3,a4,a5,a6,a7⟩:=bz nj.o.1;go_wp2;go_ret;exact⟨rfl,nj.o.2.1⟩
structure ru(c:bI)(x:bK):Prop where
 sh:ow x
 aX:(x.bg=1\/x.bg=3\/x.bg=5)->bF x.aX=true
 more:x.bg=5->bF x.more=true
 type:(x.bg=1\/x.bg=4\/x.bg=5)->bO x.type=true
 dO:sA c x.type x.dO
 cW:sA c x.type x.cW
 s1:x.field.size<=maxLen
 s2:x.aX.size<=maxLen
 s3:x.more.size<=maxLen
def ru.Vh(h:ru c x):Om x:=
 ⟨h.aX,h.more,h.type,h.dO.imp_right λ⟨y,h,_⟩=>⟨y,h⟩,h.cW.imp_right λ⟨y,h,_⟩=>⟨y,h⟩,h.s1,h.s2,h.s3⟩
def hasB(c:bI)(s:bS):Bool:= !decide (fieldAt c s<0)
def xA(c:bI)(s:bS):Int:=match c.aW[(fieldAt c s).toNat]? with|some f=>f.type.bg|none=>0
def j8(c:bI)(x:bK):Bool:=
 if x.bg=1 then decide ((c.aW.length:Int)<8)&& !hasB c x.aX
 else if x.bg=2 then hasB c x.field
 else if x.bg=3 then hasB c x.field&& !hasB c x.aX
 else if x.bg=4 then hasB c x.field
 else if x.bg=5 then hasB c x.field&&decide ((c.aW.length:Int)<8)&& !(x.aX.toList==x.more.toList)&&(!hasB c x.aX||x.aX.toList==x.field.toList)&&(!hasB c x.more||x.more.toList==x.field.toList)
 else hasB c x.field&&decide (xA c x.field<=3)
def rM {a b:bS}(h:(a.toList==b.toList)=true):a=b:=by
 rw[ByteArray.toList_eq,ByteArray.toList_eq,beq_iff_eq]at h;exact(gD h).trans (J0 b)
def BR(h:hasB c s=true):∃(i:Nat)(f:bJ),fieldAt c s=i/\c.aW[i]? =some f/\f.aX=s:=by
 unfold hasB at h;simp only[Bool.not_eq_true',decide_eq_false_iff_not]at h;unfold fieldAt idxOf at h⊢;cases hq:c.aW.findIdx? (λf=>dh f.aX s)with
 |none=>rw[hq]at h;simp at h
 |some i=>
  have⟨hi,hp,_⟩:=List.findIdx?_eq_some_iff_getElem.1 hq;exact⟨i,_,rfl,af hi,rM hp⟩
def Ds(hc:cj c=true)(h:hasB c s=true):bF s=true:=by
 obtain⟨i,f,_,hf,rfl⟩:=BR h;have:=(((cw c).1 hc).2.2 i f (ag.1 hf).1 hf).1;unfold cT at this;simp only[aF]at this;exact this.1.1
def BS(hc:cj c=true)(hs:ow x)(h:(decide (x.bg=1)||bF x.field)=false):j8 c x=false:=by
 simp only[Bool.or_eq_false_iff,decide_eq_false_iff_not]at h;have hn:hasB c x.field=false:=by
  cases hq:hasB c x.field with
  |false=>rfl
  |true=>rw[Ds hc hq]at h;simp at h
 unfold j8;simp[h.1,hn]
def uZ(w:bq)(o0 o1:Obj)(wx:bq):Prop:=wx.heap[w.heap.size]? =some o0/\wx.heap[w.heap.size+1]? =some o1/\bC w wx/\w.heap.size+1<wx
def uZ.aT(h:uZ w o0 o1 wx)(k:bC wx w'):uZ w o0 o1 w':=by
 obtain⟨h1,h2,h3,h4⟩:=h;have:=h3.size;have:=k.size;exact⟨(k.block _ (by omega)).trans h1,(k.block _ (by omega)).trans h2,h3.trans (k.mono (by omega)),by omega⟩
def uZ.new(w:bq)(o0 o1:Obj):uZ w o0 o1 ((w.alloc o0).alloc o1):=⟨(kQ (w:=w) rfl).1,(kQ (w:=w) rfl).2.1,(kQ (w:=w) rfl).2.2.2,by rw[(kQ (w:=w) rfl).2.2.1];omega⟩
def u4(c:bI)(x:bK)(hp:ru c x)(hc:cj c=true)(hcn:c.aX.size<=maxLen)(b:Bool)(hb:j8 c x=b)(M:bY)(w:bq)(hM:Bd M w)(fv:bt)(hfs:aS M w fv c.aW):
 xC 204 #[.agg #[c.aX,fv], .agg #[x.bg,x.field,x.aX,x.more,x.type.bg,x.type.of,x.dO,x.cW]] w (di b w):=by
 have HFM:=aV λbf hbf w=>GR x hp.sh hp.Vh bf hbf w;have Nq:=aV (BS hc hp.sh);have hk:x.bg=1\/x.bg=2\/x.bg=3\/x.bg=4\/x.bg=5\/x.bg=6:=by have:=hp.sh;simp only[ow]at this;omega
 have HTE:Hd (∀W fv,Bd M W->aS M W fv c.aW->_):=λW fv h1 h2=>Dr c x.type x.dO hp.dO hc hcn M W h1 fv h2;have HTO:Hd (∀W fv,Bd M W->aS M W fv c.aW->_):=λW fv h1 h2=>Dr c x.type x.cW hp.cW hc hcn M W h1 fv h2;have HR:Hd (∀W fv,aS M W fv c.aW->_):=λW fv h=>lA M fv W c h hcn hc;have QZ:Hd (∀W fv aX at_ is,aS M W fv c.aW->_->_->_):=λW fv aX at_ is h h1 h2=>mF M fv W c aX at_ is h h1 h2;have jL:=aV hfs;obtain⟨fa,fc,rfl,hlc,Jo,hcells⟩:=hfs.bj;have wM:=aV hcells;clear hp hfs hcells;obtain⟨k,f,n,m,⟨tk,tf⟩,e,o⟩:=x;dsimp only at*;have⟨bf,hbf⟩:=js ((decide (k=1)||bF f));have HFB:=aV (HFM.o bf hbf);have⟨i1,hi1⟩:=js (hasB c f);obtain⟨i2,WG⟩:∃i1,hasB c n=i1:=⟨_,rfl⟩;obtain⟨i3,Q0⟩:∃i1,hasB c m=i1:=⟨_,rfl⟩;obtain⟨p1,hp1⟩:∃p,(if fieldAt c f<0 then 0 else fieldAt c f)=p:=⟨_,rfl⟩;obtain⟨p2,Gj⟩:∃p,(if fieldAt c n<0 then 0 else fieldAt c n)=p:=⟨_,rfl⟩;obtain⟨p3,FR⟩:∃p,(if fieldAt c m<0 then 0 else fieldAt c m)=p:=⟨_,rfl⟩;have iY:Hd (∀W,aS M W (xL fa c.aW.length fc) c.aW->_):=λW h=>QZ.o W _ f p1 i1 h hp1 hi1;have uR:Hd (∀W,aS M W (xL fa c.aW.length fc) c.aW->_):=λW h=>QZ.o W _ n p2 i2 h Gj WG;have HF3:Hd (∀W,aS M W (xL fa c.aW.length fc) c.aW->_):=λW h=>QZ.o W _ m p3 i3 h FR Q0;have HB:=aV hb;clear hb;have Ab:=aV hi1;clear hi1;have ni:=aV WG;clear WG;have tO:=aV Q0;clear Q0;have Np:=aV hp1;clear hp1;have Wz:=aV Gj;clear Gj;have RO:=aV FR;clear FR;have Tr:=aV hbf;clear hbf;clear QZ HFM;delta xC;go_in;go_wp2_with fail;refine dx (HR.o _ _ (jL.o.aT (uZ.new _ _ _).2.2.1)) λw1 hb1=> ?_;have oS:Hd (uZ w (xK #[c.aX,xL fa c.aW.length fc] 53) (xK #[k,f,n,m,tk,tf,e,o] 57) w1):=(uZ.new w _ _).aT hb1;clear hb1;have⟨c0,c1⟩:=aZ oS.o.1;have⟨a0,a1,a2,a3,a4,a5,a6,a7⟩:=bz oS.o.2.1;go_wp2_with fail;refine dx (HFB.o _) λw2 cJ=> ?_;have ij:=aV (oS.o.aT cJ);clear cJ;clear c0 c1 a0 a1 a2 a3 a4 a5 a6 a7;have⟨c0,c1⟩:=aZ ij.o.1;have⟨a0,a1,a2,a3,a4,a5,a6,a7⟩:=bz ij.o.2.1;cases bf with
 |false=>
  obtain rfl:false=b:=(Nq.o Tr.o).symm.trans HB.o;go_wp2;go_ret;exact⟨rfl,ij.o.2.2.1⟩
 |true=>
  go_wp2_with fail;refine dx (iY.o _ (jL.o.aT ij.o.2.2.1)) λw3 hb3=> ?_;have oe:=aV (ij.o.aT hb3);clear hb3;clear c0 c1 a0 a1 a2 a3 a4 a5 a6 a7;have⟨c0,c1⟩:=aZ oe.o.1;have⟨a0,a1,a2,a3,a4,a5,a6,a7⟩:=bz oe.o.2.1;go_wp2_with fail;refine dx (uR.o _ (jL.o.aT oe.o.2.2.1)) λw4 eZ=> ?_;have nj:=aV (oe.o.aT eZ);clear eZ;clear c0 c1 a0 a1 a2 a3 a4 a5 a6 a7;have⟨c0,c1⟩:=aZ nj.o.1;have⟨a0,a1,a2,a3,a4,a5,a6,a7⟩:=bz nj.o.2.1;go_wp2_with fail;refine dx (HF3.o _ (jL.o.aT nj.o.2.2.1)) λw5 iz=> ?_;have qY:=aV (nj.o.aT iz);clear iz;clear c0 c1 a0 a1 a2 a3 a4 a5 a6 a7;have⟨c0,c1⟩:=aZ qY.o.1;have⟨a0,a1,a2,a3,a4,a5,a6,a7⟩:=bz qY.o.2.1;go_wp2_with fail;refine dx (HTE.o _ _ (hM.aT qY.o.2.2.1) (jL.o.aT qY.o.2.2.1)) λw6 kN=> ?_;have qK:=aV (qY.o.aT kN);clear kN;clear c0 c1 a0 a1 a2 a3 a4 a5 a6 a7;have⟨c0,c1⟩:=aZ qK.o.1;have⟨a0,a1,a2,a3,a4,a5,a6,a7⟩:=bz qK.o.2.1;rcases hk with rfl|rfl|rfl|rfl|rfl|rfl
  .by_cases hl:(c.aW.length:Int)<8
   .cases i2 with
    |false=>
     obtain rfl:true=b:=by rw[<-HB.o];simp[j8,hl,ni.o]
     go_wp2;go_ret;exact⟨rfl,qK.o.2.2.1⟩
    |true=>
     obtain rfl:false=b:=by rw[<-HB.o];simp[j8,hl,ni.o]
     go_wp2;go_ret;exact⟨rfl,qK.o.2.2.1⟩
   obtain rfl:false=b:=by rw[<-HB.o];simp[j8,hl]
   go_wp2;go_ret;exact⟨rfl,qK.o.2.2.1⟩
  .cases i1 with
   |false=>
    obtain rfl:false=b:=by rw[<-HB.o];simp[j8,Ab.o]
    go_wp2;go_ret;exact⟨rfl,qK.o.2.2.1⟩
   |true=>
    obtain rfl:true=b:=by rw[<-HB.o];simp[j8,Ab.o]
    go_wp2;go_ret;exact⟨rfl,qK.o.2.2.1⟩
  .cases i1 with
   |false=>
    obtain rfl:false=b:=by rw[<-HB.o];simp[j8,Ab.o]
    go_wp2;go_ret;exact⟨rfl,qK.o.2.2.1⟩
   |true=>
    cases i2 with
    |false=>
     obtain rfl:true=b:=by rw[<-HB.o];simp[j8,Ab.o,ni.o]
     go_wp2;go_ret;exact⟨rfl,qK.o.2.2.1⟩
    |true=>
     obtain rfl:false=b:=by rw[<-HB.o];simp[j8,Ab.o,ni.o]
     go_wp2;go_ret;exact⟨rfl,qK.o.2.2.1⟩
  .cases i1 with
   |false=>
    obtain rfl:false=b:=by rw[<-HB.o];simp[j8,Ab.o]
    go_wp2;go_ret;exact⟨rfl,qK.o.2.2.1⟩
   |true=>
    obtain rfl:true=b:=by rw[<-HB.o];simp[j8,Ab.o]
    go_wp2;go_ret;exact⟨rfl,qK.o.2.2.1⟩
  .cases i1 with
   |false=>
    obtain rfl:false=b:=by rw[<-HB.o];simp[j8,Ab.o]
    go_wp2;go_ret;exact⟨rfl,qK.o.2.2.1⟩
   |true=>
    by_cases hl:(c.aW.length:Int)<8;rotate_left
    .obtain rfl:false=b:=by rw[<-HB.o];simp[j8,Ab.o,hl]
     go_wp2;go_ret;exact⟨rfl,qK.o.2.2.1⟩
    by_cases hnm:(n.toList==m.toList)=true
    .obtain rfl:false=b:=by rw[<-HB.o];simp[j8,Ab.o,hl,hnm]
     go_wp2;go_ret;exact⟨rfl,qK.o.2.2.1⟩
    cases i2 with
    |false=>
     cases i3 with
     |false=>
      obtain rfl:true=b:=by rw[<-HB.o];simp[j8,Ab.o,hl,hnm,ni.o,tO.o]
      go_wp2_with fail;refine dx (HTO.o _ _ (hM.aT qK.o.2.2.1) (jL.o.aT qK.o.2.2.1)) λw7 gw=> ?_;have uS:=aV (qK.o.aT gw);clear gw;clear c0 c1 a0 a1 a2 a3 a4 a5 a6 a7;have⟨c0,c1⟩:=aZ uS.o.1;have⟨a0,a1,a2,a3,a4,a5,a6,a7⟩:=bz uS.o.2.1;go_wp2;go_ret;exact⟨rfl,uS.o.2.2.1⟩
     |true=>
      by_cases BC:(m.toList==f.toList)=true
      .obtain rfl:true=b:=by rw[<-HB.o];simp[j8,Ab.o,hl,hnm,ni.o,tO.o,BC]
       go_wp2_with fail;refine dx (HTO.o _ _ (hM.aT qK.o.2.2.1) (jL.o.aT qK.o.2.2.1)) λw7 gw=> ?_;have uS:=aV (qK.o.aT gw);clear gw;clear c0 c1 a0 a1 a2 a3 a4 a5 a6 a7;have⟨c0,c1⟩:=aZ uS.o.1;have⟨a0,a1,a2,a3,a4,a5,a6,a7⟩:=bz uS.o.2.1;go_wp2;go_ret;exact⟨rfl,uS.o.2.2.1⟩
      obtain rfl:false=b:=by rw[<-HB.o];simp[j8,Ab.o,hl,hnm,ni.o,tO.o,BC]
      go_wp2;go_ret;exact⟨rfl,qK.o.2.2.1⟩
    |true=>
     by_cases hnf:(n.toList==f.toList)=true
     .cases i3 with
      |false=>
       obtain rfl:true=b:=by rw[<-HB.o];simp[j8,Ab.o,hl,hnm,ni.o,hnf,tO.o]
       go_wp2_with fail;refine dx (HTO.o _ _ (hM.aT qK.o.2.2.1) (jL.o.aT qK.o.2.2.1)) λw7 gw=> ?_;have uS:=aV (qK.o.aT gw);clear gw;clear c0 c1 a0 a1 a2 a3 a4 a5 a6 a7;have⟨c0,c1⟩:=aZ uS.o.1;have⟨a0,a1,a2,a3,a4,a5,a6,a7⟩:=bz uS.o.2.1;go_wp2;go_ret;exact⟨rfl,uS.o.2.2.1⟩
      |true=>
       by_cases BC:(m.toList==f.toList)=true
       .obtain rfl:true=b:=by rw[<-HB.o];simp[j8,Ab.o,hl,hnm,ni.o,hnf,tO.o,BC]
        go_wp2_with fail;refine dx (HTO.o _ _ (hM.aT qK.o.2.2.1) (jL.o.aT qK.o.2.2.1)) λw7 gw=> ?_;have uS:=aV (qK.o.aT gw);clear gw;clear c0 c1 a0 a1 a2 a3 a4 a5 a6 a7;have⟨c0,c1⟩:=aZ uS.o.1;have⟨a0,a1,a2,a3,a4,a5,a6,a7⟩:=bz uS.o.2.1;go_wp2;go_ret;exact⟨rfl,uS.o.2.2.1⟩
       obtain rfl:false=b:=by rw[<-HB.o];simp[j8,Ab.o,hl,hnm,ni.o,hnf,tO.o,BC]
       go_wp2;go_ret;exact⟨rfl,qK.o.2.2.1⟩
     obtain rfl:false=b:=by rw[<-HB.o];simp[j8,Ab.o,hl,hnm,ni.o,hnf]
     go_wp2;go_ret;exact⟨rfl,qK.o.2.2.1⟩
  have qgf:fieldAt c f<c.aW.length:=wV c f;cases i1 with
  |false=>
   go_wp2_with fail;refine dx (iY.o _ (jL.o.aT qK.o.2.2.1)) λw7 gw=> ?_;have uS:=aV (qK.o.aT gw);clear gw;clear c0 c1 a0 a1 a2 a3 a4 a5 a6 a7;have⟨c0,c1⟩:=aZ uS.o.1;have⟨a0,a1,a2,a3,a4,a5,a6,a7⟩:=bz uS.o.2.1;obtain rfl:false=b:=by rw[<-HB.o];simp[j8,Ab.o]
   go_wp2;go_ret;exact⟨rfl,uS.o.2.2.1⟩
  |true=>
   have⟨q,fd,hq,hfd,hfn⟩:=BR Ab.o;obtain rfl:(q:Int)=p1:=by rw[<-Np.o,hq,if_neg (by omega)]
   have hql:=(ag.1 hfd).1;obtain⟨bl,off,rfl,hMb,hbl,hcell⟩:=wM.o (by omega);obtain⟨cs,⟨rfl,_⟩,hfc⟩:=hcell q fd hfd;have hc1:cC w bl (off+q*4+1) fd.type.bg:=hfc 1 _ rfl;have hkd:xA c f=fd.type.bg:=by unfold xA;rw[hq];simp[hfd]
   go_wp2_with fail;refine dx (iY.o _ (jL.o.aT qK.o.2.2.1)) λw7 gw=> ?_;have uS:=aV (qK.o.aT gw);clear gw;clear c0 c1 a0 a1 a2 a3 a4 a5 a6 a7;have⟨c0,c1⟩:=aZ uS.o.1;have⟨a0,a1,a2,a3,a4,a5,a6,a7⟩:=bz uS.o.2.1;have hc2:cC w7 bl (off+q*4+1) fd.type.bg:=(uS.o.2.2.1.cell (p:=⟨bl,off+q*4+1,none⟩) hbl).trans hc1;clear hc1 hcell hfc hfn hq hfd;by_cases BD:fd.type.bg<=3
   .obtain rfl:true=b:=by rw[<-HB.o];simp[j8,Ab.o,hkd,BD]
    go_wp2;go_ret;exact⟨rfl,uS.o.2.2.1⟩
   obtain rfl:false=b:=by rw[<-HB.o];simp[j8,Ab.o,hkd,BD]
   go_wp2;go_ret;exact⟨cL (by simp[BD]),uS.o.2.2.1⟩
def ur {a b:bS}:dh a b=true↔a=b:=⟨λh=>rM h,λh=>by subst h;simp[dh]⟩
def Dt {a b:bS}(h:a≠b):dh a b=false:=by
 cases hq:dh a b with
 |false=>rfl
 |true=>exact absurd (ur.1 hq) h
def dA(x:bK)(f:bJ):List bJ:=
 if !(dh f.aX x.field)||decide (x.bg=1)then[f]
 else if x.bg=2 then[]else if x.bg=3 then[⟨x.aX,f.type,f.indexed⟩]else if x.bg=4 then[⟨f.aX,x.type,false⟩]
 else if x.bg=5 then[⟨x.aX,x.type,false⟩,⟨x.more,x.type,false⟩]else[⟨f.aX,f.type,!f.indexed⟩]
def J3(x:bK):List bJ:=if x.bg=1 then[⟨x.aX,x.type,false⟩]else[]
def dk(c:bI)(x:bK):bI:=⟨c.aX,c.aW.flatMap (dA x)++J3 x⟩
def fe(c:bI):cj c=true↔bF c.aX=true/\c.aW.length<=8/\(∀f∈c.aW,cT f=true)/\(c.aW.map (·.aX)).Nodup:=by
 rw[cw];refine and_congr_right λ_=>and_congr_right λ_=>⟨λh=>⟨λf hf=> ?_,?_⟩,λ⟨h1,h2⟩j f hj hf=>⟨h1 f (ai hf),?_⟩⟩
 .have⟨i,hi⟩:=aP hf;exact(h i f (ag.1 hi).1 hi).1
 .rw[List.Nodup,List.pairwise_iff_getElem];intro i j hi hj hij e;simp only[aL]at hi hj;simp only[List.getElem_map]at e;have a1:=(h i _ hi (af hi)).2;have a2:=(h j _ hj (af hj)).2;rw[e]at a1;omega
 refine idxOf_hit (k:=j) (x:=f) (λy hy=> ?_) hf (ur.2 rfl);refine Dt λe=> ?_;have⟨i,hi⟩:=aP hy;have wJ:i<j:=by
  have:=(ag.1 hi).1;simp at this;omega
 have ZN:=mE hi;rw[List.Nodup,List.pairwise_iff_getElem]at h2;have hl:=(ag.1 ZN);have hl2:=(ag.1 hf);refine h2 i j (by simpa using hl.1) (by simpa using hl2.1) wJ ?_;simp only[List.getElem_map,hl.2,hl2.2,e]
structure jy(c:bI)(s:bS)(pre:List bJ)(f:bJ)(post:List bJ):Prop where
 eq:c.aW=pre++f::post
 aX:f.aX=s
 at_:fieldAt c s=pre.length
 pre_:∀g∈pre,g.aX≠s
 post_:∀g∈post,g.aX≠s
def ox(hc:cj c=true)(h:hasB c s=true):∃pre f post,jy c s pre f post:=by
 obtain⟨i,f,ha,hf,rfl⟩:=BR h;have⟨hi,he⟩:=ag.1 hf;have Tt:=((fe c).1 hc).2.2.2;have Yj:c.aW=c.aW.take i++f::c.aW.drop (i+1):=by
  rw[<-he,List.getElem_cons_drop,List.take_append_drop]
 rw[Yj]at Tt;simp only[List.map_append,List.map_cons,List.nodup_append,List.nodup_cons]at Tt;refine⟨c.aW.take i,f,c.aW.drop (i+1),Yj,rfl,by rw[ha,aK];omega,λg hg e=> ?_,λg hg e=> ?_⟩
 .exact Tt.2.2 g.aX (List.mem_map_of_mem hg) f.aX (List.mem_cons_self) e
 exact Tt.2.1.1 (e▸List.mem_map_of_mem (f:=λg:bJ=>g.aX) hg)
def BU {g:bJ}(h:g.aX≠x.field):dA x g=[g]:=by
 unfold dA;simp[Dt h]
def sB {l:List bJ}(h:∀g∈l,g.aX≠x.field):l.flatMap (dA x)=l:=by
 induction l with
 |nil=>rfl
 |cons a r ih=>
  rw[List.flatMap_cons,BU (h a List.mem_cons_self),ih λg hg=>h g (List.mem_cons_of_mem _ hg)];rfl
def jQ(x:bK)(f:bJ):List bJ:=
 if x.bg=2 then[]else if x.bg=3 then[⟨x.aX,f.type,f.indexed⟩]else if x.bg=4 then[⟨f.aX,x.type,false⟩]
 else if x.bg=5 then[⟨x.aX,x.type,false⟩,⟨x.more,x.type,false⟩]else[⟨f.aX,f.type,!f.indexed⟩]
def gE {pre post:List bJ}(h:jy c x.field pre f post)(hk:x.bg≠1):dk c x=⟨c.aX,pre++jQ x f++post⟩:=by
 have e:dA x f=jQ x f:=by unfold dA jQ;rw[h.aX];simp[ur.2 rfl,hk]
 unfold dk J3;rw[h.eq,List.flatMap_append,List.flatMap_cons,sB h.pre_,sB h.post_,e];simp[hk]
def qw(hk:x.bg=1):dk c x=⟨c.aX,c.aW++[⟨x.aX,x.type,false⟩]⟩:=by
 have e:∀l:List bJ,l.flatMap (dA x)=l:=λl=>by
  induction l with
  |nil=>rfl
  |cons a r ih=>rw[List.flatMap_cons,ih];simp[dA,hk]
 unfold dk J3;rw[e,if_pos hk]
def GS(h:hasB c s=false):∀g∈c.aW,g.aX≠s:=by
 intro g hg e;have⟨i,hi⟩:=aP hg;have:=uV hi;rw[e]at this;unfold hasB at h;simp at h;omega
def nz {pre post T7:List bJ}(hc:cj ⟨nm,pre++f::post⟩=true)(hl:pre.length+T7.length+post.length<=8)(hm:∀g∈T7,cT g=true)(hn:(T7.map (·.aX)).Nodup)(hd:∀g∈T7,∀k,k∈pre\/k∈post->k.aX≠g.aX):
 cj ⟨nm,pre++T7++post⟩=true:=by
 have⟨h1,h2,h3,h4⟩:=(fe _).1 hc;refine(fe _).2 ⟨h1,by simp;omega,λg hg=> ?_,?_⟩
 .simp only[aI]at hg;rcases hg with(hg|hg)|hg
  .exact h3 g (by simp[hg])
  .exact hm g hg
  exact h3 g (by simp[hg])
 simp only[List.map_append,List.map_cons,List.nodup_append,List.nodup_cons]at h4⊢;refine⟨⟨h4.1,hn,λa ha b hb=> ?_⟩,h4.2.1.2,λa ha b hb=> ?_⟩
 .obtain⟨g,hg,rfl⟩:=aQ.1 ha;obtain⟨k,hk,rfl⟩:=aQ.1 hb;exact hd k hk g (.inl hg)
 rcases aI.1 ha with ha|ha
 .exact h4.2.2 a ha b (List.mem_cons_of_mem _ hb)
 obtain⟨g,hg,rfl⟩:=aQ.1 ha;obtain⟨k,hk,rfl⟩:=aQ.1 hb;exactλe=>hd g hg k (.inr hk) e.symm
def u6(h:cT f=true):bF f.aX=true/\bO f.type=true/\(f.indexed=true->f.type.bg<=3):=by
 unfold cT at h;simp only[aF,Bool.or_eq_true,Bool.not_eq_true',decide_eq_true_eq]at h;exact⟨h.1.1,h.1.2,λhi=>by rcases h.2 with h|h;rw[hi]at h;cases h;exact h⟩
def nA {n:bS}{t:cq}{i:Bool}(hn:bF n=true)(ht:bO t=true)(hi:i=true->t.bg<=3):cT ⟨n,t,i⟩=true:=by
 unfold cT;cases i with
 |false=>simp[hn,ht]
 |true=>simp[hn,ht,hi rfl]
def Du(hc:cj c=true)(hp:ru c x)(hb:j8 c x=true):cj (dk c x)=true:=by
 have⟨h1,h2,h3,h4⟩:=(fe _).1 hc;have hk:x.bg=1\/x.bg=2\/x.bg=3\/x.bg=4\/x.bg=5\/x.bg=6:=by have:=hp.sh;simp only[ow]at this;omega
 by_cases hk1:x.bg=1
 .rw[qw hk1];have hb':=hb;unfold j8 at hb';rw[if_pos hk1]at hb';simp only[aF,decide_eq_true_eq,Bool.not_eq_true']at hb';have hno:=GS hb'.2;refine(fe _).2 ⟨h1,by simp;omega,λg hg=> ?_,?_⟩
  .simp only[aI,aO,List.not_mem_nil,or_false]at hg;rcases hg with hg|rfl
   .exact h3 g hg
   exact nA (hp.aX (.inl hk1)) (hp.type (.inl hk1)) (λh=>by cases h)
  simp only[List.map_append,List.map_cons,List.map_nil,List.nodup_append,List.nodup_cons];refine⟨h4,⟨by simp,by simp⟩,λa ha b hb=> ?_⟩;obtain⟨g,hg,rfl⟩:=aQ.1 ha;simp at hb;subst hb;exact hno g hg
 have hf:hasB c x.field=true:=by
  have hb':=hb;unfold j8 at hb';rw[if_neg hk1]at hb';rcases hk with h|h|h|h|h|h
  .exact absurd h hk1
  all_goals simp[h]at hb';first|exact hb'|exact hb'.1|exact hb'.1.1|exact hb'.1.1.1.1
 have⟨pre,f,post,ha⟩:=ox hc hf;rw[gE ha hk1];have hc':cj ⟨c.aX,pre++f::post⟩=true:=by rw[<-ha.eq];exact hc
 have hlen:pre.length+1+post.length<=8:=by have:=h2;rw[ha.eq]at this;simp at this;omega
 have hfr:=u6 (h3 f (by rw[ha.eq];simp));have hold:∀k,k∈pre\/k∈post->k∈c.aW/\k.aX≠x.field:=λk hk=>by
  rcases hk with hk|hk
  .exact⟨by rw[ha.eq];simp[hk],ha.pre_ k hk⟩
  exact⟨by rw[ha.eq];simp[hk],ha.post_ k hk⟩
 unfold j8 at hb;rw[if_neg hk1]at hb;rcases hk with hk|hk|hk|hk|hk|hk
 .exact absurd hk hk1
 .have e:jQ x f=[]:=by simp[jQ,hk]
  rw[e];exact nz hc' (by simp;omega) (λg hg=>by simp at hg) (by simp) (λg hg=>by simp at hg)
 .have e:jQ x f=[⟨x.aX,f.type,f.indexed⟩]:=by simp[jQ,hk]
  simp[hk]at hb;rw[e];refine nz hc' (by simp;omega) (λg hg=> ?_) (by simp) (λg hg k hk=> ?_)
  .simp at hg;subst hg;exact nA (hp.aX (.inr (.inl hk))) hfr.2.1 hfr.2.2
  simp at hg;subst hg;exact GS hb.2 k (hold k hk).1
 .have e:jQ x f=[⟨f.aX,x.type,false⟩]:=by simp[jQ,hk]
  rw[e];refine nz hc' (by simp;omega) (λg hg=> ?_) (by simp) (λg hg k hk=> ?_)
  .simp at hg;subst hg;exact nA hfr.1 (hp.type (.inr (.inl hk))) (λh=>by cases h)
  simp at hg;subst hg;have:=(hold k hk).2;rw[<-ha.aX]at this;exact this
 .have e:jQ x f=[⟨x.aX,x.type,false⟩,⟨x.more,x.type,false⟩]:=by simp[jQ,hk]
  simp only[hk]at hb;simp at hb;have hne:x.aX≠x.more:=λh=>hb.1.1.2 (by rw[h]);have ho:∀(s:bS),(hasB c s=false\/s.toList=x.field.toList)->∀k,k∈pre\/k∈post->k.aX≠s:=λs hs k hk=>by
   rcases hs with hs|hs
   .exact GS hs k (hold k hk).1
   have:s=x.field:=rM (by simp[hs]);rw[this];exact(hold k hk).2
  rw[e];have hl8:c.aW.length<8:=by have:=hb.1.1.1.2;omega
  have hl9:pre.length+1+post.length<8:=by have:=hl8;rw[ha.eq]at this;simp at this;omega
  refine nz hc' (by simp;omega) (λg hg=> ?_) (by simp[hne]) (λg hg k hk=> ?_)
  .simp at hg;rcases hg with rfl|rfl
   .exact nA (hp.aX (.inr (.inr hk))) (hp.type (.inr (.inr hk))) (λh=>by cases h)
   exact nA (hp.more hk) (hp.type (.inr (.inr hk))) (λh=>by cases h)
  simp at hg;rcases hg with rfl|rfl
  .exact ho _ hb.1.2 k hk
  exact ho _ hb.2 k hk
 have e:jQ x f=[⟨f.aX,f.type,!f.indexed⟩]:=by simp[jQ,hk]
 simp[hk]at hb;have BD:f.type.bg<=3:=by
  have h:=hb.2;unfold xA at h;rw[ha.at_,ha.eq]at h;simpa using h
 rw[e];refine nz hc' (by simp;omega) (λg hg=> ?_) (by simp) (λg hg k hk=> ?_)
 .simp at hg;subst hg;exact nA hfr.1 hfr.2.1 (λ_=>BD)
 simp at hg;subst hg;have:=(hold k hk).2;rw[<-ha.aX]at this;exact this
inductive my(c:bI):bG->cq->Prop
 |num(n:Int):0<=n->n<=9->my c (nE n) ⟨1,0⟩
 |txt(s:List UInt8):s∈([[120],[45],[98],[110,111],[97,32,98]]:List (List UInt8))->my c (tE s) ⟨2,0⟩
 |fld(f:bJ)(i:Nat):fieldAt c f.aX=i->c.aW[i]? =some f->my c (.mk 3 0 f.aX []) f.type
 |ari(s:List UInt8)(a b:bG):s=[42]\/s=[45]\/s=[47]->my c a ⟨1,0⟩->my c b ⟨1,0⟩->my c (JR s a b) ⟨1,0⟩
 |cat(a b:bG):my c a ⟨2,0⟩->my c b ⟨2,0⟩->my c (JR [38] a b) ⟨2,0⟩
 |cmp(s:List UInt8)(a b:bG):s=[61]\/s=[62]->my c a ⟨1,0⟩->my c b ⟨1,0⟩->my c (JR s a b) ⟨1,0⟩
 |len(a:bG):my c a ⟨2,0⟩->my c (nt [108,101,110] [a]) ⟨1,0⟩
 |text(a:bG):my c a ⟨1,0⟩->my c (nt [116,101,120,116] [a]) ⟨2,0⟩
 |left(a b:bG):my c a ⟨2,0⟩->my c b ⟨1,0⟩->my c (nt [108,101,102,116] [a,b]) ⟨2,0⟩
 |from_(a b:bG):my c a ⟨2,0⟩->my c b ⟨1,0⟩->my c (nt [102,114,111,109] [a,b]) ⟨2,0⟩
 |find(a b:bG):my c a ⟨2,0⟩->my c b ⟨2,0⟩->my c (nt [102,105,110,100] [a,b]) ⟨1,0⟩
 |ite(a b d:bG)(p:Int):p=1\/p=2->my c a ⟨1,0⟩->my c b ⟨p,0⟩->my c d ⟨p,0⟩->my c (nt [105,102] [a,b,d]) ⟨p,0⟩
def GU(hc:cj c=true)(hn:∀f∈c.aW,f.aX.data.toList∈names9)(hf:f∈c.aW):my c (tX f.aX.data.toList) f.type:=by
 have⟨h1,h2,_⟩:=rK _ (hn f hf);have⟨i,h3,h4⟩:=xx hc hf;unfold tX;rw[if_neg h1,if_neg h2];unfold fE;rw[J0];exact .fld f i h3 h4
def On(hc:cj c=true)(hn:∀f∈c.aW,f.aX.data.toList∈names9)(h:uq c s):s.data.toList∈[55]::names9/\my c (tX s.data.toList) ⟨1,0⟩:=by
 rcases h with rfl|⟨f,hf,ht,rfl⟩
 .exact⟨by decide, .num 7 (by omega) (by omega)⟩
 exact⟨List.mem_cons_of_mem _ (hn f hf),ht▸GU hc hn hf⟩
def J4(hc:cj c=true)(hn:∀f∈c.aW,f.aX.data.toList∈names9)(h:qu c s):s.data.toList∈[34,97,32,98,34]::names9/\my c (tX s.data.toList) ⟨2,0⟩:=by
 rcases h with rfl|⟨f,hf,ht,rfl⟩
 .exact⟨by decide, .txt [97,32,98] (by decide)⟩
 exact⟨List.mem_cons_of_mem _ (hn f hf),ht▸GU hc hn hf⟩
def Sm {num txt:bG}(hx:my c num ⟨1,0⟩)(hy:my c txt ⟨2,0⟩):∀x∈pE num txt,my c x ⟨1,0⟩:=by
 intro x hm;simp only[pE,aO,List.not_mem_nil,or_false]at hm;rcases hm with rfl|rfl|rfl|rfl|rfl|rfl|rfl
 .exact .num 3 (by omega) (by omega)
 .exact hx
 .exact .ari _ _ _ (.inr (.inl rfl)) (.ari _ _ _ (.inl rfl) hx (.num 2 (by omega) (by omega))) (.num 1 (by omega) (by omega))
 .exact .len _ hy
 .exact .ite _ _ _ 1 (.inl rfl) (.cmp _ _ _ (.inr rfl) hx (.num 2 (by omega) (by omega))) hx (.ari _ _ _ (.inr (.inl rfl)) (.num 0 (by omega) (by omega)) hx)
 .exact .find _ _ (.txt _ (by decide)) hy
 exact .ari _ _ _ (.inr (.inr rfl)) hx hx
def Oo {num txt:bG}(hx:my c num ⟨1,0⟩)(hy:my c txt ⟨2,0⟩):∀x∈nu num txt,my c x ⟨2,0⟩:=by
 intro x hm;simp only[nu,aO,List.not_mem_nil,or_false]at hm;rcases hm with rfl|rfl|rfl|rfl|rfl|rfl|rfl
 .exact .txt _ (by decide)
 .exact hy
 .exact .cat _ _ (.cat _ _ hy (.txt _ (by decide))) hy
 .exact .text _ hx
 .exact .left _ _ hy (.num 2 (by omega) (by omega))
 .exact .from_ _ _ hy (.num 3 (by omega) (by omega))
 exact .ite _ _ _ 2 (.inr rfl) (.cmp _ _ _ (.inl rfl) hx (.num 1 (by omega) (by omega))) hy (.txt _ (by decide))
structure Oq(c:bI)(t:cq)(s:List UInt8)(x:bG):Prop where
 parse:fj s=some x
 bg:kg c x t
 ty:my c x t
def Dv(hc:cj c=true)(hn:∀f∈c.aW,f.aX.data.toList∈names9){t:cq}(h:jb c t s)(hs:s.data.toList≠[]):∃x,Oq c t s.data.toList x:=by
 rcases h with⟨rfl,num,txt,h1,h2,h3⟩|⟨rfl,num,txt,h1,h2,h3⟩|⟨h1,h2,h3⟩
 .have⟨a1,a2⟩:=J1 hc hn h1;have⟨b1,b2⟩:=Dq hc hn h2;have hm:s.data.toList∈Va num.data.toList txt.data.toList:=by
   simp only[pK,aO,List.not_mem_nil,or_false]at h3;rcases h3 with rfl|rfl|rfl|rfl|rfl|rfl|rfl|rfl
   .exact absurd rfl hs
   all_goals simp[Va,Joins.data_append]
  have hall:=List.all_eq_true.1 (List.all_eq_true.1 N3 _ a1) _ b1;have⟨x,hx,hok⟩:=Oj hall rfl hm;exact⟨x,tY hok,Li a2 b2 x hx,Sm (On hc hn h1).2 (J4 hc hn h2).2 x hx⟩
 .have⟨a1,a2⟩:=J1 hc hn h1;have⟨b1,b2⟩:=Dq hc hn h2;have hm:s.data.toList∈Gy num.data.toList txt.data.toList:=by
   simp only[ny,aO,List.not_mem_nil,or_false]at h3;rcases h3 with rfl|rfl|rfl|rfl|rfl|rfl|rfl|rfl
   .exact absurd rfl hs
   all_goals simp[Gy,Joins.data_append]
  have hall:=List.all_eq_true.1 (List.all_eq_true.1 K6 _ a1) _ b1;have⟨x,hx,hok⟩:=Oj hall rfl hm;exact⟨x,tY hok,GQ a2 b2 x hx,Oo (On hc hn h1).2 (J4 hc hn h2).2 x hx⟩
 rcases h3 with rfl|⟨f,hf,ht,rfl⟩
 .exact absurd rfl hs
 have h9:=hn f hf;have hok:=List.all_eq_true.1 K7 _ h9;have hk:=xy hc hn hf;have hk2:=GU hc hn hf;have⟨q1,q2,_⟩:=rK _ h9;unfold tX at hk hk2;rw[if_neg q1,if_neg q2,ht]at hk hk2;exact⟨_,tY hok,hk,hk2⟩
def pL(c:bI)(t:cq)(s:bS):Prop:=s.data.toList=[]\/∃x,Oq c t s.data.toList x
def pL.oY {t:cq}(h:pL c t s):sA c t s:=h.imp_right λ⟨x,hx⟩=>⟨x,hx.parse,hx.bg⟩
structure jR(c:bI)(x:bK):Prop where
 pre:ru c x
 dO:pL c x.type x.dO
 cW:pL c x.type x.cW
 name9:(x.bg=1\/x.bg=3\/x.bg=5)->x.aX.data.toList∈names9
 more9:x.bg=5->x.more.data.toList∈names9
structure dE(c:bI):Prop where
 right:cj c=true
 names:∀f∈c.aW,f.aX.data.toList∈names9
 small:c.aX.size<=20
def BV:∀s∈names9,s.length<=20:=by decide
def xD(h:s.data.toList∈names9):s.size<=20:=by have:=BV _ h;rwa [cH]at this
def Lj(hg:jR c x)(hf:f.aX.data.toList∈names9):∀g∈jQ x f,g.aX.data.toList∈names9:=by
 intro g h;unfold jQ at h;split at h
 .simp at h
 split at h
 .rename_i hk;simp at h;subst h;exact hg.name9 (.inr (.inl hk))
 split at h
 .simp at h;subst h;exact hf
 split at h
 .rename_i hk;simp at h;rcases h with rfl|rfl
  .exact hg.name9 (.inr (.inr hk))
  exact hg.more9 hk
 simp at h;subst h;exact hf
def Sn(hs:ow x)(hb:j8 c x=true)(hk1:x.bg≠1):hasB c x.field=true:=by
 have hk:x.bg=1\/x.bg=2\/x.bg=3\/x.bg=4\/x.bg=5\/x.bg=6:=by simp only[ow]at hs;omega
 unfold j8 at hb;rw[if_neg hk1]at hb;rcases hk with h|h|h|h|h|h
 .exact absurd h hk1
 all_goals simp[h]at hb;first|exact hb|exact hb.1|exact hb.1.1|exact hb.1.1.1.1
def Ot(hc:dE c)(hg:jR c x)(hb:j8 c x=true):dE (dk c x):=by
 refine⟨Du hc.right hg.pre hb,?_,hc.small⟩;by_cases hk:x.bg=1
 .rw[qw hk];intro f hf;simp only[aI,aO,List.not_mem_nil,or_false]at hf;rcases hf with hf|rfl
  .exact hc.names f hf
  exact hg.name9 (.inl hk)
 have⟨pre,f,post,ha⟩:=ox hc.right (Sn hg.pre.sh hb hk);rw[gE ha hk];have ji:∀g,g∈pre++f::post->g.aX.data.toList∈names9:=λg hg=>hc.names g (by rw[ha.eq];exact hg);intro g h;simp only[aI]at h;rcases h with(h|h)|h
 .exact ji g (by simp[h])
 .exact Lj hg (ji f (by simp)) g h
 exact ji g (by simp[h])
inductive dX:bI->List bK->bI->Prop
 |nil(c:bI):dX c [] c
 |cons(c d:bI)(x:bK)(l:List bK):jR c x->j8 c x=true->dX (dk c x) l d->dX c (x::l) d
def dX.ok {l:List bK}(h:dX c l d)(hc:dE c):dE d:=by
 induction h with
 |nil c=>exact hc
 |cons c d x l hg hb _ ih=>exact ih (Ot hc hg hb)
def dX.snoc {l:List bK}(h:dX c l d)(hg:jR d x)(hb:j8 d x=true):dX c (l++[x]) (dk d x):=by
 induction h with
 |nil c=>exact .cons _ _ _ _ hg hb (.nil _)
 |cons c d y l h1 h2 _ ih=>exact .cons _ _ _ _ h1 h2 (ih hg hb)
def dX.split {l:List bK}(h:dX c l d)(i:Nat):∃e,dX c (l.take i) e/\dX e (l.drop i) d:=by
 induction h generalizing i with
 |nil c=>exact⟨c,by simpa using dX.nil c,by simpa using dX.nil c⟩
 |cons c d y l h1 h2 h3 ih=>
  cases i with
  |zero=>exact⟨c, .nil c, .cons _ _ _ _ h1 h2 h3⟩
  |succ i=>
   have⟨e,k1,k2⟩:=ih i;exact⟨e, .cons _ _ _ _ h1 h2 k1,k2⟩
def dX.eq {e:bI}{l:List bK}(h:dX c l d)(k:dX c l e):d=e:=by
 induction h with
 |nil c=>cases k;rfl
 |cons c d y l h1 h2 h3 ih=>cases k with|cons _ _ _ _ _ _ k3=>exact ih k3
def qx(hK:W=K)(o:Obj):(W.alloc o).heap[K]? =some o:=by subst hK;exact az W o
def As {α:Type} [bD α]{xs:List α}{cells:Array bt}(css:List (List bt))(hM:¬M K)(hK:cX W K (.cells cells t (0,0)))(hc:cells.toList=css.flatten)(hl:css.length=xs.length)
 (hr:∀(i:Nat)(cs:List bt)(x:α),css[i]? =some cs->xs[i]? =some x->bD.rep M W cs x)(hm:xs.length<=maxLen):aS M W (xL (K,0) xs.length xs.length) xs:=by
 have hsz:∀(n:Nat)(css:List (List bt))(xs:List α),css.length=n->xs.length=n->(∀(i:Nat)(cs:List bt)(x:α),css[i]? =some cs->xs[i]? =some x->bD.rep M W cs x)->css.flatten.length=n*bD.size α:=by
  intro n;induction n with
  |zero=>intro css xs h1 _ _;rw[List.length_eq_zero_iff.1 h1];simp
  |succ n ih=>
   intro css xs h1 h2 h;match css,xs,h1,h2 with
   |c::css,x::xs,h1,h2=>
    rw[List.flatten_cons,aJ,ih css xs (by simpa using h1) (by simpa using h2) (λi cs y hc hy=>h (i+1) cs y (by simpa using hc) (by simpa using hy)),bD.len (h 0 c x rfl rfl),Nat.succ_mul];omega
 refine⟨css,⟨hsz _ css xs hl rfl hr,some ⟨K,0,none⟩,xs.length,rfl,cN,hm,λ_=>⟨K,0,rfl,hM,(ab.1 hK).1,λj u hu=> ?_⟩⟩,hl,hr⟩;rw[Nat.zero_add];rw[<-hc]at hu;exact cell_of_heap hK (by simpa using hu)
def GV(f:bJ):List bt:=[xS f.aX,xI f.type.bg,xI f.type.of,xB f.indexed]
def nB(f:bJ)(hs:f.aX.size<=maxLen)(hM:¬M K)(hK:cX W K (xK #[f.aX,f.type.bg,f.type.of,xB f.indexed] t)):aS M W (xL (K,0) 1 1) [f]:=
 As [GV f] hM hK rfl rfl (λi cs x hc hx=>by
  match i with
  |0=>simp at hc hx;subst hc hx;exact⟨rfl,hs⟩
  |n+1=>simp at hc) (by unfold maxLen;simp)
def GW(f g:bJ)(hs:f.aX.size<=maxLen)(hg:g.aX.size<=maxLen)(hM:¬M K)(hK:cX W K (xK #[f.aX,f.type.bg,f.type.of,xB f.indexed,g.aX,g.type.bg,g.type.of,xB g.indexed] t)):aS M W (xL (K,0) 2 2) [f,g]:=
 As [GV f,GV g] hM hK rfl rfl (λi cs x hc hx=>by
  match i with
  |0=>simp at hc hx;subst hc hx;exact⟨rfl,hs⟩
  |1=>simp at hc hx;subst hc hx;exact⟨rfl,hg⟩
  |n+2=>simp at hc) (by unfold maxLen;simp)
def GX(x:bK)(f:bJ)(hk:x.bg=1\/x.bg=2\/x.bg=3\/x.bg=4\/x.bg=5\/x.bg=6)(hs:f.aX.size<=maxLen)(hs1:x.aX.size<=maxLen)(hs2:x.more.size<=maxLen)(M:bY)(w:bq)(hM:Bd M w):
 xG 273 #[.agg #[xS f.aX,xI f.type.bg,xI f.type.of,xB f.indexed], .agg #[xI x.bg,xS x.field,xS x.aX,xS x.more,xI x.type.bg,xI x.type.of,xS x.dO,xS x.cW]] w λv w'=>aS M w' v (dA x f):=by
 have Yk:∀K,w.heap.size<=K->¬M K:=λK h hm=>by have:=hM K hm;omega
 obtain⟨k,fi,n,m,⟨tk,tf⟩,e,o⟩:=x;obtain⟨fn,⟨fk,fo⟩,ix⟩:=f;dsimp only at*;by_cases hq:(fn.toList==fi.toList)=true
 .rcases hk with rfl|rfl|rfl|rfl|rfl|rfl
  .have ht:dA ⟨1,fi,n,m,⟨tk,tf⟩,e,o⟩ ⟨fn,⟨fk,fo⟩,ix⟩=[⟨fn,⟨fk,fo⟩,ix⟩]:=by simp[dA]
   rw[ht];have HT:=aV ht;go_enter func273,ntmps273;go_wp2;go_ret;exact⟨_,rfl,nB ⟨fn,⟨fk,fo⟩,ix⟩ hs (Yk _ (by omega)) (qx (by simp) _),(by repeat(first|exact ay _ _|refine Below.setCell ?_ (by simp<;>omega) _|refine Below.alloc ?_ (by simp<;>omega) _))⟩
  .have ht:dA ⟨2,fi,n,m,⟨tk,tf⟩,e,o⟩ ⟨fn,⟨fk,fo⟩,ix⟩=[]:=by simp[dA,dh,hq]
   rw[ht];have HT:=aV ht;go_enter func273,ntmps273;go_wp2;go_ret;exact⟨_,rfl,aS.nil _ _,(by repeat(first|exact ay _ _|refine Below.setCell ?_ (by simp<;>omega) _|refine Below.alloc ?_ (by simp<;>omega) _))⟩
  .have ht:dA ⟨3,fi,n,m,⟨tk,tf⟩,e,o⟩ ⟨fn,⟨fk,fo⟩,ix⟩=[⟨n,⟨fk,fo⟩,ix⟩]:=by simp[dA,dh,hq]
   rw[ht];have HT:=aV ht;go_enter func273,ntmps273;go_wp2;go_ret;exact⟨_,rfl,nB ⟨n,⟨fk,fo⟩,ix⟩ hs1 (Yk _ (by omega)) (qx (by simp) _),(by repeat(first|exact ay _ _|refine Below.setCell ?_ (by simp<;>omega) _|refine Below.alloc ?_ (by simp<;>omega) _))⟩
  .have ht:dA ⟨4,fi,n,m,⟨tk,tf⟩,e,o⟩ ⟨fn,⟨fk,fo⟩,ix⟩=[⟨fn,⟨tk,tf⟩,false⟩]:=by simp[dA,dh,hq]
   rw[ht];have HT:=aV ht;go_enter func273,ntmps273;go_wp2;go_ret;exact⟨_,rfl,nB ⟨fn,⟨tk,tf⟩,false⟩ hs (Yk _ (by omega)) (qx (by simp) _),(by repeat(first|exact ay _ _|refine Below.setCell ?_ (by simp<;>omega) _|refine Below.alloc ?_ (by simp<;>omega) _))⟩
  .have ht:dA ⟨5,fi,n,m,⟨tk,tf⟩,e,o⟩ ⟨fn,⟨fk,fo⟩,ix⟩=[⟨n,⟨tk,tf⟩,false⟩,⟨m,⟨tk,tf⟩,false⟩]:=by simp[dA,dh,hq]
   rw[ht];have HT:=aV ht;go_enter func273,ntmps273;go_wp2;go_ret;exact⟨_,rfl,GW ⟨n,⟨tk,tf⟩,false⟩ ⟨m,⟨tk,tf⟩,false⟩ hs1 hs2 (Yk _ (by omega)) (qx (by simp) _),(by repeat(first|exact ay _ _|refine Below.setCell ?_ (by simp<;>omega) _|refine Below.alloc ?_ (by simp<;>omega) _))⟩
  have ht:dA ⟨6,fi,n,m,⟨tk,tf⟩,e,o⟩ ⟨fn,⟨fk,fo⟩,ix⟩=[⟨fn,⟨fk,fo⟩,!ix⟩]:=by simp[dA,dh,hq]
  rw[ht];have HT:=aV ht;go_enter func273,ntmps273;go_wp2;go_ret;exact⟨_,rfl,nB ⟨fn,⟨fk,fo⟩,!ix⟩ hs (Yk _ (by omega)) (qx (by simp) _),(by repeat(first|exact ay _ _|refine Below.setCell ?_ (by simp<;>omega) _|refine Below.alloc ?_ (by simp<;>omega) _))⟩
 have ht:dA ⟨k,fi,n,m,⟨tk,tf⟩,e,o⟩ ⟨fn,⟨fk,fo⟩,ix⟩=[⟨fn,⟨fk,fo⟩,ix⟩]:=by simp[dA,dh,hq]
 rw[ht];have HT:=aV ht;go_enter func273,ntmps273;go_wp2;go_ret;exact⟨_,rfl,nB ⟨fn,⟨fk,fo⟩,ix⟩ hs (Yk _ (by omega)) (qx (by simp) _),(by repeat(first|exact ay _ _|refine Below.setCell ?_ (by simp<;>omega) _|refine Below.alloc ?_ (by simp<;>omega) _))⟩
def xE(x:bK)(f:bJ):(dA x f).length<=2:=by unfold dA;repeat(first|split|simp)
theorem Dw(x:bK):∀l:List bJ,(l.flatMap (dA x)).length<=2*l.length
 |[]=>by simp
 |f::r=>by rw[List.flatMap_cons,aJ];have:=xE x f;have:=Dw x r;have:(f::r).length=r.length+1:=rfl;omega
def Ll(x:bK){l:List bJ}(h:l[k]? =some f):(l.take k).flatMap (dA x)++dA x f=(l.take (k+1)).flatMap (dA x):=by
 rw[ao,h,List.flatMap_append];simp
def dP(n:bS)(v:bt):Obj:=xK #[n,v] 53
def tQ(x:bK):Obj:=xK #[x.bg,x.field,x.aX,x.more,x.type.bg,x.type.of,x.dO,x.cW] 57
def Vi(w2:bq)(nm:bS)(fs:List bJ)(a:fM)(n cap:Nat)(wr:bq):Prop:=
 fs.length=n/\bP (λi=>i<[w2]) [w2] 78 wr (xL a n cap) fs/\Bx w2 [dP nm (xL a n cap)] wr
def xH(c:bI)(x:bK)(hp:ru c x)(hc:cj c=true)(hcn:c.aX.size<=maxLen)(hb:j8 c x=true)(M:bY)(w:bq)(hM:Bd M w)(fv:bt)(hfs:aS M w fv c.aW):
 xC 205 #[.agg #[xS c.aX,fv], .agg #[xI x.bg,xS x.field,xS x.aX,xS x.more,xI x.type.bg,xI x.type.of,xS x.dO,xS x.cW]] w
  (de w λv w'=>∃kF,v= .tuple #[.agg #[xS c.aX,kF],xI 0]/\aS M w' kF (dk c x).aW):=by
 obtain⟨i0,hi0,hz0,hz1,hz2⟩:=info_parts jx;have h8:=((cw c).1 hc).2.1;have hk:x.bg=1\/x.bg=2\/x.bg=3\/x.bg=4\/x.bg=5\/x.bg=6:=by have:=hp.sh;simp only[ow]at this;omega
 have HR:Hd (∀W fv,aS M W fv c.aW->_):=λW fv h=>lA M fv W c h hcn hc;have HC:Hd (∀W fv,Bd M W->aS M W fv c.aW->_):=λW fv h1 h2=>u4 c x hp hc hcn true hb M W h1 fv h2;have HTU:Hd (∀(f:bJ)(N:bY)(W:bq),f.aX.size<=maxLen->Bd N W->_):=λf N W h1 h2=>GX x f hk h1 hp.s2 hp.s3 N W h2;have iy:Hd (x.aX.size<=maxLen):=hp.s2;have jL:=aV hfs;obtain⟨fa,fc,rfl,hlc,Jo,hcells⟩:=hfs.bj;have wM:=aV hcells;clear hp hfs hcells hb;have Nr:=aV (λ(k:Nat)(f:bJ)(h:c.aW[k]? =some f)=>Ll x h);have tT:=aV (λ(k:Nat)=>Dw x (c.aW.take k));have QI:=aV (xE x);have HAD:Hd (∀(fs:List bJ),(c.aW.take c.aW.length).flatMap (dA x)=fs->(x.bg=1->(dk c x).aW=fs++[⟨x.aX,x.type,false⟩])/\(x.bg≠1->(dk c x).aW=fs)):=λfs h=>by
  rw[List.take_length]at h;unfold dk J3;rw[h];exact⟨λh=>by simp[h],λh=>by simp[h]⟩
 have Jr:Hd (∀f,∃ts,dA x f=ts):=λf=>⟨_,rfl⟩;have HCH:Hd (∀(o:Obj),tQ x=o->o=xK #[xI x.bg,xS x.field,xS x.aX,xS x.more,xI x.type.bg,xI x.type.of,xS x.dO,xS x.cW] 57):=λo h=>h.symm;delta xC;go_in;go_wp2_with fail;refine dx (HR.o _ _ (jL.o.aT (Bx.iN _ _ _ _).1)) λw1 hb1=> ?_;have oS:Hd (Bx w [dP c.aX (xL fa c.aW.length fc),tQ x,dP () ()] w1):=(Bx.iN w _ _ _).aT hb1;clear hb1;obtain⟨c0,c1⟩:=aZ (oS.o.cP rfl);obtain⟨a0,a1,a2,a3,a4,a5,a6,a7⟩:=bz (oS.o.cZ rfl);go_wp2_with fail;refine dx (HC.o _ _ (hM.aT oS.o.1) (jL.o.aT oS.o.1)) λw2 cJ=> ?_;have ij:Hd (Bx w [dP c.aX (xL fa c.aW.length fc),tQ x,dP () ()] w2):=oS.o.aT cJ;clear cJ c0 c1 a0 a1 a2 a3 a4 a5 a6 a7;obtain⟨c0,c1⟩:=aZ (ij.o.cP rfl);have s2:=ij.o.2.1;simp only[aC,aD]at s2;go_wp2;go_loopg [7]c.aW.length(λg iv wr=>∃(k m cap:Nat)(a:fM),k<=c.aW.length/\g=c.aW.length-k/\iv=xI k/\Hd (Vi w2 c.aX ((c.aW.take k).flatMap (dA x)) a m cap wr));exact⟨0,0,0,none,ax _,rfl,rfl,(show Vi _ _ _ _ _ _ _ from⟨rfl,bP.nil _ _ _ _,Bx.fm w2 _⟩)⟩;obtain⟨k,m,cap,a,QH,rfl,rfl,HS⟩:=hrel;have HW:Hd (Bx w [dP c.aX (xL fa c.aW.length fc),tQ x,dP () ()] wr):=ij.o.aT HS.o.2.2.1;clear c0 c1;obtain⟨c0,c1⟩:=aZ (HW.o.cP rfl);obtain⟨a0,a1,a2,a3,a4,a5,a6,a7⟩:=bz (HW.o.cZ rfl);obtain⟨o0,o1⟩:=aZ (HS.o.2.2.cP rfl);have sr:=HS.o.2.2.2.1;simp only[aC,aD]at sr;have hm2:m<=2*c.aW.length:=by
  have:=tT.o k;rw[HS.o.1,aK]at this;omega
 by_cases cE:k<c.aW.length
 .obtain⟨b,off,rfl,hMb,hbl,hcell⟩:=wM.o (by omega);obtain⟨f,hf⟩:=fg c.aW k cE;obtain⟨cs,⟨rfl,hfn⟩,hcs⟩:=hcell k f hf;have C5:Hd (∀W,bC w W->cC W b (off+k*4) (xS f.aX)/\cC W b (off+k*4+1) (xI f.type.bg)/\cC W b (off+k*4+2) (xI f.type.of)/\cC W b (off+k*4+3) (xB f.indexed)):=λW hb=>⟨(hb.cell (p:=⟨b,off+k*4,none⟩) hbl).trans (hcs 0 _ rfl),(hb.cell (p:=⟨b,off+k*4+1,none⟩) hbl).trans (hcs 1 _ rfl),(hb.cell (p:=⟨b,off+k*4+2,none⟩) hbl).trans (hcs 2 _ rfl),(hb.cell (p:=⟨b,off+k*4+3,none⟩) hbl).trans (hcs 3 _ rfl)⟩;obtain⟨q0,q1,q2,q3⟩:=C5.o wr HW.o.1;have qad:=aV (Nr.o k f hf);obtain⟨ts,hts⟩:=Jr.o f;have Ac:=aV hts;have hT2:ts.length<=2:=by rw[<-hts];exact QI.o f
  clear hcell hcs hf hts;have BDM:Hd (Bd (cz (xL a m cap) (λi=>i<w2.heap.size+1)) wr.drew):=λi h=>by rcases h with h|h;(have:i<w2.heap.size+1:=h);(show i<wr.heap.size);omega;exact(HS.o.2.1.dC i h).2
  have cI:=aV (HTU.o f _ _ hfn BDM.o);rw[Ac.o]at cI;go_upto_region 9 with fail;go_region_law(first
   |(go_simp;go_at_call 273;refine cI.o.mono ?_;rintro en w3⟨_,rfl,hsl,hb3⟩;obtain⟨ya,yc,rfl,_⟩:=hsl.bj;have gS:=aV hsl;have cR:=aV hb3;have jM:Hd (Bx w2 [dP c.aX (xL a m cap)] w3):=HS.o.2.2.drew.aT hb3;have RT:Hd (bP (λi=>i<w2.heap.size+1) [w2] 78 w3 (xL a m cap) ((c.aW.take k).flatMap (dA x))):=(HS.o.2.1.aT ⟨rfl,rfl,rfl,cN,λ_ _=>rfl⟩:bP _ _ _ wr.drew _ _).aT hb3;have oe:Hd (Bx w [dP c.aX (xL (b,off) c.aW.length fc),tQ x,dP () ()] w3):=ij.o.aT jM.o.1;have b0:=(aZ (oe.o.cP rfl)).1;have b1:=(aZ (oe.o.cP rfl)).2;have p1:oT w3 w2 1 (xL a m cap):=(aZ (jM.o.cP rfl)).2;have s3:=jM.o.2.1;simp only[aC,aD]at s3;clear hsl hb3)
   |(refine ub (α:=bJ) rfl _ _ _ rfl (λi=>i<w2.heap.size+1) [w2] 78 i0 _ 40 underlying51 hi0 hz0 hz1 hz2 rfl (by decide) (.slice a m cap) _ rfl RT.o _ ts rfl gS.o (by rw[HS.o.1];unfold maxLen;omega) (by rw[HS.o.1];omega) (by omega) ?_;rw[HS.o.1];intro a4 c4 w4 FT WH eZ;have Q1:=aV FT;have qZ:Hd (Bx w2 [dP c.aX (xL a m cap)] w4):=jM.o.ej eZ (by simp);have l3:oT w4 w2 1 (xL a m cap):=(aZ (qZ.o.cP rfl)).2;have l4:w4.frozen? (w2,1)=false:=aY (qZ.o.cP rfl) 1;clear FT WH eZ));all_goals
   go_wp2;go_roundg(c.aW.length-(k+1));case measure=>omega
   case rel=>
    refine⟨k+1,m+ts.length,c4,a4,by omega,rfl,by go_num,?_⟩;refine(show Vi _ _ _ _ _ _ _ from⟨?_,?_,?_⟩)
    .rw[<-qad.o,aJ,HS.o.1,Ac.o]
    .rw[<-qad.o,Ac.o];exact Q1.o.ue (p:=⟨w2,1,none⟩) (by simp) (by simp) _
    exact qZ.o.set 0 1 rfl _
 have Yl:k=c.aW.length:=by omega
 by_cases hk1:x.bg=1
 .have hk2:(x.bg==1)=true:=by simpa using hk1
  have CP:=aV (show(dk c x).aW=(c.aW.take k).flatMap (dA x)++[⟨x.aX,x.type,false⟩]by rw[Yl];exact((HAD.o _ rfl).1 hk1));go_wp2_with(at_builtin;refine cA (α:=bJ) rfl _ _ _ rfl (λi=>i<w2.heap.size+1) [w2] 78 i0 _ 40 underlying51 hi0 hz0 hz1 hz2 rfl (by decide) (.slice a m cap) _ rfl (HS.o.2.1.alloc _) (λ_=>True) _ _ (⟨x.aX,x.type,false⟩:bJ) rfl (dj _ _ _ _ rfl trivial) ⟨rfl,iy.o⟩ (by rw[HS.o.1];unfold maxLen;omega) (by rw[HS.o.1];omega) (by simp;omega) ?_;rw[HS.o.1];intro a4 c4 w4 FT WH eZ;have Q1:=aV FT;have qZ:Hd (Bx w2 [dP c.aX (xL a m cap)] w4):=(HS.o.2.2.alloc _).ej eZ (by simp);have nj:Hd (Bx w [dP c.aX (xL fa c.aW.length fc),tQ x,dP () ()] w4):=ij.o.aT qZ.o.1;have l3:oT w4 w2 1 (xL a m cap):=(aZ (qZ.o.cP rfl)).2;have l4:w4.frozen? (w2,1)=false:=aY (qZ.o.cP rfl) 1;have l5:oT w4 w2 0 (xS c.aX):=(aZ (qZ.o.cP rfl)).1;have r0:=(aZ (nj.o.im rfl)).1;have r1:=(aZ (nj.o.im rfl)).2;obtain⟨g0,g1⟩:=nZ (nj.o.im rfl);have ne2:w.heap.size+1+1≠w2.heap.size:=by omega
                                                                                                                                    clear FT WH eZ);refine ah (v:= .tuple #[.agg #[xS c.aX,xL a4 (m+1) c4],xI 0]) (by simp[results,results205,go_sem,r0,r1]) rfl ⟨_,rfl,⟨_,rfl,?_⟩,?_⟩
  .rw[CP.o];exact(Q1.o.slice (λi h=>h)).ev ((((Ev.eO (M:=λi=>i<w2.heap.size+1) (N:=M) w4 (λi hi=>by have:=hM i hi;omega)).setCell (.inl (by show w2.heap.size<w2.heap.size+1;omega)) _).setCell (.inl (by show w.heap.size+1+1<w2.heap.size+1;omega)) _).setCell (.inl (by show w.heap.size+1+1<w2.heap.size+1;omega)) _)
  exact((nj.o.1.setCell (by show w.heap.size<=w2.heap.size;omega) _).setCell (by show w.heap.size<=w.heap.size+1+1;omega) _).setCell (by show w.heap.size<=w.heap.size+1+1;omega) _
 have hk2:(x.bg==1)=false:=by simpa using hk1
 have CP:=aV (show(dk c x).aW=(c.aW.take k).flatMap (dA x)by rw[Yl];exact((HAD.o _ rfl).2 hk1));obtain⟨r0,r1⟩:=aZ (HW.o.im rfl);obtain⟨g0,g1⟩:=nZ (HW.o.im rfl);have ne2:w.heap.size+1+1≠w2.heap.size:=by omega
 go_wp2_with fail;refine ah (v:= .tuple #[.agg #[xS c.aX,xL a m cap],xI 0]) (by simp[results,results205,go_sem,r0,r1]) rfl ⟨_,rfl,⟨_,rfl,?_⟩,?_⟩
 .rw[CP.o];exact(HS.o.2.1.slice (λi h=>h)).ev (((Ev.eO (M:=λi=>i<w2.heap.size+1) (N:=M) wr (λi hi=>by have:=hM i hi;omega)).setCell (.inl (by show w.heap.size+1+1<w2.heap.size+1;omega)) _).setCell (.inl (by show w.heap.size+1+1<w2.heap.size+1;omega)) _)
 exact(HW.o.1.setCell (by show w.heap.size<=w.heap.size+1+1;omega) _).setCell (by show w.heap.size<=w.heap.size+1+1;omega) _
def eo(M:bY)(w:bq)(n:Nat):Nat->Prop:=λi=>M i\/(w<=i/\i<↑w+n)
def dH {n:Nat}(h:bC w W):Ev M w (eo M w n) W:=⟨bh.bA h,λi hi=>hi.imp_right λh=>h.1⟩
def dZ {n:Nat}(hM:Bd M w)(h:w.heap.size+n<=W):Bd (eo M w n) W:=λi hi=>by rcases hi with hi|hi;(have:=hM i hi;omega);omega
def fx {n:Nat}(W:bq):Ev (eo M w n) W M W:=Ev.eO W λi hi=> .inl hi
def dG(n:bS)(fv cv:bt):Obj:=xK #[n,fv,cv] 72
def bM(h:W.heap[g]? =some (xK #[c0,c1,c2] t)):W.cell? (g,0)=some c0/\W.cell? (g,1)=some c1/\W.cell? (g,2)=some c2:=by simp[World.cell?,h]
def dX.aX {l:List bK}(h:dX c l d):d.aX=c.aX:=by
 induction h with
 |nil c=>rfl
 |cons c d x l _ _ _ ih=>exact ih
def xJ {e:bI}{l:List bK}(h:dX c (l.take k) e)(ha:dX c l d)(hx:l[k]? =some x):jR e x/\j8 e x=true/\dX c (l.take (k+1)) (dk e x):=by
 have⟨e',h1,h2⟩:=ha.split k;obtain rfl:=h.eq h1;have hd:l.drop k=x::l.drop (k+1):=by
  have⟨hl,he⟩:=ag.1 hx;rw[List.drop_eq_getElem_cons hl,he]
 rw[hd]at h2;cases h2 with
 |cons _ _ _ _ g b _=>exact⟨g,b,by rw[ao,hx];exact h.snoc g b⟩
def u9:(Tryz.prog.info? 57).map (λi=>(i.zero,i.size,i.bytes))=some (some (.agg #[xI 0,"","","",xI 0,xI 0,"",""]),8,104):=by kernel_rfl
def pM {l:List bK}(h:aS M w cv l)(hx:l[k]? =some x):∃b off cap,cv=xL (b,off) l.length cap/\b<w.heap.size/\∀W,bC w W->cC W b (off+k*8) x.bg/\cC W b (off+k*8+1) x.field/\cC W b (off+k*8+2) x.aX/\cC W b (off+k*8+3) x.more/\cC W b (off+k*8+4) x.type.bg/\cC W b (off+k*8+5) x.type.of/\cC W b (off+k*8+6) x.dO/\cC W b (off+k*8+7) x.cW:=by
 obtain⟨a,cap,rfl,hl,_,hc⟩:=h.bj;have hk:=(ag.1 hx).1;obtain⟨b,off,rfl,_,hb,hcell⟩:=hc (by omega);obtain⟨cs,⟨rfl,_⟩,hcs⟩:=hcell k x hx;refine⟨b,off,cap,rfl,hb,λW hB=> ?_⟩;have g:∀j u,([xI x.bg,xS x.field,xS x.aX,xS x.more,xI x.type.bg,xI x.type.of,xS x.dO,xS x.cW]:List bt)[j]? =some u->cC W b (off+k*8+j) u:=λj u hu=>(hB.cell (p:=⟨b,off+k*8+j,none⟩) hb).trans (hcs j u hu);exact⟨g 0 _ rfl,g 1 _ rfl,g 2 _ rfl,g 3 _ rfl,g 4 _ rfl,g 5 _ rfl,g 6 _ rfl,g 7 _ rfl⟩
def Lm(M:bY)(w:bq)(l:bQ)(os:List Obj)(E:Nat)(k:Nat)(nm:bS)(a:fM)(n cap:Nat)(wr:bq):Prop:=
 ∃e:bI,dX l.bu (l.bo.take k) e/\e.aX=nm/\e.aW.length=n/\aS (eo M w 3) wr (xL a n cap) e.aW/\Bx w (os++[dP nm (xL a n cap)]) wr
def Ln(l:bQ)(d:bI)(hc:dE l.bu)(QR:dX l.bu l.bo d)(h5:l.bo.length<=12)(M:bY)(w:bq)(hM:Bd M w)(fv cv:bt)(hfs:aS M w fv l.bu.aW)(hcs:aS M w cv l.bo):
 xG 133 #[.agg #[xS l.bu.aX,fv,cv]] w λv w'=>∃kF,v= .agg #[xS l.bu.aX,kF]/\aS M w' kF d.aW:=by
 have pB:Hd (∀(c:bI)(x:bK)(W:bq)(fv:bt),jR c x->dE c->j8 c x=true->Bd (eo M w 3) W->aS (eo M w 3) W fv c.aW->_):=λc x W fv h1 h2 h3 h4 h5=>xH c x h1.pre h2.right (dD h2.small) h3 (eo M w 3) W h4 fv h5;have iG:Hd (∀k e x,dX l.bu (l.bo.take k) e->l.bo[k]? =some x->dE e/\jR e x/\j8 e x=true/\dX l.bu (l.bo.take (k+1)) (dk e x)):=λk e x h1 h2=>⟨h1.ok hc,xJ h1 QR h2⟩;have WI:Hd (∀e,dX l.bu (l.bo.take l.bo.length) e->e=d):=λe h=>by rw[List.take_length]at h;exact h.eq QR
 have nV:Hd (∀k x,l.bo[k]? =some x->_):=λk x h=>pM hcs h;have jL:=aV hfs;obtain⟨fa,fc,rfl,hlc,Jo,_⟩:=hfs.bj;obtain⟨ca,cc,rfl,WJ,WK,_⟩:=hcs.bj;obtain⟨⟨nm,fs⟩,chs⟩:=l;dsimp only at*;delta xG;go_in;go_wp2;go_loopg [4]chs.length(λg iv wr=>∃(k n cap:Nat)(a:fM),k<=chs.length/\g=chs.length-k/\iv=xI k/\Hd (Lm M w ⟨⟨nm,fs⟩,chs⟩ [dG nm (xL fa fs.length fc) (xL ca chs.length cc),dP () ()] 2 k nm a n cap wr));exact⟨0,fs.length,fc,fa,ax _,rfl,rfl,(show Lm _ _ _ _ _ _ _ _ _ _ _ from⟨⟨nm,fs⟩,by simpa using dX.nil _,rfl,rfl,jL.o.ev (dH (Bx.iN w _ _ _).1),Bx.iN w _ _ _⟩)⟩;obtain⟨k,n,cap,a,QH,rfl,rfl,HS⟩:=hrel;obtain⟨e,hce,hen,hel,hsl,hbx⟩:=HS.o;have dp:=aV hbx;obtain⟨l0,l1,l2⟩:=bM (dp.o.cP rfl);obtain⟨o0,o1⟩:=aZ (dp.o.im rfl);have sr:=dp.o.cM;simp only[aC,aD,aJ]at sr;by_cases cE:k<chs.length
 .obtain⟨x,hx⟩:=fg chs k cE;obtain⟨b,off,cap',hcv,hbl,hcells⟩:=nV.o k x hx;obtain⟨rfl,rfl⟩:=jk hcv;obtain⟨k0,k1,k2,k3⟩:=iG.o k e x hce hx;have qp:=aV k3;obtain⟨q0,q1,q2,q3,q4,q5,q6,q7⟩:=hcells wr dp.o.1;have cI:=aV (pB.o e x wr.drew (xL a n cap) k1 k0 k2 (dZ (W:=wr.drew) hM (by show _<=wr.heap.size;omega)) (hsl.ev ((Ev.refl _ _).drew)));rw[hen]at cI;go_upto_region 5 with fail;go_region_law(first
   |(go_simp;go_at_call 205;refine cI.o.mono ?_;rintro en w3⟨_,rfl,⟨kF,rfl,hsl⟩,hb3⟩;obtain⟨ya,yc,rfl,_⟩:=hsl.bj;have gS:=aV hsl;have cR:Hd (Bx w [dG nm (xL fa fs.length fc) (xL (b,off) chs.length cc),dP () (),dP nm (xL a n cap)] w3):=dp.o.drew.aT hb3;have p0:=(aZ (cR.o.im rfl)).1;have p1:=(aZ (cR.o.im rfl)).2;obtain⟨f0,f1⟩:=nZ (cR.o.im rfl);clear hsl hb3));all_goals
   go_wp2;go_roundg(chs.length-(k+1));case measure=>omega
   case rel=>
    refine⟨k+1,(dk e x).aW.length,yc,ya,by omega,rfl,by go_num,?_⟩;refine(show Lm _ _ _ _ _ _ _ _ _ _ _ from⟨dk e x,qp.o,hen,rfl,?_,?_⟩)
    .exact gS.o.ev ((((Ev.refl _ _).setCell (.inl (.inr ⟨by show w.heap.size<=w.heap.size+1+1;omega,by show w.heap.size+1+1<w.heap.size+3;omega⟩)) _).setCell (.inl (.inr ⟨by show w.heap.size<=w.heap.size+1+1;omega,by show w.heap.size+1+1<w.heap.size+3;omega⟩)) _))
    exact(cR.o.set 2 0 rfl _).set 2 1 rfl _
 have Yl:k=chs.length:=by omega
 obtain rfl:e=d:=WI.o e (by rw[<-Yl];exact hce);have gS:=aV hsl;obtain⟨r0,r1⟩:=aZ (dp.o.cZ rfl);obtain⟨g0,g1⟩:=nZ (dp.o.cZ rfl);subst hel;go_wp2_with fail;refine ah (v:= .agg #[xS nm,xL a e.aW.length cap]) (by simp[results,results133,go_sem,r0,r1]) rfl ⟨_,rfl,⟨_,rfl,?_⟩,?_⟩
 .exact gS.o.ev ((((fx wr).setCell (.inl (.inr ⟨by show w.heap.size<=w.heap.size+1;omega,by show w.heap.size+1<w.heap.size+3;omega⟩)) _).setCell (.inl (.inr ⟨by show w.heap.size<=w.heap.size+1;omega,by show w.heap.size+1<w.heap.size+3;omega⟩)) _))
 exact(dp.o.1.setCell (by show w.heap.size<=w.heap.size+1;omega) _).setCell (by show w.heap.size<=w.heap.size+1;omega) _
def ek(ls:List bQ)(s:bS):Int:=idxOf (λl:bQ=>dh l.bu.aX s) ls
def fp(h:aS M w v ls){l:bQ}(hx:ls[k]? =some l):∃b off cap fa fc ca cc,v=xL (b,off) ls.length cap/\b<w.heap.size/\aS M w (xL fa l.bu.aW.length fc) l.bu.aW/\aS M w (xL ca l.bo.length cc) l.bo/\l.bu.aX.size<=maxLen/\∀W,bC w W->cC W b (off+k*3) l.bu.aX/\cC W b (off+k*3+1) (xL fa l.bu.aW.length fc)/\cC W b (off+k*3+2) (xL ca l.bo.length cc):=by
 obtain⟨a,cap,rfl,hl,_,hc⟩:=h.bj;have hk:=(ag.1 hx).1;obtain⟨b,off,rfl,_,hb,hcell⟩:=hc (by omega);obtain⟨cs,⟨fv,cv,rfl,hf,hcv,hn⟩,hcs⟩:=hcell k l hx;have hf2:=hf;have hc2:=hcv;obtain⟨fa,fc,rfl,_⟩:=hf2.bj;obtain⟨ca,cc,rfl,_⟩:=hc2.bj;refine⟨b,off,cap,fa,fc,ca,cc,rfl,hb,hf,hcv,hn,λW hB=> ?_⟩;have g:∀j u,([xS l.bu.aX,xL fa l.bu.aW.length fc,xL ca l.bo.length cc]:List bt)[j]? =some u->cC W b (off+k*3+j) u:=λj u hu=>(hB.cell (p:=⟨b,off+k*3+j,none⟩) hb).trans (hcs j u hu);exact⟨g 0 _ rfl,g 1 _ rfl,g 2 _ rfl⟩
def iq(v:bt):Obj:=xK #[v] 30
def one_cell(h:W.heap[g]? =some (xK #[c0] t)):W.cell? (g,0)=some c0:=by simp[World.cell?,h]
def xO(M:bY)(v:bt)(w:bq)(ls:List bQ)(aX:bS)(hs:aS M w v ls)(h8:ls.length<=8)(at_:Int)(is:Bool)(HA:Hd ((if ek ls aX<0 then 0 else ek ls aX)=at_))(HI:Hd ((!decide (ek ls aX<0))=is)):
 xC 54 #[.agg #[v],aX] w (di (.tuple #[at_,is]) w):=by
 have HL:Hd (∀k l,ls[k]? =some l->_):=λk l h=>fp hs h;obtain⟨a,cY,rfl,dN,hm,_⟩:=hs.bj;clear hs;delta xC;go_in;go_wp2;go_loopg [4,5,6]ls.length(λg r0 r1 iv wr=>∃k:Nat,k<=ls.length/\g=ls.length-k/\iv=xI k/\r0=xI 0/\r1=xB false/\wr=w.alloc (iq (xL a ls.length cY))/\Hd (∀y∈ls.take k,dh y.bu.aX aX=false));exact⟨0,ax _,rfl,rfl,rfl,rfl,rfl,(show∀y∈_,_ fromλy hy=>by simp at hy)⟩;obtain⟨k,hk,rfl,rfl,rfl,rfl,rfl,HK⟩:=hrel;have hc0:(w.alloc (iq (xL a ls.length cY))).cell? (w,0)=some (xL a ls.length cY):=one_cell (az w _);by_cases cE:k<ls.length
 .have⟨l,hl⟩:=fg ls k cE;have⟨b,off,cap,fa,fc,ca,cc,hv,hbl,_,_,_,hcells⟩:=HL.o k l hl;obtain⟨rfl,rfl⟩:=jk hv;have⟨q0,_,_⟩:=hcells (w.alloc (iq (xL (b,off) ls.length cY))) cU;clear hcells hv;have C6:=aV hl;clear hl;by_cases hq:(l.bu.aX.toList==aX.toList)=true
  .have e0:ek ls aX=k:=idxOf_hit (p:=λl:bQ=>dh l.bu.aX aX) HK.o C6.o hq;have Yn:=aV e0;clear e0;go_wp2;go_ret2;exact⟨BK (by rw[<-HA.o,Yn.o,if_neg (by omega)]) (by rw[<-HI.o,Yn.o];simp),cU⟩
  go_wp2;go_roundg(ls.length-(k+1));case measure=>omega
  case rel=>
   refine⟨k+1,by omega,rfl,by go_num,rfl,rfl,rfl,(show∀y∈_,_ fromλy hy=> ?_)⟩;rw[ao,C6.o]at hy;rcases aI.1 hy with hy|hy
   .exact HK.o y hy
   simp at hy;subst hy;simpa [dh]using hq
 go_wp2;go_ret2;have e0:ek ls aX= -1:=om (p:=λl:bQ=>dh l.bu.aX aX) (by have:=HK.o;rw[show k=ls.length from by omega,List.take_length]at this;exact this);exact⟨BK (by rw[<-HA.o,e0];rfl) (by rw[<-HI.o,e0];rfl),cU⟩
def G4(nm:bS)(fv:bt)(ca:fM)(n cc:Nat)(dB:Int)(h0:0<=dB)(h1:dB<=n)(w:bq):
 xC 137 #[.agg #[nm,fv,xL ca n cc],dB] w (di true w):=by
 delta xC;go_in;go_wp2;go_ret;exact⟨cL (by first|(simp;done)|(simp;omega)),cU⟩
def Vl(M:bY)(w:bq)(os:List Obj)(nm:bS)(d:bI)(K:Nat)(ya:fM)(yc:Nat)(wx:bq):Prop:=
 wx.heap[K]? =some (dP nm (xL ya d.aW.length yc))/\aS (eo M w 3) wx (xL ya d.aW.length yc) d.aW/\Bx w os wx/\↑w+3<=K
def sD(h:cX w3 K (xK #[c0,c1] t))(a b:bt):((w3.setCell (K,0) a).setCell (K,1) b).heap[K]? =some (xK #[a,b] t):=by
 have h1:=aA w3 K 0 _ _ a h;have h2:=aA _ K 1 _ _ b h1;simpa using h2
def Vm(hb:Bx w [o0,o1,o2] w3)(hs:aS (eo M w 3) w3 (xL ya d.aW.length yc) d.aW)(h3:w.heap.size+3<=w3):
 Vl M w [o0,o1,o2] nm d w3 ya yc (w3.alloc (xK #[nm,xL ya d.aW.length yc] 53)):=
 ⟨az w3 _,hs.ev ((Ev.refl _ _).alloc _),hb.alloc _,h3⟩
def Vn(hb:Bx w [o0,o1,o2] w3)(hs:aS (λi=>eo M w 3 i\/i=K) w3 (xL ya d.aW.length yc) d.aW)(hz:cX w3 K (dP () ()))(h3:↑w+3<=K):
 Vl M w [o0,o1,o2] nm d K ya yc ((w3.setCell (K,0) nm).setCell (K,1) (xL ya d.aW.length yc)):=
 ⟨sD hz _ _,(hs.ev (((Ev.refl _ _).setCell (.inl (.inr rfl)) _).setCell (.inl (.inr rfl)) _)).ev (Ev.eO _ λi hi=> .inl hi),hb.ej (B:=K) ((eH.setCell (ae K) _).setCell (ae K) _) h3,h3⟩
def J8(w:bq)(o:Obj):(w.drew.alloc o).heap.size=[w]:=by
 show(w.heap.push o).size=_;simp
def zed(h:Below (w.drew.alloc o).heap.size (w.drew.alloc o) w3):ed w3 w o:=
 (h.block w (by rw[J8];omega)).trans (az w.drew o)
def xQ(l:bQ)(d:bI)(dB:Nat)(hc:dE l.bu)(e:bI)(QR:dX l.bu l.bo e)(hd:dX l.bu (l.bo.take dB) d)(hv:dB<=l.bo.length)(h5:l.bo.length<=12)(M:bY)(w:bq)(hM:Bd M w)(fv cv:bt)(hfs:aS M w fv l.bu.aW)(hcs:aS M w cv l.bo):
 xG 138 #[.agg #[l.bu.aX,fv,cv],dB] w λv w'=>∃kF,v= .tuple #[.agg #[l.bu.aX,kF],true]/\aS M w' kF d.aW:=by
 have pB:Hd (∀(c:bI)(x:bK)(N:bY)(W:bq)(fv:bt),jR c x->dE c->j8 c x=true->Bd N W->aS N W fv c.aW->_):=λc x N W fv h1 h2 h3 h4 h5=>xH c x h1.pre h2.right (dD h2.small) h3 N W h4 fv h5;have iG:Hd (∀k e x,dX l.bu (l.bo.take k) e->l.bo[k]? =some x->dE e/\jR e x/\j8 e x=true/\dX l.bu (l.bo.take (k+1)) (dk e x)):=λk e x h1 h2=>⟨h1.ok hc,xJ h1 QR h2⟩;have WI:Hd (∀e,dX l.bu (l.bo.take dB) e->e=d):=λe h=>h.eq hd;have nV:Hd (∀k x,l.bo[k]? =some x->_):=λk x h=>pM hcs h;have jL:=aV hfs;obtain⟨fa,fc,rfl,hlc,Jo,_⟩:=hfs.bj;obtain⟨ca,cc,rfl,WJ,WK,_⟩:=hcs.bj;clear hfs hcs QR hc hd;obtain⟨⟨nm,fs⟩,chs⟩:=l;dsimp only at*;delta xG;go_in;go_wp2;go_loopg [5,7,8,9]dB(λg r5 iv _ _ wr=>∃(k n cap:Nat)(a:fM),k<=dB/\g=dB-k/\iv=xI k/\r5=xB false/\Hd (Lm M w ⟨⟨nm,fs⟩,chs⟩ [dG nm (xL fa fs.length fc) (xL ca chs.length cc),dP () ()] 2 k nm a n cap wr));exact⟨0,fs.length,fc,fa,ax _,rfl,rfl,rfl,(show Lm _ _ _ _ _ _ _ _ _ _ _ from⟨⟨nm,fs⟩,by simpa using dX.nil _,rfl,rfl,jL.o.ev (dH (Bx.iN w _ _ _).1),Bx.iN w _ _ _⟩)⟩;obtain⟨k,n,cap,a,QH,rfl,rfl,rfl,HS⟩:=hrel;have⟨e,hce,hen,hel,hsl,hbx⟩:=HS.o;have dp:=aV hbx;have⟨l0,l1,l2⟩:=bM (dp.o.cP rfl);have⟨o0,o1⟩:=aZ (dp.o.im rfl);have sr:=dp.o.cM;simp only[aC,aD,aJ]at sr;by_cases cE:k<dB;rotate_left
 .have Yl:k=dB:=by omega
  obtain rfl:e=d:=WI.o e (by rw[<-Yl];exact hce);have gS:=aV hsl;have⟨r0,r1⟩:=aZ (dp.o.cZ rfl);have⟨g0,g1⟩:=nZ (dp.o.cZ rfl);subst hel;clear hsl hbx HS hce;go_wp2_with fail;refine ah (v:= .tuple #[.agg #[nm,xL a e.aW.length cap],true]) (by simp[results,results138,go_sem,r0,r1]) rfl ⟨_,rfl,⟨_,rfl,?_⟩,?_⟩
  .exact gS.o.ev ((((fx wr).setCell (.inl (.inr ⟨by show w.heap.size<=[w];omega,by show w.heap.size+1<↑w+3;omega⟩)) _).setCell (.inl (.inr ⟨by show w.heap.size<=[w];omega,by show w.heap.size+1<↑w+3;omega⟩)) _))
  exact(dp.o.1.setCell (by show w.heap.size<=[w];omega) _).setCell (by show w.heap.size<=[w];omega) _
 have⟨x,hx⟩:=fg chs k (by omega);have⟨b,off,cap',hcv,hbl,hcells⟩:=nV.o k x hx;obtain⟨rfl,rfl⟩:=jk hcv;have⟨k0,k1,k2,k3⟩:=iG.o k e x hce hx;have qp:=aV k3;have hkc:k<chs.length:=by omega
 have⟨q0,q1,q2,q3,q4,q5,q6,q7⟩:=hcells wr dp.o.1;have cI:Hd (∀(N:bY)(W:bq),Bd N W->aS N W (xL a n cap) e.aW->xC 205 #[.agg #[nm,xL a n cap], .agg #[x.bg,x.field,x.aX,x.more,x.type.bg,x.type.of,x.dO,x.cW]] W (de W λv w'=>∃kF,v= .tuple #[.agg #[nm,kF],xI 0]/\aS N w' kF (dk e x).aW)):=λN W h1 h2=>by
  have h:=pB.o e x N W (xL a n cap) k1 k0 k2 h1 h2;rw[hen]at h;exact h
 have hBW:=dZ (M:=M) (w:=w) (n:=3) (W:=wr) hM (by omega);have BE:=aV (λo=>cI.o (λi=>eo M w 3 i\/i=wr) (wr.drew.alloc o) (λi hi=>by
  rw[J8];rcases hi with hi|hi
  .have:=hBW i hi;omega
  omega) (hsl.ev ⟨((bh.refl _ _).drew).alloc _,λi hi=>hi.imp_right λh=>Nat.le_of_eq h.symm⟩));have HCB:=aV (cI.o (eo M w 3) wr.drew hBW (hsl.ev ((Ev.refl _ _).drew)));have UA:=aV (λo=>hcells (wr.alloc o) (dp.o.alloc o).1);have qa0:=λo=>(UA.o o).1;have qa1:=λo=>(UA.o o).2.1;have qa2:=λo=>(UA.o o).2.2.1;have qa3:=λo=>(UA.o o).2.2.2.1;have qa4:=λo=>(UA.o o).2.2.2.2.1;have qa5:=λo=>(UA.o o).2.2.2.2.2.1;have qa6:=λo=>(UA.o o).2.2.2.2.2.2.1;have qa7:=λo=>(UA.o o).2.2.2.2.2.2.2;have la2:=λo=>(bM ((dp.o.alloc o).cP rfl)).2.2;have oa0:=λo=>(aZ ((dp.o.alloc o).im rfl)).1;have oa1:=λo=>(aZ ((dp.o.alloc o).im rfl)).2;clear hx hcv hcells k0 k1 k2 k3 hsl hbx HS hce;go_upto_region 5 with fail;go_cut [8,9](λs8 s9 wx=>∃(K:Nat)(ya:fM)(yc:Nat),s8=xP K/\s9=xI 0/\Hd (Vl M w [dG nm (xL fa fs.length fc) (xL (b,off) chs.length cc),dP () (),dP nm (xL a n cap)] nm (dk e x) K ya yc wx))
 .go_region_law(first
   |(go_simp;go_at_call 205;first|refine(BE.o _).mono ?_|refine HCB.o.mono ?_
     rintro en w3⟨_,rfl,⟨kF,rfl,hsl⟩,hb3⟩;obtain⟨ya,yc,rfl,_⟩:=hsl.bj;have gS:=aV hsl;clear hsl;have cR:Hd (Bx w [dG nm (xL fa fs.length fc) (xL (b,off) chs.length cc),dP () (),dP nm (xL a n cap)] w3):=(by first|exact dp.o.drew.aT hb3|exact(dp.o.drew.alloc _).aT hb3);have s3:=cR.o.cM;simp only[aC,aD]at s3;try have HZ:=aV (zed hb3)
     try have z0:=(aZ HZ.o).1
     try have z1:=(aZ HZ.o).2
     try have y0:=aY HZ.o 0
     try have y1:=aY HZ.o 1));all_goals(go_wp2;go_meet)
  all_goals first
   |exact⟨wr,ya,yc,rfl,rfl,(Vn cR.o gS.o HZ.o (by omega))⟩
   |exact⟨w3,ya,yc,rfl,rfl,(Vm cR.o gS.o (by omega))⟩
 obtain⟨K,ya,yc,rfl,rfl,HC⟩:=hcut;have⟨hC1,hC2,hC3,hC4⟩:=HC.o;have⟨d0,d1⟩:=aZ hC1;have⟨p0,p1⟩:=aZ (hC3.im rfl);have⟨f0,f1⟩:=nZ (hC3.im rfl);have neK:w.heap.size+1+1≠K:=by omega
 clear hC1 hC2 hC3;go_wp2;go_roundg(dB-(k+1));case measure=>omega
 case rel=>
  refine⟨k+1,(dk e x).aW.length,yc,ya,by omega,rfl,by go_num,rfl,?_⟩;refine(show Lm _ _ _ _ _ _ _ _ _ _ _ from⟨dk e x,qp.o,hen,rfl,?_,?_⟩)
  .exact HC.o.2.1.ev ((((Ev.refl _ _).setCell (.inl (.inr ⟨by show w.heap.size<=[w,w];omega,by show w.heap.size+1+1<↑w+3;omega⟩)) _).setCell (.inl (.inr ⟨by show w.heap.size<=[w,w];omega,by show w.heap.size+1+1<↑w+3;omega⟩)) _))
  exact(HC.o.2.2.1.set 2 0 rfl _).set 2 1 rfl _
structure ff(l:bQ):Prop where
 bu:dE l.bu
 len:l.bo.length<=12
 chs:∃d,dX l.bu l.bo d
abbrev BX:bS:=⟨#[114,105,110,103,95,57]⟩
def Y5(ls:List bQ):Prop:=ls.length<=4/\∀l∈ls,l.bu.aX≠BX
structure eS(ls:List bQ):Prop where
 len:ls.length<=8
 bH:∀l∈ls,ff l
 apart:∀(k:Nat)(l:bQ),ls[k]? =some l->ek ls l.bu.aX=k
def Lp(l:bQ)(hl:ff l)(M:bY)(w:bq)(hM:Bd M w)(fv cv:bt)(hfs:aS M w fv l.bu.aW)(hcs:aS M w cv l.bo):
 xC 274 #[.agg #[l.bu.aX,fv,cv]] w (di true w):=by
 have⟨d,hd⟩:=hl.chs;have h5:=hl.len;have HR:=ie (w:=w) (λW hb=>lA M fv W l.bu (hfs.aT hb) (dD hl.bu.small) hl.bu.right);have HC:=ie (w:=w) (λW hb=>xQ l d l.bo.length hl.bu d hd (by rw[List.take_length];exact hd) cN (by omega) M W (hM.aT hb) fv cv (hfs.aT hb) (hcs.aT hb));obtain⟨fa,fc,rfl,hlc,Jo,_⟩:=hfs.bj;obtain⟨ca,cc,rfl,WJ,WK,_⟩:=hcs.bj;obtain⟨⟨nm,fs⟩,chs⟩:=l;dsimp only at*;delta xC;go_in;go_wp2_with fail;refine dx (HR.o _ cU) λw1 hb1=> ?_;have HB:=aV ((Bx.fm w (dG nm (xL fa fs.length fc) (xL ca chs.length cc))).aT hb1);have⟨l0,l1,l2⟩:=bM (HB.o.cP rfl);go_wp2_with fail;refine(HC.o _ HB.o.1).mono ?_;rintro e w2⟨_,rfl,⟨kF,rfl,hsl⟩,cJ⟩;obtain⟨ya,yc,rfl,_⟩:=hsl.bj;have bZ:=aV (HB.o.aT cJ);go_wp2;go_ret;exact⟨cL (by first|rfl|simp),(bZ.o.alloc _).1⟩
def G5(ls:List bQ)(h:eS ls)(M:bY)(w:bq)(hM:Bd M w)(v:bt)(hs:aS M w v ls):
 xC 206 #[.agg #[v]] w (di (.tuple #[xI 0,xI 0]) w):=by
 have h4:=h.len;have HL:Hd (∀k l,ls[k]? =some l->_):=λk l h=>fp hs h;have fB:Hd (∀(k:Nat)(l:bQ)W(fv cv:bt),ls[k]? =some l->bC w W->aS M w fv l.bu.aW->aS M w cv l.bo->_):=λk l W fv cv hk hb h1 h2=>Lp l (h.bH l (ai hk)) M W (hM.aT hb) fv cv (h1.aT hb) (h2.aT hb);have HF:Hd (∀(k:Nat)(l:bQ)W,ls[k]? =some l->bC w W->xC 54 #[.agg #[v],xS l.bu.aX] W (di (.tuple #[xI k,true]) W)):=λk l W hk hb=>xO M v W ls l.bu.aX (hs.aT hb) (by omega) k true (show _=_ by rw[h.apart k l hk,if_neg (by omega)]) (show _=_ by rw[h.apart k l hk];simp);obtain⟨a,cY,rfl,dN,hm,_⟩:=hs.bj;delta xC;go_in;go_wp2;go_loopg [2,3,4,5,6]ls.length(λg r2 r3 iv _ _ wr=>∃k:Nat,k<=ls.length/\g=ls.length-k/\iv=xI k/\r2=xI 0/\r3=xI 0/\Hd (Bx w [iq (xL a ls.length cY)] wr));exact⟨0,ax _,rfl,rfl,rfl,rfl,(Bx.fm w _)⟩;obtain⟨k,hk,rfl,rfl,rfl,rfl,HX⟩:=hrel;have hc0:=one_cell (HX.o.cP rfl);by_cases cE:k<ls.length
 .have⟨l,hl⟩:=fg ls k cE;have⟨b,off,cap,fa,fc,ca,cc,hv,hbl,hf1,hc1,_,hcells⟩:=HL.o k l hl;obtain⟨rfl,rfl⟩:=jk hv;have⟨q0,q1,q2⟩:=hcells wr HX.o.1;have NR:=aV (fB.o k l wr _ _ hl HX.o.1 hf1 hc1);have iY:=aV (λW hb=>HF.o k l W hl hb);have wM:=aV hcells;go_upto_region 8 with(go_at_call 274;refine NR.o.mono ?_;rintro e w1⟨rfl,hb1⟩);have gy:=aV (HX.o.aT hb1);have hc1:=one_cell (gy.o.cP rfl);have⟨p0,p1,p2⟩:=wM.o w1 gy.o.1;have uR:=aV (iY.o w1.drew gy.o.1.drew);go_region_law(first
   |(go_simp;go_at_call 54;refine uR.o.mono ?_;rintro e w2⟨rfl,cJ⟩;have gz:Hd (Bx w [iq (xL (b,off) ls.length cY)] w2):=gy.o.drew.aT cJ));all_goals
   go_wp2;go_roundg(ls.length-(k+1));exact⟨k+1,by omega,rfl,by go_num,rfl,rfl,gz⟩;omega
 go_wp2;go_ret2;exact⟨rfl,HX.o.1⟩
def Oz(ls:List bQ)(h:eS ls)(M:bY)(w:bq)(hM:Bd M w)(v:bt)(hs:aS M w v ls)(n:Nat)(hn:n<ls.length):
 xC 136 #[.agg #[v],n] w (di (xI 0) w):=by
 have h4:=h.len;have HC:=ie (w:=w) (λW hb=>G5 ls h M W (hM.aT hb) v (hs.aT hb));obtain⟨a,cY,rfl,dN,hm,_⟩:=hs.bj;delta xC;go_in;go_wp2_with fail;refine dx (HC.o _ cU) λw1 hb1=> ?_;have HB:=aV ((Bx.fm w (iq (xL a ls.length cY))).aT hb1);have hc0:=one_cell (HB.o.cP rfl);go_wp2;go_ret;exact⟨rfl,HB.o.1⟩
def Ss(ls:List bQ)(h:eS ls)(M:bY)(w:bq)(hM:Bd M w)(v:bt)(hs:aS M w v ls)(n:Nat)(l:bQ)(hn:ls[n]? =some l)(dB:Nat)(hv:dB<=l.bo.length)(d:bI)(hd:dX l.bu (l.bo.take dB) d):
 xG 56 #[.agg #[v],n,dB] w λv w'=>∃kF,v= .tuple #[.agg #[l.bu.aX,kF],xI 0]/\aS M w' kF d.aW:=by
 have h4:=h.len;have rI:=h.bH l (ai hn);have h5:=rI.len;have cE:=(ag.1 hn).1;obtain⟨b,off,cap,fa,fc,ca,cc,rfl,hbl,hf1,hc1,_,hcells⟩:=fp hs hn;have dN:ls.length<=cap/\cap<=9223372036854775807:=by have⟨_,_,e,h1,h2,_⟩:=hs.bj;cases e;exact⟨h1,h2⟩
 obtain⟨Q4,Q5⟩:=dN;have HT:=ie (w:=w) (λW hb=>Oz ls h M W (hM.aT hb) _ (hs.aT hb) n cE);have HV:Hd (∀W,_):=λW=>G4 l.bu.aX (xL fa l.bu.aW.length fc) ca l.bo.length cc dB (by omega) (by omega) W;have⟨d',hd'⟩:=rI.chs;have HC:Hd (∀W,bC w W->w.heap.size+2<=W->_):=λW hb hz=>xQ l d dB rI.bu d' hd' hd hv (by omega) (eo M w 2) W (dZ hM hz) _ _ (hf1.ev (dH hb)) (hc1.ev (dH hb));have wM:=aV hcells;obtain⟨⟨nm,fs⟩,chs⟩:=l;dsimp only at*;delta xG;go_in;go_wp2_with fail;refine dx (HT.o _ (Bx.ei w _ _).1) λw1 hb1=> ?_;have HB:=aV ((Bx.ei w (iq (xL (b,off) ls.length cap)) (dP () ())).aT hb1);have hc0:=one_cell (HB.o.cP rfl);have⟨q0,q1,q2⟩:=wM.o w1 HB.o.1;go_wp2_with fail;refine dx (HV.o _) λw2 cJ=> ?_;have bZ:=aV (HB.o.aT cJ);have hc2:=one_cell (bZ.o.cP rfl);have⟨p0,p1,p2⟩:=wM.o w2 bZ.o.1;go_wp2_with fail;refine(HC.o _ bZ.o.1 bZ.o.cM).mono ?_;rintro e w3⟨_,rfl,⟨kF,rfl,hsl⟩,hb3⟩;obtain⟨ya,yc,rfl,_⟩:=hsl.bj;have gS:=aV hsl;have cR:=aV (bZ.o.aT hb3);have g0:=λo=>(aZ ((cR.o.alloc o).cZ rfl)).1;have g1:=λo=>(aZ ((cR.o.alloc o).cZ rfl)).2;have f0:=λo=>aY ((cR.o.alloc o).cZ rfl) 0;have f1:=λo=>aY ((cR.o.alloc o).cZ rfl) 1;go_wp2_with fail;refine ah (v:= .tuple #[.agg #[nm,xL ya d.aW.length yc],xI 0]) (by simp[results,results56,go_sem,g0,g1]) rfl ⟨_,rfl,⟨_,rfl,?_⟩,?_⟩
 .exact gS.o.ev ((((fx w3).alloc _).setCell (.inl (.inr ⟨by show w.heap.size<=[w];omega,by show w.heap.size+1<↑w+2;omega⟩)) _).setCell (.inl (.inr ⟨by show w.heap.size<=[w];omega,by show w.heap.size+1<↑w+2;omega⟩)) _)
 exact((cR.o.alloc _).1.setCell (by show w.heap.size<=[w];omega) _).setCell (by show w.heap.size<=[w];omega) _
def bE.bg:bE->Int| .mk k _ _ _=>k
def bE.num:bE->Int| .mk _ n _ _=>n
def bE.list:bE->List bE| .mk _ _ _ l=>l
def dm(k:Int)(v:bE):List Int:=if v.bg=k then[v.num]else(v.list.filter λi=>decide (i.bg=k)).map bE.num
def lL {k br j:Int}{v:bE}(h:mA k br v)(hj:j=3\/j=4):(v.list=[]/\(v.bg=j->1<=v.num/\v.num<=br))/\(k=1\/k=2->v.bg≠j):=by
 rcases h with⟨rfl,n,rfl,_⟩|⟨rfl,s,rfl,_⟩|⟨hk,rfl|⟨n,rfl,h1,h2⟩⟩
 .exact⟨⟨rfl,λh=>by simp[bE.bg]at h;omega⟩,λ_ h=>by simp[bE.bg]at h;omega⟩
 .exact⟨⟨rfl,λh=>by simp[bE.bg]at h;omega⟩,λ_ h=>by simp[bE.bg]at h;omega⟩
 .exact⟨⟨rfl,λh=>by simp[bE.bg]at h;omega⟩,λh=>by omega⟩
 exact⟨⟨rfl,λ_=>⟨h1,h2⟩⟩,λh=>by omega⟩
def rN {t:cq}{br j:Int}{v:bE}(h:eF t br v)(hj:j=3\/j=4):∀n∈dm j v,1<=n/\n<=br:=by
 intro n hn;unfold dm at hn;rcases h with⟨ht,l,rfl,hl,ha⟩|⟨ht,h1⟩
 .rw[if_neg (by simp[bE.bg];omega)]at hn;obtain⟨i,hi,rfl⟩:=aQ.1 hn;have⟨h2,h3⟩:=List.mem_filter.1 hi;exact(lL (ha i h2) hj).1.2 (by simpa using h3)
 have⟨⟨h2,h3⟩,_⟩:=lL h1 hj;by_cases hk:v.bg=j
 .rw[if_pos hk]at hn;simp at hn;subst hn;exact h3 hk
 rw[if_neg hk,h2]at hn;simp at hn
def G8 {t:cq}{br j:Int}{v:bE}(h:eF t br v)(hj:j=3\/j=4)(ht:t.bg=1\/t.bg=2):dm j v=[]:=by
 unfold dm;rcases h with⟨h5,_⟩|⟨_,h1⟩
 .omega
 have⟨⟨h2,_⟩,h3⟩:=lL h1 hj;rw[if_neg (h3 ht),h2];rfl
def lq(t:cq):bE:=if t.bg=3\/t.bg=4 then .mk 0 0 mz []else .mk t.bg 0 mz []
def J9 {t:cq}(ht:bO t=true)(br:Int):eF t br (lq t)/\dm 3 (lq t)=[]:=by
 unfold bO at ht;by_cases h5:t.bg=5
 .have e:lq t= .mk 5 0 mz []:=by unfold lq;rw[if_neg (by omega),h5]
  rw[e];exact⟨.inl ⟨h5,[],rfl,by simp,λx h=>by cases h⟩,rfl⟩
 rw[if_neg h5]at ht;simp at ht;by_cases CM:t.bg=3\/t.bg=4
 .have e:lq t= .mk 0 0 mz []:=by unfold lq;rw[if_pos CM]
  rw[e];exact⟨.inr ⟨h5, .inr (.inr ⟨CM, .inl rfl⟩)⟩,rfl⟩
 have e:lq t= .mk t.bg 0 mz []:=by unfold lq;rw[if_neg CM]
 rw[e];refine⟨.inr ⟨h5,?_⟩,by simp[dm,bE.bg,bE.list];omega⟩;have:t.bg=1\/t.bg=2:=by omega
 rcases this with h|h
 .exact .inl ⟨h,0,by rw[h],by omega,by omega⟩
 exact .inr (.inl ⟨h,mz,by rw[h],by decide,jP [] (by decide) (by decide)⟩)
def G9(c:bI)(e:bG)(rs:List (List Int)):List Int:=if e.bg=3 then rs.getD (fieldAt c e.str).toNat []else[]
def lC(c:bI)(s:bS)(rs:List (List Int)):List Int:=match fj s.data.toList with|some e=>G9 c e rs|none=>[]
def mJ(c:bI)(t:cq)(br:Int)(s:bS)(vs:List bE)(v:bE):Prop:=eF t br v/\dm 3 v=lC c s (vs.map (dm 3))
def oF(c:bI)(t:cq)(br:Int)(e:bG)(vs:List bE)(v:bE):Prop:=eF t br v/\(e.bg=3->vs[(fieldAt c e.str).toNat]? =some v)
def OD {c:bI}{e:bG}{t:cq}(h:my c e t):e.bg=3\/t.bg=1\/t.bg=2:=by
 cases h<;>first|exact .inl rfl|exact .inr (.inl rfl)|exact .inr (.inr rfl)|skip
 rename_i hp _ _ _;exact .inr hp
def Lt {c:bI}{t:cq}{br:Int}{e:bG}{vs:List bE}{v:bE}(hp:fj s.data.toList=some e)(ht:my c e t)(h:oF c t br e vs v):mJ c t br s vs v:=by
 refine⟨h.1,?_⟩;unfold lC;rw[hp];unfold G9;by_cases hk:e.bg=3
 .simp only[if_pos hk];rw[List.getD_eq_getElem?_getD,List.getElem?_map,h.2 hk];rfl
 simp only[if_neg hk];exact G8 h.1 (.inl rfl) ((OD ht).resolve_left hk)
def OE {c:bI}{t:cq}{br:Int}{vs:List bE}(hs:s.data.toList=[])(ht:bO t=true):mJ c t br s vs (lq t):=by
 refine⟨(J9 ht br).1,?_⟩;rw[(J9 ht br).2];unfold lC;rw[hs];have:fj []=none:=by decide
 rw[this]
def mT(c:bI)(x:bK)(rs:List (List Int)):List (List Int):=
 if x.bg=1 then rs++[lC c x.dO rs]
 else if x.bg=2 then rs.take (fieldAt c x.field).toNat++rs.drop ((fieldAt c x.field).toNat+1)
 else if x.bg=4 then rs.take (fieldAt c x.field).toNat++lC c x.dO rs::rs.drop ((fieldAt c x.field).toNat+1)
 else if x.bg=5 then rs.take (fieldAt c x.field).toNat++lC c x.dO rs::lC c x.cW rs::rs.drop ((fieldAt c x.field).toNat+1)
 else rs
def iW(c:bI)(x:bK)(br:Int)(vs vs':List bE):Prop:=cD (dk c x).aW br vs'/\vs'.map (dm 3)=mT c x (vs.map (dm 3))
def cD.nil(br:Int):cD [] br []:=⟨rfl,λi f v h=>by simp at h⟩
def cD.cons {f:bJ}{fs:List bJ}{br:Int}{v:bE}{vs:List bE}(h:eF f.type br v)(k:cD fs br vs):cD (f::fs) br (v::vs):=
 ⟨by simp[k.1],λi g u hg hu=>by
   cases i with
   |zero=>simp at hg hu;subst hg hu;exact h
   |succ i=>exact k.2 i g u (by simpa using hg) (by simpa using hu)⟩
def cD.Ha {f:bJ}{fs:List bJ}{br:Int}{vs:List bE}(h:cD (f::fs) br vs):∃v us,vs=v::us/\eF f.type br v/\cD fs br us:=by
 obtain⟨h1,h2⟩:=h;cases vs with
 |nil=>simp at h1
 |cons v us=>exact⟨v,us,rfl,h2 0 f v rfl rfl,by simpa using h1,λi g u hg hu=>h2 (i+1) g u (by simpa using hg) (by simpa using hu)⟩
def cD.app {fs gs:List bJ}{br:Int}{vs:List bE}(h:cD fs br vs)(k:cD gs br us):cD (fs++gs) br (vs++us):=by
 induction fs generalizing vs with
 |nil=>have:=h.1;simp at this;subst this;exact k
 |cons f fs ih=>
  obtain⟨v,vs',rfl,h1,h2⟩:=h.Ha;exact(ih h2).cons h1
def cD.Y6 {fs gs:List bJ}{br:Int}{vs:List bE}(h:cD (fs++gs) br vs):cD fs br (vs.take fs.length)/\cD gs br (vs.drop fs.length):=by
 induction fs generalizing vs with
 |nil=>exact⟨by simpa using cD.nil br,by simpa using h⟩
 |cons f fs ih=>
  obtain⟨v,vs',rfl,h1,h2⟩:=cD.Ha h;have⟨k1,k2⟩:=ih h2;exact⟨k1.cons h1,by simpa using k2⟩
def cD.ox {fs:List bJ}{pre post:List bJ}{f:bJ}{br:Int}{vs:List bE}(h:cD fs br vs)(e:fs=pre++f::post):cD pre br (vs.take pre.length)/\cD post br (vs.drop (pre.length+1))/\∃v,vs[pre.length]? =some v/\eF f.type br v:=by
 subst e;have⟨h1,h2⟩:=h.Y6;have⟨v,us,e,h3,h4⟩:=h2.Ha;refine⟨h1,?_,v,?_,h3⟩
 .rw[<-List.drop_drop,e];simpa using h4
 have:(vs.drop pre.length)[0]? =some v:=by rw[e];rfl
 simpa using this
def OF {c:bI}{x:bK}{br:Int}{vs:List bE}{v:bE}(hk:x.bg=1)(h:cD c.aW br vs)(ht:mJ c x.type br x.dO vs v):iW c x br vs (vs++[v]):=by
 refine⟨?_,?_⟩
 .rw[qw hk];exact h.app ((cD.nil br).cons (f:=⟨x.aX,x.type,false⟩) ht.1)
 unfold mT;rw[if_pos hk,List.map_append,<-ht.2];rfl
section
variable {c:bI}{x:bK}{br:Int}{vs:List bE}{pre post:List bJ}{f:bJ}
def Lu(ha:jy c x.field pre f post)(hk:x.bg=2)(h:cD c.aW br vs):iW c x br vs (vs.take pre.length++vs.drop (pre.length+1)):=by
 have⟨h1,h2,_⟩:=h.ox ha.eq;refine⟨?_,?_⟩
 .rw[gE ha (by omega)];have e:jQ x f=[]:=by simp[jQ,hk]
  rw[e,List.append_nil];exact h1.app h2
 unfold mT;rw[if_neg (by omega),if_pos hk,ha.at_,List.map_append,List.map_take,List.map_drop];rfl
def Lv(ha:jy c x.field pre f post)(hk:x.bg=3\/x.bg=6)(h:cD c.aW br vs):iW c x br vs vs:=by
 have⟨h1,h2,v,hv,h3⟩:=h.ox ha.eq;have e0:vs=vs.take pre.length++v::vs.drop (pre.length+1):=by
  have⟨hl,he⟩:=ag.1 hv;rw[<-he,List.getElem_cons_drop,List.take_append_drop]
 refine⟨?_,?_⟩
 .rw[gE ha (by omega)];obtain⟨g,e,hg⟩:∃g:bJ,jQ x f=[g]/\g.type=f.type:=by
   rcases hk with hk|hk
   .exact⟨⟨x.aX,f.type,f.indexed⟩,by simp[jQ,hk],rfl⟩
   exact⟨⟨f.aX,f.type,!f.indexed⟩,by simp[jQ,hk],rfl⟩
  rw[e,e0,List.append_assoc];exact h1.app (h2.cons (by rw[hg];exact h3))
 unfold mT;rw[if_neg (by omega),if_neg (by omega),if_neg (by omega),if_neg (by omega)]
def Lw(ha:jy c x.field pre f post)(hk:x.bg=4)(h:cD c.aW br vs){v:bE}(ht:mJ c x.type br x.dO vs v):iW c x br vs (vs.take pre.length++v::vs.drop (pre.length+1)):=by
 have⟨h1,h2,_⟩:=h.ox ha.eq;refine⟨?_,?_⟩
 .rw[gE ha (by omega)];have e:jQ x f=[⟨f.aX,x.type,false⟩]:=by simp[jQ,hk]
  rw[e,List.append_assoc];exact h1.app (h2.cons ht.1)
 unfold mT;rw[if_neg (by omega),if_neg (by omega),if_pos hk,ha.at_,List.map_append,List.map_cons,List.map_take,List.map_drop,<-ht.2];rfl
def Hb(ha:jy c x.field pre f post)(hk:x.bg=5)(h:cD c.aW br vs){v u:bE}(ht:mJ c x.type br x.dO vs v)(hu:mJ c x.type br x.cW vs u):iW c x br vs (vs.take pre.length++v::u::vs.drop (pre.length+1)):=by
 have⟨h1,h2,_⟩:=h.ox ha.eq;refine⟨?_,?_⟩
 .rw[gE ha (by omega)];have e:jQ x f=[⟨x.aX,x.type,false⟩,⟨x.more,x.type,false⟩]:=by simp[jQ,hk]
  rw[e,List.append_assoc];exact h1.app ((h2.cons hu.1).cons ht.1)
 unfold mT;rw[if_neg (by omega),if_neg (by omega),if_neg (by omega),if_pos hk,ha.at_,List.map_append,List.map_cons,List.map_cons,List.map_take,List.map_drop,<-ht.2,<-hu.2];rfl
end
def qz:bI->List bK->List (List Int)->List (List Int)
 |_,[],rs=>rs
 |c,x::l,rs=>qz (dk c x) l (mT c x rs)
def B3(c d:bI)(l:List bK)(x:bK)(rs:List (List Int))(h:dX c l d):qz c (l++[x]) rs=mT d x (qz c l rs):=by
 induction h generalizing rs with
 |nil c=>rfl
 |cons c d y l _ _ _ ih=>exact ih _
end Go.Proofs.YtpjdjlnknfmfkaaGreatDoor
