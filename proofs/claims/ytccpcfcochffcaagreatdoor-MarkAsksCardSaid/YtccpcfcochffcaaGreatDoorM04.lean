/- A part of MarkAsks's proof; no condition. -/
import Derived.Test.YtccpcfcochffcaaGreatDoorM03
import Derived.Deep.RegionLaw
set_option linter.all false
set_option maxHeartbeats 8000000
set_option maxRecDepth 100000
namespace Go.Proofs.YtccpcfcochffcaaGreatDoor
open Tryz
open Go.RowKit
variable{v lv:an}{w w' w1 w2 W wr wx:aj}{e:TypeId}{base B k i b m K yc cap:Nat}{M N:aS}{en:Int}{a ya:dC}{s:aT}{o0 o1:Obj}
theorem aP.only {α:Type} [aA α]{xs:List α}(h:aP M base e w v xs)(k:ai N w w')(hN:∀i,N i->M i/\i<base):aP M base e w' v xs:=by
 obtain⟨css,h1,h2,h3⟩:=h;have hE:Ev (bB v M) w (bB v M) w':=⟨k.mono λi hi=> .inl (hN i hi).1,λi hi=> .inl hi⟩;refine⟨css,⟨h1.1,?_⟩,h2,λi cs x hc hx=>aA.ev (h3 i cs x hc hx) hE⟩;rcases h1.2 with h0|⟨g,cap,cur,e1,e2,e3,e4⟩
 .exact .inl h0
 .exact .inr ⟨g,cap,cur,e1,e2,(k.block g (Qaa.1 e3).1 (λhg=>by have:=(hN g hg).2;omega)).trans e3,e4⟩
theorem ai.cP {S:aS}(h:ai S w w1)(k:Below B w1 w2)(hB:w.heap.size<=B):ai S w w2:=
 ⟨k.os.trans h.os,k.tape.trans h.tape,k.output.trans h.output,Qcg h.size k.size,λi hi hS=>(k.block i (Qde hi hB)).trans (h.block i hi hS)⟩
def Bf:(Tryz.prog.info? 287).map (λi=>(i.zero,i.size,i.bytes))=some (some (.agg iN),4,56):=by kernel_rfl
def uA(b:Nat)(lv:an)(en:Int)(T:List Tok)(w:aj)(nm:List UInt8)(l:List ax)(q:Nat)(C:List ax->Nat->Prop)(wr:aj):Prop:=
 ∃(a:dC)(c:Nat)(kids rest:List ax)(j:Nat),kids.length=q/\kids++rest=l/\aP (λi=>i<w.heap.size+2) (w.heap.size+2) 287 wr (xL a q c) kids/\dG b lv en T wr j/\ai (aN b) w wr/\w.heap.size+2<=wr.heap.size/\
  wr.heap[w.heap.size]? =some (xK iN 287)/\wr.heap[w.heap.size+1]? =some (xK #[xI 6,xI 0,xS (bL nm),xL a q c] 287)/\C rest j
def Og(T:List Tok)(n:Nat)(r:List Tok)(k q:Nat)(rest:List ax)(j:Nat):Prop:=
 (q=0/\∃m,m<=k/\eO m n (T.drop j)=some (rest,r))\/(0<q/\q<n/\dL (T.drop j) [44]=true/\∃m,m<=k/\eO m (n-q) (T.drop (j+1))=some (rest,r))\/(q=n/\rest=[]/\dL (T.drop j) [41]=true/\r=T.drop (j+1))
def VG(T:List Tok)(n:Nat)(r:List Tok)(k q:Nat)(rest:List ax)(j:Nat):Prop:=∃m,m<=k/\eO m (n-q) (T.drop j)=some (rest,r)
def sD {n:Nat}{ts:List Tok}{l:List ax}{r:List Tok}(h:eO k n ts=some (l,r))(hn:0<n):∃m e r1 l',k=m+1/\ji m 1 ts=some (e,r1)/\l=e::l'/\((n=1/\l'=[]/\dL r1 [41]=true/\r=r1.drop 1)\/(1<n/\dL r1 [44]=true/\eO m (n-1) (r1.drop 1)=some (l',r))):=by
 cases k with
 |zero=>simp[eO]at h
 |succ m=>
  unfold eO at h;cases he:ji m 1 ts with
  |none=>rw[he]at h;cases h
  |some p=>
   obtain⟨e,r1⟩:=p;rw[he]at h;dsimp only at h;by_cases h1:n=1
   .rw[if_pos h1]at h;by_cases hs:dL r1 [41]=true
    .rw[if_pos hs]at h;simp only[Qcf,Prod.mk.injEq]at h;exact⟨m,e,r1,[],rfl,he,h.1.symm, .inl ⟨h1,rfl,hs,h.2.symm⟩⟩
    .rw[if_neg hs]at h;cases h
   .rw[if_neg h1,if_neg (by omega)]at h;by_cases hs:dL r1 [44]=true
    .rw[if_pos hs]at h;cases ht:eO m (n-1) (r1.drop 1)with
     |none=>rw[ht]at h;cases h
     |some q=>
      obtain⟨l',r'⟩:=q;rw[ht]at h;simp only[Qcf,Prod.mk.injEq]at h;exact⟨m,e,r1,l',rfl,he,h.1.symm, .inr ⟨by omega,hs,by rw[<-h.2];exact ht⟩⟩
    .rw[if_neg hs]at h;cases h
theorem dG.drew {T:List Tok}(h:dG b lv en T w i):dG b lv en T w.drew i:=⟨h.box,h.toks,h.few,h.le,h.kinds⟩
def D3(s:List UInt8):dq s<=3:=by unfold dq;split;omega;split;omega;split<;>omega
def Lz(b:Nat)(lv:an)(en:Int)(T:List Tok)(k:Nat)(HE:∀m,m<k->Ke b lv en T m):Oe b lv en T k:=by
 intro i nm l r w tN lH cm RY;obtain⟨i0,dz,dX,cY,dA⟩:=info_parts Bf;have hn3:=D3 nm;have cw:b<w.heap.size:=(Qaa.1 cm.box).1;have Yv:Hd (∀W,xC 259 #[xS (bL nm)] W (gE (xI (dq nm)) W)):=λW=>by have h:=ux (bL nm) W;rw[lU]at h;exact h
 generalize dq nm=n at*;have fu:=af cm;have QJ:=af RY;go_enter func260,ntmps260;go_wp2;go_loopg [6]n(λg iv wr=>∃q:Nat,q<=n/\g=n-q/\iv=xI q/\Hd (uA b lv en T w nm l q (Og T n r k q) wr));case atStart=>
  refine⟨0,Qbf _,rfl,rfl,?_⟩;obtain⟨b0,b1,hz,hb⟩:=jM (w:=w) (o0:=xK iN 287) (o1:=xK #[xI 6,xI 0,xS (bL nm),xL none 0 0] 287) rfl;exact(show uA _ _ _ _ _ _ _ _ _ _ from⟨none,0,[],l,i,rfl,rfl,aP.nil _ _ _ _,fu.o.below hb,ai.ao hb,by rw[hz];omega,b0,b1, .inl ⟨rfl,k,bq,QJ.o⟩⟩)
 case round=>
  obtain⟨q,hq,rfl,rfl,HL⟩:=hrel;have hqz:(q:Int)<=3:=by omega
  by_cases aX:q<n
  .have Wz:(q:Int)<(n:Int):=by omega
   obtain⟨a,c,kids,rest,j,rz,K6,hacc,ki,kE,hsz,hR,hE,hC⟩:=HL.o;obtain⟨p0,p1,p2,p3⟩:=ae ki.box;have DF:=af rz;have RZ:=af K6;have nj:=af hacc;have tZ:=af ki;have mi:=af kE;have HR:=af hR;have UU:=af hE;go_upto_if 23 with(go_at_call 259;refine dJ (Yv.o _) ?_);go_cut [](λwx=>Hd (uA b lv en T w nm l q (VG T n r k q) wx));case first=>
    rcases hC with⟨rfl,hC⟩|⟨h1,h2,h3,hC⟩|⟨h1,_⟩
    .have sd:=af hC;go_wp2;go_meet;exact(show uA _ _ _ _ _ _ _ _ _ _ from⟨a,c,kids,rest,j,DF.o,RZ.o,nj.o,tZ.o,mi.o,hsz,HR.o,UU.o,sd.o⟩)
    .have h1z:(0:Int)<(q:Int):=by omega
     have bA:=Kd b lv en T wr j ⟨#[44]⟩ tZ.o h3;have bt:=af bA;have sd:=af hC;go_wp2_with fail;refine(bt.o).mono ?_;rintro e w1⟨v1,rfl,oh,gX⟩;have qK:=af oh;have JK:=af gX;go_wp2;go_meet;have cY:=JK.o.size;exact(show uA _ _ _ _ _ _ _ _ _ _ from⟨a,c,kids,rest,j+1,DF.o,RZ.o,nj.o.only JK.o (λi hi=>by unfold aN at hi;omega),qK.o,mi.o.trans JK.o,by omega,(JK.o.block _ (by omega) (by unfold aN;omega)).trans HR.o,(JK.o.block _ (by omega) (by unfold aN;omega)).trans UU.o,sd.o⟩)
    .omega
   case rest=>
    obtain⟨a,c,kids,rest,j,rz,K6,hacc,ki,kE,hsz,hR,hE,m,Cb,RY⟩:=Hd.o hcut;obtain⟨m',e,r1,l',rfl,hex,rfl,hC⟩:=sD RY (by omega);obtain⟨yk,yn,ys,yl⟩:=e;have bA:=HE m' (by omega) 1 j (.mk yk yn ys yl) r1 wc.drew (by omega) (by omega) ki.drew hex;obtain⟨p0,p1,p2,p3⟩:=ae ki.box;obtain⟨e0,e1,e2,e3⟩:=ae hE;have fE:=ag hE 3;have od:=hacc.dU;have DF:=af rz;have RZ:=af K6;have nj:=af hacc;have tZ:=af ki;have mi:=af kE;have HR:=af hR;have UU:=af hE;have sd:=af hC;have bt:=af bA;have zX:=af od;go_wp2_with fail;go_region_law(first
     |(go_simp;go_at_call 215;refine bt.o.mono ?_;rintro e w1⟨_,jj,rfl,⟨cs,rfl,bU⟩,oh,se,gX⟩;obtain⟨av,rfl,bo,j6⟩:=cC.iff.1 bU;obtain⟨ya,yc,rfl,_⟩:=bo.open_;have s1:=gX.size;simp at s1;have jU:Hd (ai (aN b) wc w1):=((ai.refl _ wc).drew.trans gX);have fH:Hd (aA.rep (bB (xL a q c) (λi=>i<w.heap.size+2)) w1 [xI yk,xI yn,xS ys,xL ya yl.length yc] (ax.mk yk yn ys yl)):=aA.ev (α:=ax) bU (Ev.eG w1 (λi hi=>by unfold fp;rcases hi with h|h;show i<wc.heap.size;omega;exact(zX.o i h).2));have qK:=af oh;have pZ:=af se;have k3:DD w1 w 3 (xL a q c):=(jU.o.cell (p:=⟨w.heap.size+1,3,none⟩) (by simp;omega) (by unfold aN;simp;omega)).trans e3;have n3:∀o,(w1.alloc o).cell? ⟨w.heap.size+1,3,none⟩=some (xL a q c):=λo=>(World.cell?_of_block (w:=w1) (Qcb w1 o (w.heap.size+1) (by omega))).trans k3;have lI:Hd (w1.frozen? ⟨w.heap.size+1,3,none⟩=false):=(jU.o.frozen (p:=⟨w.heap.size+1,3,none⟩) (by simp;omega) (by unfold aN;simp;omega)).trans fE;have Dq:=af (nj.o.only jU.o (λi hi=>by unfold aN at hi;omega));clear gX bU bo j6 oh se)
     |(refine cO (α:=ax) rfl _ _ _ rfl (λi=>i<w.heap.size+2) (w.heap.size+2) 287 i0 _ 56 underlying285 dz dX cY dA rfl (by decide) (.slice a q c) kids rfl (Dq.o.alloc _) (λ_=>True) _ _ (.mk yk yn ys yl) rfl (b9 _ _ _ _ rfl trivial) (aA.ev fH.o (Ev.ao bO)) (by rw[DF.o];unfold maxLen;omega) (by rw[DF.o];omega) (by simp;omega) ?_;rw[DF.o];intro a2 c2 w2 bu dr aY;have cL:=af bu;have l3:DD w2 w 3 (xL a q c):=(aY.cell (p:=⟨w.heap.size+1,3,none⟩) (by simp)).trans (n3 _);have l4:w2.frozen? ⟨w.heap.size+1,3,none⟩=false:=(aY.frozen (p:=⟨w.heap.size+1,3,none⟩) (by simp)).trans ((bO.frozen (p:=⟨w.heap.size+1,3,none⟩) (by simp;omega)).trans lI.o);have aL:=af aY;clear bu dr aY));all_goals
     go_wp2;go_roundg(n-(q+1));case measure=>omega
     case rel=>
      refine⟨q+1,by omega,rfl,by go_num,?_⟩;have jC:=aL.o.size;simp at jC;have hO2:ai (aN b) w w2:=((mi.o.trans jU.o).alloc _).cP aL.o (by omega);have lJ:∀x,x<w.heap.size+2->w2.heap[x]? =w1.heap[x]? :=λx hx=>(aL.o.block x hx).trans (Qcb w1 _ x (by omega));have Cc:ai (aN b) w (w2.setCell ⟨w.heap.size+1,3,none⟩ (xL a2 (q+1) c2)):=hO2.setCell (.inr (by simp)) _;refine(show uA _ _ _ _ _ _ _ _ _ _ from⟨a2,c2,kids++[.mk yk yn ys yl],l',jj,by simp[DF.o],by rw[<-RZ.o];simp,cL.o.uz (by simp) (by simp) _,?_,Cc,by simp;omega,?_,?_,?_⟩)
      .exact fu.o.step Cc ((Qag _ _ _ _ (by simp;omega)).trans ((lJ b (by omega)).trans qK.o.box)) qK.o.le
      .exact(Qag _ _ _ _ (by simp)).trans ((lJ _ (by omega)).trans ((jU.o.block _ (by omega) (by unfold aN;omega)).trans HR.o))
      .exact Qca w2 _ 3 _ _ _ ((lJ _ (by omega)).trans ((jU.o.block _ (by omega) (by unfold aN;omega)).trans UU.o))
      .have se:=pZ.o;rcases sd.o with⟨h1,h2,h3,h4⟩|⟨h1,h2,h3⟩
       .subst se;exact .inr (.inr ⟨by omega,h2,h3,by rw[h4,List.drop_drop]⟩)
       .subst se;rw[List.drop_drop]at h3;exact .inr (.inl ⟨by omega,by omega,h2,m',by omega,by rw[show n-(q+1)=n-q-1 from by omega];exact h3⟩)
  .have Wz:¬(q:Int)<(n:Int):=by omega
   obtain⟨a,c,kids,rest,j,rz,K6,hacc,ki,kE,hsz,hR,hE,hC⟩:=HL.o;have UW:rest=[]/\dL (T.drop j) [41]=true/\r=T.drop (j+1):=by
    rcases hC with⟨h1,_⟩|⟨_,h2,_⟩|⟨_,h1,h2,h3⟩
    .omega
    .omega
    .exact⟨h1,h2,h3⟩
   obtain⟨rfl,h41,rfl⟩:=UW;rw[List.append_nil]at K6;subst K6;have bA:=Kd b lv en T wr j ⟨#[41]⟩ ki h41;have DF:=af rz;have nj:=af hacc;have mi:=af kE;have HR:=af hR;have UU:=af hE;have bt:=af bA;go_wp2_with(go_at_call 259;refine dJ (Yv.o _) ?_);refine(bt.o).mono ?_;rintro e w1⟨v1,rfl,oh,gX⟩;have dB:=gX.size;have pZ:Hd (dY w1 w (xK iN 287)):=(gX.block _ (by omega) (by unfold aN;omega)).trans HR.o;have HE1:Hd (cI w1 (w.heap.size+1) (xK #[xI 6,xI 0,xS (bL nm),xL a q c] 287)):=(gX.block _ (by omega) (by unfold aN;omega)).trans UU.o;obtain⟨r0,r1,r2,r3⟩:=ae pZ.o;obtain⟨g0,g1,g2,g3⟩:=ic pZ.o;obtain⟨e0,e1,e2,e3⟩:=ae HE1.o;have Dq:=af (nj.o.only gX (λi hi=>by unfold aN at hi;omega));have qK:=af oh;have JK:=af gX;go_wp2_with fail;refine Qae (v:= .agg #[xI 6,xI 0,xS (bL nm),xL a q c]) (by simp[results,results260,go_sem,r0,r1,r2,r3]) rfl ?_;have Cc:ai (aN b) w ((((w1.setCell ⟨w.heap.size,0,none⟩ (xI 6)).setCell ⟨w.heap.size,1,none⟩ (xI 0)).setCell ⟨w.heap.size,2,none⟩ (xS (bL nm))).setCell ⟨w.heap.size,3,none⟩ (xL a q c)):=((((mi.o.trans JK.o).setCell (.inr bq) _).setCell (.inr bq) _).setCell (.inr bq) _).setCell (.inr bq) _;refine⟨_,j+1,rfl,⟨_,rfl,cC.iff.2 ⟨_,rfl,(Dq.o.slice (λi hi=>hi)).ev ?_,by rw[jF];unfold maxLen;omega⟩⟩,fu.o.step Cc ?_ qK.o.le,rfl,Cc⟩
   .exact((((Ev.eG w1 (λi h=>by unfold fp at h;omega)).setCell (.inl (by simp)) _).setCell (.inl (by simp)) _).setCell (.inl (by simp)) _).setCell (.inl (by simp)) _
   .exact(Qag _ _ _ _ (by simp;omega)).trans ((Qag _ _ _ _ (by simp;omega)).trans ((Qag _ _ _ _ (by simp;omega)).trans ((Qag _ _ _ _ (by simp;omega)).trans qK.o.box)))
def D4(w:aj)(E:Nat):Nat->Prop:=λi=>i<=w.heap.size\/i=E
def G9(b:Nat)(lv:an)(en:Int)(T:List Tok)(w:aj)(E:Nat)(C:ax->Nat->Prop)(wr:aj):Prop:=
 ∃(ck cn:Int)(cs:aT)(cl:List ax)(a:dC)(c j:Nat),wr.heap[E]? =some (xK #[xI ck,xI cn,xS cs,xL a cl.length c] 287)/\cC (D4 w E) wr [xI ck,xI cn,xS cs,xL a cl.length c] (.mk ck cn cs cl)/\dG b lv en T wr j/\ai (aN b) w wr/\
  wr.heap[w.heap.size]? =some (xK iN 287)/\C (.mk ck cn cs cl) j
def yg {least:Nat}{cur x:ax}{ts r:List Tok}(h:ow m least cur ts=some (x,r)):
 (x=cur/\r=ts/\∀t r',ts=t::r'->¬(t.kind=4/\least<=cj t.s))\/
 ∃m' t r' f r2,m=m'+1/\ts=t::r'/\t.kind=4/\least<=cj t.s/\ji m' (cj t.s+1) r'=some (f,r2)/\ow m' least (.mk 4 0 (bL t.s) [cur,f]) r2=some (x,r):=by
 cases m with
 |zero=>simp[ow]at h
 |succ m'=>
  unfold ow at h;cases ts with
  |nil=>simp at h;exact .inl ⟨h.1.symm,h.2,λt r' he=>by cases he⟩
  |cons t r'=>
   dsimp only at h;by_cases hc:t.kind=4/\least<=cj t.s
   .rw[if_pos hc]at h;cases he:ji m' (cj t.s+1) r' with
    |none=>rw[he]at h;cases h
    |some q=>obtain⟨f,r2⟩:=q;rw[he]at h;exact .inr ⟨m',t,r',f,r2,rfl,rfl,hc.1,hc.2,he,h⟩
   .rw[if_neg hc]at h;simp only[Qcf,Prod.mk.injEq]at h;exact .inl ⟨h.1.symm,h.2.symm,λt2 r2 he=>by cases he;exact hc⟩
def D5(s:List UInt8):cj s<=4:=by unfold cj;split;omega;split;omega;split;omega;split<;>omega
def yh {x y:ax}{cx cy:List an}(hM:¬M K)(hK:cI W K (.cells (cx++cy).toArray 287 (0,0)))(hx:cC M W cx x)(hy:cC M W cy y):ab M W (xL (some ⟨K,0,none⟩) 2 2) [x,y]:=by
 have lx:cx.length=4:=aA.len (α:=ax) hx;have ly:cy.length=4:=aA.len (α:=ax) hy;refine⟨[cx,cy],⟨by simp[lx,ly];rfl,some ⟨K,0,none⟩,2,rfl,bq,by unfold maxLen;omega,λ_=>⟨K,0,rfl,hM,(Qaa.1 hK).1,λj u hu=> ?_⟩⟩,rfl,λi cs z hc hz=> ?_⟩
 .rw[Nat.zero_add];exact cell_of_heap hK (by simpa using hu)
 .match i with
  |0=>simp at hc hz;subst hc hz;exact hx
  |1=>simp at hc hz;subst hc hz;exact hy
  |n+2=>simp at hc
def LA {T:List Tok}{WD:World}{jj:Nat}{ck cn fk fn:Int}{cs fs:ByteArray}{cl fl:List ax}{c:Nat}{ts:List UInt8}
 (cw:b<w.heap.size)(fu:dG b lv en T w i)(mi:ai (aN b) w wr)(DG:ai (aN b) wr WD)(fQ:ai (aN b) WD w2)
 (UX:w2.heap[w1.heap.size]? =some (.cells #[.int .i64 ck, .int .i64 cn, .string cs, .slice a cl.length c] 287 (0,0)))
 (TV:WD.heap[w.heap.size]? =some (.cells #[.int .i64 0, .int .i64 0, .string ⟨#[]⟩, .slice none 0 0] 287 (0,0)))
 (WB:cC (D4 w w1.heap.size) WD [.int .i64 ck, .int .i64 cn, .string cs, .slice a cl.length c] (.mk ck cn cs cl))
 (fH:cC (fp WD.drew) w2 [.int .i64 fk, .int .i64 fn, .string fs, .slice ya fl.length yc] (.mk fk fn fs fl))(JL:dG b lv en T w2 jj)
 (dB:w.heap.size+1<=w1.heap.size)(hE:w1.heap.size<wr.heap.size)(hsD:wr.heap.size<=WD.heap.size)(s2:WD.heap.size<=w2.heap.size)(xM:ts.length<=200)(C:ax->Nat->Prop)(hC:C (.mk 4 0 (bL ts) [.mk ck cn cs cl, .mk fk fn fs fl]) jj):
 G9 b lv en T w w1.heap.size C (((((w2.setCell ⟨w1.heap.size,0,none⟩ (.int .i64 4)).setCell ⟨w1.heap.size,1,none⟩ (.int .i64 0)).setCell ⟨w1.heap.size,2,none⟩ (.string (bL ts))).setCell ⟨w1.heap.size,3,none⟩ (.slice (some ⟨w2.heap.size,0,none⟩) 2 2)).alloc (.cells #[.int .i64 ck, .int .i64 cn, .string cs, .slice a cl.length c, .int .i64 fk, .int .i64 fn, .string fs, .slice ya fl.length yc] 287)):=by
 obtain⟨W3,lK⟩:∃W3:World,W3=(((w2.setCell ⟨w1.heap.size,0,none⟩ (.int .i64 4)).setCell ⟨w1.heap.size,1,none⟩ (.int .i64 0)).setCell ⟨w1.heap.size,2,none⟩ (.string (bL ts))).setCell ⟨w1.heap.size,3,none⟩ (.slice (some ⟨w2.heap.size,0,none⟩) 2 2):=⟨_,rfl⟩;have xJ:W3.heap.size=w2.heap.size:=by rw[lK];simp
 have hE3:W3.heap[w1.heap.size]? =some (.cells #[.int .i64 4, .int .i64 0, .string (bL ts), .slice (some ⟨w2.heap.size,0,none⟩) 2 2] 287 (0,0)):=by
  rw[lK];have h0:=Qca w2 w1.heap.size 0 _ _ (.int .i64 4) UX;have h1:=Qca _ w1.heap.size 1 _ _ (.int .i64 0) h0;have h2:=Qca _ w1.heap.size 2 _ _ (.string (bL ts)) h1;exact Qca _ w1.heap.size 3 _ _ (.slice (some ⟨w2.heap.size,0,none⟩) 2 2) h2
 have Cc:ai (λi=>i=w1.heap.size) w2 W3:=by
  rw[lK];exact((((ai.refl (λi=>i=w1.heap.size) w2).setCell (p:=⟨w1.heap.size,0,none⟩) (.inl rfl) _).setCell (p:=⟨w1.heap.size,1,none⟩) (.inl rfl) _).setCell (p:=⟨w1.heap.size,2,none⟩) (.inl rfl) _).setCell (p:=⟨w1.heap.size,3,none⟩) (.inl rfl) _
 rw[<-lK];clear lK;generalize hK:(Obj.cells #[.int .i64 ck, .int .i64 cn, .string cs, .slice a cl.length c, .int .i64 fk, .int .i64 fn, .string fs, .slice ya fl.length yc] 287 (0,0))=K;have hOw:ai (aN b) w (W3.alloc K):=by
  have h1:=(mi.trans DG).trans fQ;have h2:ai (aN b) w W3:=h1.dc Cc (λi hi aX=>by omega);exact h2.alloc _
 have hKb:(W3.alloc K).heap[w2.heap.size]? =some (.cells (([.int .i64 ck, .int .i64 cn, .string cs, .slice a cl.length c]:List Value)++([.int .i64 fk, .int .i64 fn, .string fs, .slice ya fl.length yc]:List Value)).toArray 287 (0,0)):=by
  have h:=Qbh W3 K;rw[xJ]at h;rw[h,<-hK];rfl
 have WC:Ev (D4 w w1.heap.size) WD (D4 w w1.heap.size) (W3.alloc K):=
  ⟨((fQ.mono (λi hi=> .inl (by unfold aN at hi;omega))).trans (Cc.mono (λi hi=> .inr hi))).alloc _,λi hi=> .inl hi⟩;have WE:Ev (fp WD.drew) w2 (D4 w w1.heap.size) (W3.alloc K):=
  ⟨(Cc.mono (λi hi=>by show i<WD.heap.size;omega)).alloc _,λi hi=> .inl (by show i<WD.heap.size;rcases hi with h|h<;>omega)⟩;refine⟨4,0,bL ts,[.mk ck cn cs cl, .mk fk fn fs fl],some ⟨w2.heap.size,0,none⟩,2,jj,(Qcb W3 _ _ (by omega)).trans hE3,cC.iff.2 ⟨_,rfl,?_,by rw[jF];unfold maxLen;omega⟩,fu.step hOw ?_ JL.le,hOw,?_,hC⟩
 .exact yh (by unfold D4;omega) hKb (WB.Av WC) (fH.Av WE)
 .exact(Qcb W3 _ b (by omega)).trans ((Cc.block b (by omega) (by omega)).trans JL.box)
 .exact(Qcb W3 _ _ (by omega)).trans ((Cc.block _ (by omega) (by omega)).trans ((fQ.block _ (by omega) (by unfold aN;omega)).trans TV))
def LB(b:Nat)(lv:an)(en:Int)(T:List Tok)(oO:qS T)(k:Nat)(HT:G7 b lv en T k)(HE:∀m,m<k->Ke b lv en T m):Ke b lv en T (k+1):=by
 intro least i x r w vi hl5 cm hp;have cw:b<w.heap.size:=(Qaa.1 cm.box).1;obtain⟨e0,r0,htt,hmo⟩:∃e0 r0,jr k (T.drop i)=some (e0,r0)/\ow k least e0 r0=some (x,r):=by
  unfold ji at hp;cases hq:jr k (T.drop i)with
  |none=>rw[hq]at hp;cases hp
  |some q=>obtain⟨e0,r0⟩:=q;rw[hq]at hp;exact⟨e0,r0,rfl,hp⟩
 clear hp;have kD:aq w (w.alloc (xK #[xI 0,xI 0,xS ⟨#[]⟩,xL none 0 0] 287)):=bO;have bA:=HT i e0 r0 _ (cm.below kD) htt;obtain⟨zk,zn,zs,zl⟩:=e0;have fu:=af cm;clear cm;have HMO:=af hmo;clear hmo;have bt:=af bA;clear bA;have iA:=af kD;clear kD;clear htt;go_enter func215,ntmps215;go_wp2_with fail;refine(bt.o).mono ?_;rintro e w1⟨_,j0,rfl,⟨cs,rfl,bU⟩,oh,se,gX⟩;obtain⟨av,rfl,bo,j6⟩:=cC.iff.1 bU;obtain⟨za,zc,rfl,_⟩:=bo.open_;have dB:=gX.size;simp at dB;have UY:Hd (dY w1 w (xK #[xI 0,xI 0,xS ⟨#[]⟩,xL none 0 0] 287)):=(gX.block _ (by simp) (by unfold aN;omega)).trans (Qbh w _);have oP:Hd (ai (aN b) w w1):=((ai.refl _ w).alloc _).dc gX (λi hi _=>hi);have fH:=af bU;clear bU;have qK:=af oh;clear oh;have pZ:=af se;clear se;clear bo j6 gX;go_wp2;go_loopg [6]k(λg _ wr=>∃m:Nat,m<=k/\g=m/\Hd (G9 b lv en T w w1.heap.size (λcur j=>ow m least cur (T.drop j)=some (x,r)) wr)/\w1.heap.size<wr.heap.size);case atStart=>
  refine⟨k,bq,rfl,?_,by simp⟩;have ub:aq w1 (w1.alloc (xK #[xI zk,xI zn,xS zs,xL za zl.length zc] 287)):=bO;refine(show G9 _ _ _ _ _ _ _ _ from⟨zk,zn,zs,zl,za,zc,j0,Qbh _ _,?_,qK.o.below ub,oP.o.alloc _,(ub.block _ (by omega)).trans UY.o,by {show ow k least _ (T.drop j0)=_;rw[<-pZ.o];exact HMO.o}⟩);exact fH.o.Av ⟨(ai.refl _ w1).alloc _,λi hi=>by
   rcases hi with h|h
   .exact .inl (by unfold fp;simp;omega)
   .exact .inr (by omega)⟩
 case round=>
  obtain⟨m,hm,rfl,HM,hE⟩:=hrel;obtain⟨ck,cn,cs,cl,a,c,j,QK,AU,ki,kE,hR,hC⟩:=HM.o;obtain⟨p0,p1,p2,p3⟩:=ae ki.box;obtain⟨la,qaa,rfl,aw⟩:=ki.cells;have Gj:=ki.few;have qgh:=ki.le;have R3:(0:Int)<=(j:Int):=Qba _;rcases yg hC with⟨rfl,rfl,Gi⟩|⟨m',t,r',f,r2,rfl,qa,ni,Yx,hex,QL⟩
  .
   go_upto_region 2 with fail;go_cut [55](λs55 wx=>s55=xB false/\∃n,wx=wr.drewN n);case first=>
    by_cases xE:j<T.length
    .obtain⟨t,ht⟩:=dQ T j xE;obtain⟨bl,off,rfl,GM,Gk,q0,q1,q2,q3⟩:=aw t ht;have WG:=Gi t _ (drop_cons ht);have fG:=Qaf ht;have hjz:(j:Int)<(T.length:Int):=by omega
     by_cases ni:t.kind=4
     .obtain⟨c0,tX,DH⟩:=(oO t fG).2.2.2 ni;have aX:cj t.s<least:=by
       rcases Nat.lt_or_ge (cj t.s) least with h|h
       .exact h
       .exact absurd ⟨ni,h⟩ WG
      have cY:¬(least:Int)<=(cj t.s:Int):=by omega
      have dA:decide ((least:Int)<=(cj t.s:Int))=false:=by simpa using cY
      have xJ:decide (least<=cj t.s)=false:=by simpa using aX
      have e0:(b8 t.kind==0)=true:=by simp[b8,ni]
      have WH:Hd (∀W,xC 227 #[xS (bL t.s)] W λe w'=>e=xR (xI (cj t.s))/\w'=W):=λW=>by rw[DH];exact(nw c0 tX W).mono λ_ _ h=>⟨h.1,h.2.symm⟩
      clear aw Gi WG fG ht ni DH tX AU QK hR hC;go_quiet((go_at_call 227;exact Calls.quiet_of_same (WH.o _)));go_wp2;go_meet;exact⟨rfl,_,rfl⟩
     .have e0:(b8 t.kind==0)=false:=by have:=ki.kinds t fG;simp[b8,ni];omega
      clear aw Gi WG fG ht ni AU QK hR hC;go_quiet(fail);go_wp2;go_meet;exact⟨rfl,_,rfl⟩
    .have RU:decide ((j:Int)<(T.length:Int))=false:=by simp;omega
     have Ys:decide (j<T.length)=false:=by simp;omega
     have hd3:¬(j:Int)<(T.length:Int):=by omega
     clear aw Gi AU QK hR hC;go_quiet(fail);go_wp2;go_meet;exact⟨rfl,_,rfl⟩
   case rest=>
    obtain⟨rfl,nn,rfl⟩:=hcut;obtain⟨e0,e1,e2,e3⟩:=ae QK;obtain⟨r0,r1,r2,r3⟩:=ae hR;obtain⟨g0,g1,g2,g3⟩:=ic hR;have hRE:w.heap.size≠w1.heap.size:=by omega
    obtain⟨av,hav,bo,j6⟩:=cC.iff.1 AU;simp only[List.cons.injEq,true_and,and_true]at hav;subst hav;have eE:=af bo;clear bo;have wB:=af j6;clear j6;have tZ:=af ki;clear ki;have mi:=af kE;clear kE;have HEB:=af QK;clear QK;have R4:=af hR;clear hR;clear aw Gi AU hC;go_wp2_with fail;refine Qae (v:= .agg #[xI ck,xI cn,xS cs,xL a cl.length c]) (by simp[results,results215,go_sem,r0,r1,r2,r3]) rfl ?_;have Cc:ai (aN b) w ((((wr.setCell ⟨w.heap.size,0,none⟩ (xI ck)).setCell ⟨w.heap.size,1,none⟩ (xI cn)).setCell ⟨w.heap.size,2,none⟩ (xS cs)).setCell ⟨w.heap.size,3,none⟩ (xL a cl.length c)):=(((mi.o.setCell (.inr bq) _).setCell (.inr bq) _).setCell (.inr bq) _).setCell (.inr bq) _;refine⟨_,j,rfl,⟨_,rfl,cC.iff.2 ⟨_,rfl,eE.o.ev ?_,wB.o⟩⟩,(fu.o.step Cc ?_ tZ.o.le).drewN nn,rfl,Cc.drewN nn⟩
    .have h:=((((Ev.eG (M:=D4 w w1.heap.size) (N:=fp w) wr (λi h=>by unfold fp at h;exact .inl (by omega))).setCell (p:=⟨w.heap.size,0,none⟩) (.inl (.inl bq)) (xI ck)).setCell (p:=⟨w.heap.size,1,none⟩) (.inl (.inl bq)) (xI cn)).setCell (p:=⟨w.heap.size,2,none⟩) (.inl (.inl bq)) (xS cs)).setCell (p:=⟨w.heap.size,3,none⟩) (.inl (.inl bq)) (xL a cl.length c);exact⟨h.only.drewN nn,h.sub⟩
    .exact(Qag _ _ _ _ (by simp;omega)).trans ((Qag _ _ _ _ (by simp;omega)).trans ((Qag _ _ _ _ (by simp;omega)).trans ((Qag _ _ _ _ (by simp;omega)).trans tZ.o.box)))
  .
   obtain⟨t',Gm⟩:∃t',T[j]? =some t':=by
    rcases Nat.lt_or_ge j T.length with h|h
    .exact⟨_,Qac h⟩
    .rw[List.drop_eq_nil_of_le h]at qa;cases qa
   rw[drop_cons Gm]at qa;simp only[List.cons.injEq]at qa;obtain⟨rfl,rfl⟩:=qa;have xE:j<T.length:=(Qad.1 Gm).1;obtain⟨bl,off,rfl,GM,Gk,q0,q1,q2,q3⟩:=aw t' Gm;have fG:=Qaf Gm;have hjz:(j:Int)<(T.length:Int):=by omega
   obtain⟨c0,tX,DH⟩:=(oO t' fG).2.2.2 ni;have dT:=D5 t'.s;have cY:(least:Int)<=(cj t'.s:Int):=by omega
   have dA:decide ((least:Int)<=(cj t'.s:Int))=true:=by simpa using cY
   have xJ:decide (least<=cj t'.s)=true:=by simpa using Yx
   have e0:(b8 t'.kind==0)=true:=by simp[b8,ni]
   have WH:Hd (∀W,xC 227 #[xS (bL t'.s)] W λe w'=>e=xR (xI (cj t'.s))/\w'=W):=λW=>by rw[DH];exact(nw c0 tX W).mono λ_ _ h=>⟨h.1,h.2.symm⟩
   have xM:Hd (t'.s.length<=200):=(oO t' fG).1;have tZ:=af ki;clear ki;have mi:=af kE;clear kE;have HEB:=af QK;clear QK;have R4:=af hR;clear hR;have JM:=af AU;clear AU;have UZ:=af hex;clear hex;have WI:=af QL;clear QL;clear aw fG Gm ni DH tX hC;go_upto_region 2 with fail;go_cut [55](λs55 wx=>s55=xB true/\∃n,wx=wr.drewN n);case first=>
    go_quiet((go_at_call 227;exact Calls.quiet_of_same (WH.o _)));go_wp2;go_meet;exact⟨rfl,_,rfl⟩
   case rest=>
    obtain⟨rfl,nn,rfl⟩:=hcut;go_upto_region 3 with fail;go_cut [6](λs6 wx=>s6=xS (bL t'.s)/\∃n,wx=(wr.drewN nn).drewN n);case first=>
     go_quiet(fail);go_wp2;go_meet;exact⟨rfl,_,rfl⟩
    case rest=>
     obtain⟨rfl,n2,rfl⟩:=hcut;have f1:=ag tZ.o.box 1;go_upto_region 5 with fail;obtain⟨WD,TW⟩:=cM ((wr.drewN (nn+n2)).setCell ⟨b,1,none⟩ (xI ((j:Int)+1)));rw[<-TW];have HPD:=af (show dG b (xL (some ⟨bl,off,none⟩) T.length qaa) en T WD (j+1)by rw[TW];exact((tZ.o.drewN (nn+n2)).next xE (ai.refl _ _)).1);have DG:=af (show ai (aN b) wr WD by rw[TW];exact((ai.refl _ wr).drewN (nn+n2)).Lx 1 _);have HED:Hd (dY WD w1 (xK #[xI ck,xI cn,xS cs,xL a cl.length c] 287)):=(DG.o.block _ hE (by unfold aN;omega)).trans HEB.o;have TV:Hd (dY WD w (xK #[xI 0,xI 0,xS ⟨#[]⟩,xL none 0 0] 287)):=(DG.o.block _ (by omega) (by unfold aN;omega)).trans R4.o;have WB:Hd (cC (D4 w w1.heap.size) WD [xI ck,xI cn,xS cs,xL a cl.length c] (.mk ck cn cs cl)):=JM.o.Av ⟨DG.o.mono (λi hi=> .inl (by unfold aN at hi;omega)),λi hi=> .inl hi⟩;have hsD:=DG.o.size;clear TW p0 p1 p2 p3 f1 q0 q1 q2 q3;obtain⟨d0,d1,d2,d3⟩:=ae HED.o;obtain⟨fk,fn,fs,fl⟩:=f;have bA:=HE m' (by omega) (cj t'.s+1) (j+1) (.mk fk fn fs fl) r2 WD.drew (by omega) (by omega) HPD.o.drew UZ.o;rw[show((cj t'.s+1:Nat):Int)=(cj t'.s:Int)+1 from by omega]at bA;have zW:=af bA;clear bA;have z1:IntKind.i64.wrap ((cj t'.s:Int)+1)=(cj t'.s:Int)+1:=Qbe _ (by omega);go_region_law(first
      |(go_simp;go_at_call 227;refine(WH.o _).mono ?_;rintro e w'⟨rfl,rfl⟩)
      |(go_simp;go_at_call 215;refine zW.o.mono ?_;rintro e w2⟨_,jj,rfl,⟨cs2,rfl,bU⟩,JN,K7,WJ⟩;obtain⟨av,rfl,bo,j6⟩:=cC.iff.1 bU;obtain⟨ya,yc,rfl,_⟩:=bo.open_;have s2:=WJ.size;simp at s2;have fQ:Hd (ai (aN b) WD w2):=((ai.refl _ WD).drew.trans WJ);have UX:Hd (dY w2 w1 (xK #[xI ck,xI cn,xS cs,xL a cl.length c] 287)):=(fQ.o.block _ (by omega) (by unfold aN;omega)).trans HED.o;have Gn:w1.heap.size<w2.heap.size:=by omega
        have HEA:Hd (∀o,(w2.alloc o).heap[w1.heap.size]? =some (xK #[xI ck,xI cn,xS cs,xL a cl.length c] 287)):=λo=>(Qcb w2 o _ Gn).trans UX.o;obtain⟨k0,k1,k2,k3⟩:=ae UX.o;have n0:∀o,(w2.alloc o).cell? ⟨w1.heap.size,0,none⟩=some (xI ck):=λo=>(ae (HEA.o o)).1;have n1:∀o,(w2.alloc o).cell? ⟨w1.heap.size,1,none⟩=some (xI cn):=λo=>(ae (HEA.o o)).2.1;have n2':∀o,(w2.alloc o).cell? ⟨w1.heap.size,2,none⟩=some (xS cs):=λo=>(ae (HEA.o o)).2.2.1;have n3:∀o,(w2.alloc o).cell? ⟨w1.heap.size,3,none⟩=some (xL a cl.length c):=λo=>(ae (HEA.o o)).2.2.2;obtain⟨fz0,fz1,fz2,fz3⟩:=ic UX.o;have fH:=af bU;have JL:=af JN;have zY:=af K7;clear WJ bU bo j6 JN K7));all_goals
      clear z1;go_wp2;go_roundg m';case measure=>omega
      case rel=>
       refine⟨m',by omega,rfl,?_,by simp;omega⟩;have tO:=LA cw fu.o mi.o DG.o fQ.o UX.o TV.o WB.o fH.o JL.o (by omega) hE hsD s2 xM.o;exact(tO _ (by rw[<-zY.o];exact WI.o))
def SD(b:Nat)(lv:an)(en:Int)(T:List Tok)(oO:qS T)(k:Nat):Ke b lv en T k/\G7 b lv en T k/\Oe b lv en T k:=by
 induction k using Nat.strongRecOn with
 |ind k ih=>
  refine⟨?_,?_,Lz b lv en T k λm hm=>(ih m hm).1⟩
  .cases k with
   |zero=>intro least i x r w _ _ _ h;simp[ji]at h
   |succ k=>exact LB b lv en T oO k (ih k (by omega)).2.1 λm hm=>(ih m (by omega)).1
  .cases k with
   |zero=>intro i x r w _ h;simp[jr]at h
   |succ k=>exact G8 b lv en T oO k (ih k (by omega)).2.2
def uB {s:List UInt8}(h:0<cj s):∃c,c∈dF/\s=[c]:=by
 unfold cj at h;split at h
 .rename_i h1;rcases h1 with h1|h1|h1<;>exact⟨_,by decide,h1⟩
 .split at h
  .rename_i h1;rcases h1 with h1|h1<;>exact⟨_,by decide,h1⟩
  .split at h
   .rename_i h1;exact⟨_,by decide,h1⟩
   .split at h
    .rename_i h1;rcases h1 with h1|h1<;>exact⟨_,by decide,h1⟩
    .omega
def SE(M:aS)(w:aj)(k n:Int)(s:aT)(l:List ax)(lv:an)(hl:ab M w lv l)(hs:s.size<=200)(h:x9 k n s.data.toList l.length=true):
 xC 262 #[.agg #[xI k,xI n,xS s,lv]] w (cN (xB true) w):=by
 obtain⟨a,cap,rfl,cK,hm,_⟩:=hl.open_;unfold x9 at h;by_cases h1:k=1
 .subst h1;simp only[if_true,Qce,decide_eq_true_eq,List.isEmpty_iff,beq_iff_eq]at h;obtain⟨⟨⟨vj,Cd⟩,DH⟩,wC⟩:=h;obtain rfl:=ff DH;rw[wC];go_enter func262,ntmps262;go_wp2;go_ret;exact⟨rfl,bO⟩
 .rw[if_neg h1]at h;simp only[Qce,decide_eq_true_eq]at h;obtain⟨rfl,h⟩:=h;by_cases h2:k=2
  .subst h2;simp only[if_true,Qce,beq_iff_eq]at h;obtain⟨ht,wC⟩:=h;rw[wC];have HT:=af ht;go_enter func262,ntmps262;go_wp2_with fail;refine cG (sA _ _ HT.o) λw1 aC=> ?_;obtain⟨q0,q1,q2,q3⟩:=ae (boxed aC);have aO:=af aC;go_wp2;go_ret;exact⟨rfl,aQ aO.o⟩
  .rw[if_neg h2]at h;by_cases h3:k=3
   .subst h3;simp only[if_true,Qce,beq_iff_eq]at h;obtain⟨ht,wC⟩:=h;rw[wC];rw[p9]at ht;have HT:=af ht;go_enter func262,ntmps262;go_wp2_with fail;refine dJ (eR true _ _ HT.o (by unfold maxLen;omega)) ?_;go_wp2;go_ret;exact⟨rfl,bO⟩
   .rw[if_neg h3]at h;by_cases h4:k=4
    .subst h4;simp only[if_true,Qce,beq_iff_eq,decide_eq_true_eq]at h;obtain⟨ht,wC⟩:=h;obtain⟨c,hc,Gp⟩:=uB ht;obtain rfl:=ff Gp;rw[wC];have hz:(0:Int)<(cj [c]:Int):=by simp at ht;omega
     have HB:=af (λw=>nw c hc w);generalize cj [c]=bb at*;go_enter func262,ntmps262;go_wp2_with fail;refine dJ (HB.o _) ?_;go_wp2;go_ret;exact⟨rfl,bO⟩
    .rw[if_neg h4]at h;by_cases h6:k=6
     .subst h6;simp only[if_true,Qce,beq_iff_eq,decide_eq_true_eq]at h;obtain⟨ht,wC⟩:=h;have hz:(0:Int)<(dq s.data.toList:Int):=by omega
      have HA:=af (λw=>ux s w);have dA:decide ((0:Int)<(dq s.data.toList:Int))=true:=by simpa using ht
      have xJ:decide (0<dq s.data.toList)=true:=by simpa using ht
      rw[wC];generalize dq s.data.toList=bb at*;go_enter func262,ntmps262;go_wp2_with fail;go_quiet((go_at_call 259;exact Calls.quiet_of_same ((HA.o _).mono λ_ _ h=>⟨h.1,h.2.symm⟩)));go_wp2;go_ret;exact⟨rfl,bO.trans ⟨rfl,rfl,rfl,bq,λ_ _=>rfl⟩⟩
     .rw[if_neg h6]at h;cases h
def yj {k n:Int}{s:List UInt8}{c:Nat}(h:x9 k n s c=true):s.length<=200:=by
 unfold x9 at h;by_cases h1:k=1
 .rw[if_pos h1]at h;simp only[Qce,List.isEmpty_iff]at h;rw[h.1.2];simp
 .rw[if_neg h1]at h;simp only[Qce]at h;replace h:=h.2;by_cases h2:k=2
  .rw[if_pos h2]at h;simp only[Qce,jK,decide_eq_true_eq]at h;omega
  .rw[if_neg h2]at h;by_cases h3:k=3
   .rw[if_pos h3]at h;simp only[Qce,qR,decide_eq_true_eq]at h;omega
   .rw[if_neg h3]at h;by_cases h4:k=4
    .rw[if_pos h4]at h;simp only[Qce,decide_eq_true_eq]at h;obtain⟨c,_,rfl⟩:=uB h.1;simp
    .rw[if_neg h4]at h;by_cases h6:k=6
     .rw[if_pos h6]at h;simp only[Qce,decide_eq_true_eq]at h;have ha:=h.1;unfold dq at ha;split at ha
      .rename_i hh;rcases hh with rfl|rfl|rfl<;>simp
      .split at ha
       .rename_i hh;rcases hh with rfl|rfl|rfl|rfl|rfl|rfl<;>simp
       .split at ha
        .rename_i hh;subst hh;simp
        .omega
     .rw[if_neg h6]at h;cases h
theorem pj:∀{l:List ax}{i:Nat}{e:ax},l[i]? =some e->df (l.take (i+1))=df (l.take i)+eo e
 |[],i,e,h=>by simp at h
 |x::r,0,e,h=>by simp at h;subst h;simp[df]
 |x::r,i+1,e,h=>by
  have:=pj (l:=r) (i:=i) (e:=e) (by simpa using h);simp only[List.take_succ_cons,df];rw[this];omega
theorem qb:∀(l:List ax)(i:Nat),df (l.take i)<=df l
 |[],i=>by simp
 |x::r,0=>by simp[df]
 |x::r,i+1=>by have:=qb r i;simp only[List.take_succ_cons,df];omega
theorem uC:∀{l:List ax}{i:Nat}{e:ax},l[i]? =some e->eo e<=df l/\kR e<=x8 l/\(sx l=true->ir e=true)
 |[],i,e,h=>by simp at h
 |x::r,0,e,h=>by
  simp at h;subst h;refine⟨by simp only[df];omega,by simp only[x8];omega,λhn=> ?_⟩;simp only[sx,Qce]at hn;exact hn.1
 |x::r,i+1,e,h=>by
  obtain⟨h1,h2,h3⟩:=uC (l:=r) (i:=i) (e:=e) (by simpa using h);refine⟨by simp only[df];omega,by simp only[x8];omega,λhn=> ?_⟩;simp only[sx,Qce]at hn;exact h3 hn.2
def uD(e:ax):1<=eo e:=by cases e;simp[eo]
def SF:∀(N:Nat)(e:ax),eo e<=N->∀(M:Nat->Prop)(w:World)(v:Value)(deep left:Int),bS M w v e->ir e=true->(kR e:Int)<=deep->deep<=8->(eo e:Int)<=left->left<=40->
 Calls prog 229 #[v, .int .i64 deep, .int .i64 left] w λe' w'=>e'= .returned (.int .i64 (left-eo e))/\Below w.heap.size w w':=by
 intro N;induction N with
 |zero=>intro e he;have:=uD e;omega
 |succ N ih=>
  intro e he M w v deep left gz qL hd hd8 hs qgi;obtain⟨k,n,s,l⟩:=e;obtain⟨cs,rfl,bU⟩:=gz;obtain⟨lv,rfl,bo,j6⟩:=cC.iff.1 bU;have eE:=hD bo;obtain⟨a,cap,rfl,cK,hm,hc⟩:=bo.open_;simp only[ir,Qce]at qL;obtain⟨vj,Cd⟩:=qL;have hsz:s.size<=200:=by have:=yj vj;rw[bh]at this;exact this
  simp only[eo]at he hs;simp only[kR]at hd;have e0:(eo (.mk k n s l):Int)=df l+1:=by simp[eo]
  rw[e0];have RU:¬deep<1:=by omega
  have dB:¬left<1:=by omega
  have qab:Hid (∀W,Below w.heap.size w W->Calls prog 262 #[.agg #[.int .i64 k, .int .i64 n, .string s, .slice a l.length cap]] W λe w'=>e= .returned (.bool true)/\Below W.heap.size W w'):=(show∀W,_->_ fromλW hb=>SE M W k n s l _ (eE.out.below hb) hsz vj);have HC:=hD hc;clear hc;have qz:=hD Cd;clear Cd;have HD:=hD hd;clear hd;clear bU bo j6 vj e0;generalize hlen:l.length=len at*;have iJ:=hD hlen;clear hlen;go_enter func229,ntmps229;go_wp2_with fail;refine(qab.out _ (by exact((Qbg _ _).alloc (Qab _) _))).mono ?_;rintro e w1⟨rfl,aC⟩;have bN:=hD (boxed aC);have aO:=hD (aQ aC);have s1:=aC.size;simp at s1;clear aC;go_wp2_with fail;go_loopg [2,7]len(λg lf iv wr=>∃i:Nat,i<=len/\g=len-i/\iv= .int .i64 i/\lf= .int .i64 (left-1-df (l.take i))/\Hid (Below w1.heap.size w1 wr));case atStart=>exact⟨0,Qbf _,rfl,rfl,by simp[df],(show Below _ _ _ from Qbg _ _)⟩
  case round=>
   obtain⟨i,hi,rfl,rfl,rfl,aL⟩:=hrel;have hle:=qb l i;obtain⟨g0,g1,g2,g3⟩:=ae ((aL.out.block w.heap.size (by omega)).trans bN.out);have s2:=aL.out.size;have K8:(0:Int)<=left-1-(df (l.take i):Int):=by omega
   have hup:left-1-(df (l.take i):Int)<=40:=by omega
   by_cases aX:i<len
   .obtain⟨b,off,rfl,Dl,cw,aG⟩:=HC.out (by omega);obtain⟨x,hx⟩:∃x,l[i]? =some x:=⟨_,Qac (by rw[iJ.out];exact aX)⟩;obtain⟨xk,xn,xs,xl⟩:=x;obtain⟨cs,bU,bD⟩:=aG i _ hx;have pY:=bU;obtain⟨xv,rfl,iO,hxz⟩:=cC.iff.1 pY;obtain⟨xa,xc,rfl,_⟩:=iO.open_;obtain⟨f1,f2,f3⟩:=uC hx;have f4:=pj hx;have f5:=qb l (i+1);have hB:Below w.heap.size w wr:=aO.out.trans (aL.out.mono (by have:=aO.out.size;omega));have q0:wr.cell? ⟨b,off+i*4,none⟩=some (.int .i64 xk):=(hB.cell (p:=⟨b,off+i*4,none⟩) cw).trans (bD 0 _ rfl);have q1:wr.cell? ⟨b,off+i*4+1,none⟩=some (.int .i64 xn):=(hB.cell (p:=⟨b,off+i*4+1,none⟩) cw).trans (bD 1 _ rfl);have q2:wr.cell? ⟨b,off+i*4+2,none⟩=some (.string xs):=(hB.cell (p:=⟨b,off+i*4+2,none⟩) cw).trans (bD 2 _ rfl);have q3:wr.cell? ⟨b,off+i*4+3,none⟩=some (.slice xa xl.length xc):=(hB.cell (p:=⟨b,off+i*4+3,none⟩) cw).trans (bD 3 _ rfl);have af:=HD.out;have bA:=ih (.mk xk xn xs xl) (by omega) M wr _ (deep-1) (left-1-(df (l.take i):Int)) ⟨_,rfl,aA.ev (α:=ax) bU (Ev.ao hB)⟩ (f3 qz.out) (by omega) (by omega) (by omega) (by omega);have mA:Hid (left-1-(df (l.take i):Int)-(eo (.mk xk xn xs xl):Int)=left-1-(df (l.take (i+1)):Int)):=(show _=_ by rw[f4];omega);have bt:=hD bA;clear bA;clear aG bD bU pY iO hxz f1 f2 f3 f4 f5 hx hB af;go_wp2_with fail;refine(bt.out).mono ?_;rintro e w2⟨rfl,aY⟩;have bI:=hD aY;clear aY;go_wp2_with fail;go_roundg(len-(i+1));case measure=>omega
    case rel=>exact⟨i+1,by omega,rfl,by go_num,by rw[mA.out],(show Below _ _ _ from aL.out.trans (bI.out.mono s2))⟩
   .have zV:i=len:=by omega
    go_wp2_with fail;go_ret;refine⟨iP ?_,aO.out.trans (aL.out.mono (by have:=aO.out.size;omega))⟩;rw[Qah (by rw[iJ.out];omega)];omega
def ym(M:aS)(w:aj)(v:an)(e:ax)(gz:bS M w v e)(hn:ir e=true)(hd:kR e<=8)(hs:eo e<=40):
 xC 217 #[v] w λe' w'=>e'=xR (xB true)/\aq w w':=by
 obtain⟨k,n,s,l⟩:=e;obtain⟨cs,rfl,bU⟩:=gz;have pY:=bU;obtain⟨lv,rfl,bo,j6⟩:=cC.iff.1 pY;obtain⟨a,cap,rfl,_⟩:=bo.open_;have HC:Hd (∀W,aq w W->xC 229 #[.agg #[xI k,xI n,xS s,xL a l.length cap],xI 8,xI 40] W λe' w'=>e'=xR (xI (40-eo (.mk k n s l)))/\aq W w'):=λW hb=>SF 40 (.mk k n s l) hs M W _ 8 40 ⟨_,rfl,aA.ev (α:=ax) bU (Ev.ao hb)⟩ hn (by omega) (by omega) (by omega) (by omega);have hz:(0:Int)<=40-(eo (.mk k n s l):Int):=by omega
 generalize eo (.mk k n s l)=sz at*;go_enter func217,ntmps217;go_wp2_with fail;refine cG (HC.o _ (by exact bO)) λw1 aC=> ?_;have aO:=af (aQ aC);go_wp2;go_ret;exact⟨ba (by simp;omega),aO.o⟩
def Ha {l:List UInt8}{kd n:Nat}{str:List UInt8}{size:Nat}(hl:l.length<=200)(h:sw l=some ((kd,n,str),size)):1<=kd/\kd<=4/\str.length<=200/\(kd=1->str=[])/\(kd≠1->n=0)/\(kd=4->∃c,c∈dF/\str=[c])/\0<size/\size<=l.length:=by
 cases l with
 |nil=>simp[sw]at h
 |cons c r=>
  unfold sw at h;dsimp only at h;simp only[Qcc]at hl⊢;by_cases hd:ou c=true
  .rw[if_pos hd]at h;split at h
   .cases h
   .simp only[Qcf,Prod.mk.injEq]at h;obtain⟨⟨rfl,rfl,rfl⟩,rfl⟩:=h;exact⟨by omega,by omega,by simp,λ_=>rfl,λh=>absurd rfl h,λh=>by omega,by omega,by omega⟩
  .rw[if_neg hd]at h;by_cases jd:qQ c=true
   .rw[if_pos jd]at h;split at h
    .simp only[Qcf,Prod.mk.injEq]at h;obtain⟨⟨rfl,rfl,rfl⟩,rfl⟩:=h;have hle:((c::r).takeWhile de).length<=(c::r).length:=(List.takeWhile_prefix de).length_le;simp only[Qcc]at hle;have hw:de c=true:=by unfold de;rw[jd];rfl
     have wQ:0<((c::r).takeWhile de).length:=by rw[List.takeWhile_cons_of_pos hw];simp
     exact⟨by omega,by omega,by omega,λh=>by omega,λ_=>rfl,λh=>by omega,wQ,hle⟩
    .cases h
   .rw[if_neg jd]at h;by_cases wR:c=34
    .rw[if_pos wR]at h;split at h
     .rename_i x hx;split at h
      .simp only[Qcf,Prod.mk.injEq]at h;obtain⟨⟨rfl,rfl,rfl⟩,rfl⟩:=h;have hlen:=congrArg List.length hx;rw[List.length_drop]at hlen;simp only[Qcc]at hlen;exact⟨by omega,by omega,by omega,λh=>by omega,λ_=>rfl,λh=>by omega,by omega,by omega⟩
      .cases h
     .cases h
    .rw[if_neg wR]at h;split at h
     .rename_i hm;simp only[Qcf,Prod.mk.injEq]at h;obtain⟨⟨rfl,rfl,rfl⟩,rfl⟩:=h;have RX:=List.contains_iff_mem.1 hm;refine⟨by omega,by omega,by simp,λh=>by omega,λ_=>rfl,λ_=>⟨c,?_,rfl⟩,by omega,by omega⟩;simp only[dF,Qdf,List.not_mem_nil,or_false]at RX⊢;rcases RX with h|h|h|h|h|h|h|h|h|h<;>simp[h]
     .split at h
      .rename_i hm;simp only[Qcf,Prod.mk.injEq]at h;obtain⟨⟨rfl,rfl,rfl⟩,rfl⟩:=h;exact⟨by omega,by omega,by simp,λh=>by omega,λ_=>rfl,λ_=>⟨c,by rw[hm.1];simp[dF],rfl⟩,by omega,by omega⟩
      .cases h
theorem kp:∀(k:Nat)(l:List UInt8)(i:Nat)(T:List Tok),l.length<=200->eJ k l i=some T->qS T/\(∀t∈T,1<=t.kind/\t.kind<=4)/\T.length<=l.length
 |k,[],i,T,_,h=>by
  cases k<;>simp[eJ]at h<;>subst h<;>exact⟨λt ht=>(by cases ht),λt ht=>(by cases ht),by simp⟩
 |0,_::_,i,T,_,h=>by simp[eJ]at h
 |k+1,c::r,i,T,hl,h=>by
  unfold eJ at h;by_cases hc:c=32
  .rw[if_pos hc]at h;obtain⟨h1,h2,h3⟩:=kp k r (i+1) T (by simp at hl;omega) h;exact⟨h1,h2,by simp;omega⟩
  .rw[if_neg hc]at h;cases h1:sw (c::r)with
   |none=>rw[h1]at h;cases h
   |some q=>
    obtain⟨⟨kd,n,s⟩,size⟩:=q;rw[h1]at h;dsimp only at h;obtain⟨a1,a2,a3,a4,a5,a6,a7,a8⟩:=Ha hl h1;rw[if_neg (by omega)]at h;cases h2:eJ k ((c::r).drop size) (i+size)with
    |none=>rw[h2]at h;cases h
    |some ts=>
     rw[h2]at h;simp only[Option.map_some,Qcf]at h;subst h;obtain⟨b1,b2,b3⟩:=kp k _ (i+size) ts (by rw[List.length_drop];omega) h2;rw[List.length_drop]at b3;simp only[Qcc]at b3 a8⊢;refine⟨λt ht=> ?_,λt ht=> ?_,by omega⟩
     .rcases Qdf.1 ht with rfl|ht
      .exact⟨a3,a4,a5,a6⟩
      .exact b1 t ht
     .rcases Qdf.1 ht with rfl|ht
      .exact⟨a1,a2⟩
      .exact b2 t ht
def Hb:(Tryz.prog.info? 305).map (λi=>(i.zero,i.size,i.bytes))=some (some (.agg #[xI 0,xI 0,xS ⟨#[]⟩,xI 0]),4,40):=by kernel_rfl
def Kf(w:aj)(s:aT)(T:List Tok)(pos:Nat)(wr:aj):Prop:=
 ∃(a:dC)(c:Nat)(done rest:List Tok)(k:Nat),done++rest=T/\eJ k (s.data.toList.drop pos) pos=some rest/\aP (λi=>i<w.heap.size+2) (w.heap.size+2) 305 wr (xL a done.length c) (done.map mI)/\done.length<=pos/\aq w wr/\w.heap.size+2<=wr.heap.size/\
  wr.heap[w.heap.size]? =some (xK iN 287)/\wr.heap[w.heap.size+1]? =some (xK #[xL a done.length c,xI 0,xI s.size,xI (-1)] 303)
def SH(w:aj)(o:Obj)(wx:aj):Prop:=wx.heap[w.heap.size]? =some o/\wx.heap.size=w.heap.size+1/\aq w wx
def Kg(o:Obj)(h1:wx.heap=(w.alloc o).heap)(h2:wx.os=w.os)(h3:wx.tape=w.tape)(h4:wx.output=w.output):SH w o wx:=by
 obtain⟨a,b,d⟩:=sB (w:=w) (o0:=o) rfl;unfold SH;rw[h1];exact⟨a,b,⟨h2,h3,h4,by rw[h1];exact d.size,by rw[h1];exact d.block⟩⟩
def Hc(w:aj)(x:ax)(e:Ending)(w':aj):Prop:=∃v,e=xR (.tuple #[v,xI 0,xI 0])/\bS (fp w) w' v x/\aq w w'
def Kh(s:ByteArray)(w:World)(x:ax)(h:ed s.data.toList=some x):Calls prog 200 #[.string s] w (Hc w x):=by
 obtain⟨i0,dz,dX,cY,dA⟩:=info_parts Hb;obtain⟨T,hT,hex,hs,qL,hdp,hsz⟩:∃T,eJ 200 s.data.toList 0=some T/\ji 60 1 T=some (x,[])/\s.size<=200/\ir x=true/\kR x<=8/\eo x<=40:=by
  unfold ed at h;cases h1:eJ 200 s.data.toList 0 with
  |none=>rw[h1]at h;cases h
  |some T=>
   rw[h1]at h;dsimp only at h;cases h2:ji 60 1 T with
   |none=>rw[h2]at h;cases h
   |some q=>
    obtain⟨e,r⟩:=q;rw[h2]at h;cases r with
    |cons t r=>cases h
    |nil=>
     dsimp only at h;split at h
     .rename_i hc;simp only[Qcf]at h;subst h;rw[bh]at hc;exact⟨T,rfl,h2,hc⟩
     .cases h
 clear h;obtain⟨xk,xn,xs,xl⟩:=x;obtain⟨oO,NL,No⟩:=kp 200 _ 0 T (by rw[bh];exact hs) hT;rw[bh]at No;have HT:=hD hT;clear hT;have UZ:=hD hex;clear hex;have U0:=hD oO;clear oO;have U1:=hD NL;clear NL;have Yy:=hD qL;clear qL;go_enter func200,ntmps200;go_wp2_with fail;go_loopg [3,4,6,7,8]s.size(λg r1 r2 iv _ _ wr=>∃pos:Nat,pos<=s.size/\g=s.size-pos/\iv= .int .i64 pos/\r1= .int .i64 0/\r2= .int .i64 0/\Hid (Kf w s T pos wr));case atStart=>
  refine⟨0,Qbf _,rfl,rfl,rfl,rfl,?_⟩;obtain⟨b0,b1,hz,hb⟩:=jM (w:=w) (o0:= .cells #[.int .i64 0, .int .i64 0, .string ⟨#[]⟩, .slice none 0 0] 287) (o1:= .cells #[.slice none 0 0, .int .i64 0, .int .i64 s.size, .int .i64 (-1)] 303) rfl;exact(show Kf _ _ _ _ _ from⟨none,0,[],T,200,rfl,HT.out,aP.nil _ _ _ _,Qab _,hb,by rw[hz];omega,b0,b1⟩)
 case round=>
  obtain⟨pos,wQ,rfl,rfl,rfl,rfl,HL⟩:=hrel;obtain⟨a,c,done,rest,k,QM,zZ,hacc,hdl,Aa,QN,hR,hP⟩:=HL.out;by_cases aX:pos<s.size
  .obtain⟨ch,QO⟩:∃ch,s[pos]=ch:=⟨_,rfl⟩;have hb:=du s pos aX;rw[QO]at hb;have Gq:s.data.toList.drop pos=ch::s.data.toList.drop (pos+1):=by
    have hl:=(Qad.1 hb).1;rw[List.drop_eq_getElem_cons hl,(Qad.1 hb).2]
   have hpz:(pos:Int)<s.size:=by omega
   rw[Gq]at zZ;cases k with
   |zero=>simp[eJ]at zZ
   |succ k=>
    unfold eJ at zZ;by_cases R5:ch=32
    .subst R5;rw[if_pos rfl]at zZ;have TX:=hD zZ;clear zZ;have Yz:=hD QM;clear QM;have nj:=hD hacc;clear hacc;have Dr:=hD Aa;clear Aa;have HR:=hD hR;clear hR;have HP:=hD hP;clear hP;clear Gq hb HL;go_wp2_with fail;go_roundg(s.size-(pos+1));case measure=>omega
     case rel=>exact⟨pos+1,by omega,rfl,by go_num,rfl,rfl,(show Kf _ _ _ _ _ from⟨a,c,done,rest,k,Yz.out,TX.out,nj.out,by omega,Dr.out,QN,HR.out,HP.out⟩)⟩
    .rw[if_neg R5]at zZ;have e32:((ch.toNat:Int)==32)=false:=by simp;intro h;exact R5 (UInt8.toNat_inj.1 (by simp;omega))
     cases h1:sw (ch::s.data.toList.drop (pos+1))with
     |none=>rw[h1]at zZ;cases zZ
     |some q=>
      obtain⟨⟨kd,n,str⟩,size⟩:=q;rw[h1]at zZ;dsimp only at zZ;rw[<-Gq]at h1;obtain⟨bA,qgj,hle,hn9,cm⟩:=Oc s wr pos hs kd n str size h1;rw[if_neg (by omega),<-Gq]at zZ;rw[List.drop_drop]at zZ;cases h2:eJ k (s.data.toList.drop (pos+size)) (pos+size)with
      |none=>rw[h2]at zZ;cases zZ
      |some ts=>
       rw[h2]at zZ;simp only[Option.map_some,Qcf]at zZ;have qgk:(((pos+size:Nat):Int)==0)=false:=by simp;omega
       have TX:=hD zZ;clear zZ;have qdl:=hD h2;clear h2;have Yz:=hD QM;clear QM;have nj:=hD hacc;clear hacc;have Dr:=hD Aa;clear Aa;have HR:=hD hR;clear hR;have HP:=hD hP;clear hP;have bt:=hD bA;clear bA;clear Gq hb HL h1;go_wp2_with fail;refine(bt.out).mono ?_;rintro e w1⟨rfl,aC⟩;have s1:=aC.size;have Np:Hid (w1.heap[w.heap.size+1]? =some (.cells #[.slice a done.length c, .int .i64 0, .int .i64 s.size, .int .i64 (-1)] 303 (0,0))):=(aC.block _ (by omega)).trans HP.out;have Dq:=hD (nj.out.below aC);have pZ:Hid (w1.heap[w.heap.size]? =some (.cells #[.int .i64 0, .int .i64 0, .string ⟨#[]⟩, .slice none 0 0] 287 (0,0))):=(aC.block _ (by omega)).trans HR.out;have aO:Hid (Below w.heap.size w w1):=Dr.out.trans (aC.mono (by omega));obtain⟨p0,p1,p2,p3⟩:=ae Np.out;have fP:=ag Np.out 0;have npw:w.heap.size+1≠w1.heap.size:=by omega
       clear aC;go_upto_region 11 with fail;obtain⟨W1,dS⟩:∃W1:World,W1=w1.alloc (.cells #[.int .i64 (b8 kd), .int .i64 n, .string (bL str), .int .i64 pos] 305):=⟨_,rfl⟩;rw[<-dS];obtain⟨bX,NN,DI⟩:=sB dS;have fI:=hD bX;have TY:Hid (W1.heap[w.heap.size+1]? =some (.cells #[.slice a done.length c, .int .i64 0, .int .i64 s.size, .int .i64 (-1)] 303 (0,0))):=(DI.block _ (by omega)).trans Np.out;have HAW:=hD (Dq.out.below DI);have UY:Hid (W1.heap[w.heap.size]? =some (.cells #[.int .i64 0, .int .i64 0, .string ⟨#[]⟩, .slice none 0 0] 287 (0,0))):=(DI.block _ (by omega)).trans pZ.out;have Ce:Hid (Below w.heap.size w W1):=aO.out.trans (DI.mono (by omega));have hsW:w1.heap.size<W1.heap.size:=by omega
       clear dS DI NN bX p0 p1 p2 p3 fP;obtain⟨p0,p1,p2,p3⟩:=ae TY.out;obtain⟨x0,x1,x2,x3⟩:=ae fI.out;have P0:∀o,(W1.alloc o).cell? ⟨w.heap.size+1,0,none⟩=some (.slice a done.length c):=λo=>(World.cell?_of_block (w:=W1) (Qcb W1 o (w.heap.size+1) (by omega))).trans p0;have ud:(done.map mI).length=done.length:=Qdc _;have HML:=hD ud;clear ud;go_region_law(first
        |(refine cO (α:=ye) rfl _ _ _ rfl (λi=>i<w.heap.size+2) (w.heap.size+2) 305 i0 _ 40 underlying301 dz dX cY dA rfl (by decide) (.slice a done.length c) (done.map mI) rfl ((HAW.out.below ⟨rfl,rfl,rfl,Qab _,λ_ _=>rfl⟩:aP _ _ _ W1.drew _ _).alloc _) (λ_=>True) _ _ ⟨b8 kd,n,bL str,pos⟩ rfl (b9 _ _ _ _ rfl trivial) ⟨rfl,by rw[jF];exact cm⟩ (by rw[HML.out];unfold maxLen;omega) (by rw[HML.out];omega) (by simp;omega) ?_;rw[HML.out];intro a2 c2 w2 bu dr aY;have cL:=hD bu;have l3:w2.cell? ⟨w.heap.size+1,0,none⟩=some (.slice a done.length c):=(aY.cell (p:=⟨w.heap.size+1,0,none⟩) (by simp)).trans (P0 _);have l4:w2.frozen? ⟨w.heap.size+1,0,none⟩=false:=(aY.frozen (p:=⟨w.heap.size+1,0,none⟩) (by simp)).trans ((((Qbg _ _).alloc (Qab _) _).frozen (p:=⟨w.heap.size+1,0,none⟩) (by simp;omega)).trans (ag TY.out 0));have aL:=hD aY;clear bu dr aY));all_goals
        go_wp2_with fail;go_roundg(s.size-(pos+size));case measure=>omega
        case rel=>
         refine⟨pos+size,by omega,rfl,by go_num,rfl,rfl,?_⟩;have jC:=aL.out.size;simp at jC;have lJ:∀y,y<w.heap.size+2->w2.heap[y]? =W1.heap[y]? :=λy hy=>(aL.out.block y hy).trans (Qcb W1.drew _ y (by simp;omega));refine(show Kf _ _ _ _ _ from⟨a2,c2,done++[⟨kd,n,str,pos⟩],ts,k,?_,qdl.out,?_,by simp;omega,?_,by simp;omega,?_,?_⟩)
         .rw[<-Yz.out,<-TX.out];simp
         .have h:=cL.out.uz (p:=⟨w.heap.size+1,0,none⟩) (by simp) (by simp) (.slice a2 (done.length+1) c2);simpa [mI]using h
         .exact(((Ce.out.drew).alloc (by simp;omega) _).trans (aL.out.mono (by omega))).setCell (by simp) _
         .exact(Qag _ _ _ _ (by simp)).trans ((lJ _ (by omega)).trans UY.out)
         .have h:=Qca w2 (w.heap.size+1) 0 _ _ (.slice a2 (done.length+1) c2) ((lJ _ (by omega)).trans TY.out);simpa using h
  .have K9:rest=[]:=by
    rw[List.drop_eq_nil_of_le (by rw[bh];omega)]at zZ;cases k<;>simp[eJ]at zZ<;>exact zZ
   subst K9;rw[List.append_nil]at QM;subst QM;have hpz:¬(pos:Int)<s.size:=by omega
   have ki:dG (w.heap.size+1) (.slice a done.length c) s.size done wr 0:=
    ⟨hP,(hacc.slice (λi h=>h)).ev (Ev.eG wr λi hi=>by unfold aN at hi;omega),by omega,Qbf _,U1.out⟩;have bA:=(SD (w.heap.size+1) (.slice a done.length c) s.size done U0.out 60).1 1 0 (.mk xk xn xs xl) [] wr (by omega) (by omega) ki UZ.out;have tZ:=hD ki;clear ki;have bt:=hD bA;clear bA;have Dr:=hD Aa;clear Aa;have HR:=hD hR;clear hR;have HP:=hD hP;clear hP;clear zZ hacc HL;go_wp2_with fail;refine(bt.out).mono ?_;rintro e w1⟨_,j,rfl,⟨cs,rfl,bU⟩,oh,se,gX⟩;have pY:=bU;obtain⟨av,rfl,bo,j6⟩:=cC.iff.1 pY;obtain⟨xa,xc,rfl,_⟩:=bo.open_;have hj:j=done.length:=by
    have h1:=congrArg List.length se;rw[List.length_drop]at h1;simp at h1;have:=oh.le;omega
   subst hj;have s1:=gX.size;have pZ:Hid (w1.heap[w.heap.size]? =some (.cells #[.int .i64 0, .int .i64 0, .string ⟨#[]⟩, .slice none 0 0] 287 (0,0))):=(gX.block _ (by omega) (by unfold aN;omega)).trans HR.out;have aO:Hid (Below w.heap.size w w1):=(show Below _ _ _ from⟨gX.os.trans Dr.out.os,gX.tape.trans Dr.out.tape,gX.output.trans Dr.out.output,Qcg Dr.out.size s1,λy hy=>(gX.block y (by omega) (by unfold aN;omega)).trans (Dr.out.block y hy)⟩);obtain⟨p0,p1,p2,p3⟩:=ae oh.box;have npw:w.heap.size+1≠w1.heap.size:=by omega
   have nrw:w.heap.size≠w1.heap.size:=by omega
   have fH:=hD bU;clear bU;have qK:=hD oh;clear oh;clear gX pY bo j6 se;have P0:∀o,(w1.alloc o).cell? ⟨w.heap.size+1,0,none⟩=some (.slice a done.length c):=λo=>(World.cell?_of_block (w:=w1) (Qcb w1 o (w.heap.size+1) (by omega))).trans p0;have P1:∀o,(w1.alloc o).cell? ⟨w.heap.size+1,1,none⟩=some (.int .i64 done.length):=λo=>(World.cell?_of_block (w:=w1) (Qcb w1 o (w.heap.size+1) (by omega))).trans p1;have P3:∀o,(w1.alloc o).cell? ⟨w.heap.size+1,3,none⟩=some (.int .i64 (-1)):=λo=>(World.cell?_of_block (w:=w1) (Qcb w1 o (w.heap.size+1) (by omega))).trans p3;have af:decide (done.length<done.length)=false:=by simp
   have hdi:decide ((done.length:Int)<(done.length:Int))=false:=by simp
   go_upto_region 14 with fail;go_cut [67](λs67 wx=>s67= .bool false/\SH w1 (.cells #[.int .i64 xk, .int .i64 xn, .string xs, .slice xa xl.length xc] 287) wx);case first=>
    go_quiet(fail);go_wp2_with fail;go_meet;exact⟨rfl,Kg _ rfl rfl rfl rfl⟩
   case rest=>
    obtain⟨rfl,QF,iO,Dp⟩:=hcut;clear p0 p1 p2 p3;have U2:=(Dp.block (w.heap.size+1) (by omega)).trans qK.out.box;obtain⟨p0,p1,p2,p3⟩:=ae U2;have HRc:Hid (wc.heap[w.heap.size]? =some (.cells #[.int .i64 0, .int .i64 0, .string ⟨#[]⟩, .slice none 0 0] 287 (0,0))):=(Dp.block _ (by omega)).trans pZ.out;obtain⟨e0,e1,e2,e3⟩:=ae QF;have QP:=ym (fp w) wc (.agg #[.int .i64 xk, .int .i64 xn, .string xs, .slice xa xl.length xc]) (.mk xk xn xs xl) ⟨_,rfl,aA.ev (α:=ax) fH.out ⟨ai.ao Dp,λi hi=> .inl (by unfold fp at hi⊢;omega)⟩⟩ Yy.out hdp hsz;have HBc:Hid (Below w.heap.size w wc):=aO.out.trans (Dp.mono (by omega));have qac:Hid (cC (λi=>i<w.heap.size+1) wc [.int .i64 xk, .int .i64 xn, .string xs, .slice xa xl.length xc] (.mk xk xn xs xl)):=aA.ev (α:=ax) fH.out ⟨ai.ao Dp,λi hi=> .inl (by unfold fp;omega)⟩;have WK:=hD QP;clear QP;have Dn:=hD QF;clear QF;clear U2 Dp;go_wp2_with fail;refine(WK.out).mono ?_;rintro e w5⟨rfl,lL⟩;have GO:Hid (w5.heap[w.heap.size]? =some (.cells #[.int .i64 0, .int .i64 0, .string ⟨#[]⟩, .slice none 0 0] 287 (0,0))):=(lL.block _ (by omega)).trans HRc.out;have Ab:=hD ((lL.block _ (by omega)).trans Dn.out);have j7:Hid (Below w.heap.size w w5):=HBc.out.trans (lL.mono (by omega));have qad:=hD (aA.ev (α:=ax) qac.out (Ev.ao lL));clear e0 e1 e2 e3 p0 p1 p2 p3 lL;obtain⟨e0,e1,e2,e3⟩:=ae Ab.out;obtain⟨r0,r1,r2,r3⟩:=ae GO.out;have g0:=ag GO.out 0;have g1:=ag GO.out 1;have g2:=ag GO.out 2;have g3:=ag GO.out 3;go_wp2_with fail;refine Qae (v:= .tuple #[.agg #[.int .i64 xk, .int .i64 xn, .string xs, .slice xa xl.length xc], .int .i64 0, .int .i64 0]) (by simp[results,results200,go_sem,r0,r1,r2,r3]) rfl ⟨_,rfl,⟨_,rfl,aA.ev (α:=ax) qad.out ?_⟩,?_⟩
    .exact((((Ev.eG w5 (λi h=>by unfold fp at h;omega)).setCell (.inl (by simp)) _).setCell (.inl (by simp)) _).setCell (.inl (by simp)) _).setCell (.inl (by simp)) _
    .exact(((j7.out.setCell (Qab _) _).setCell (Qab _) _).setCell (Qab _) _).setCell (Qab _) _
def below_drewN {a:aj}(h:Below B a w)(n:Nat):Below B a (w.drewN n):=⟨h.os,h.tape,h.output,h.size,h.block⟩
def wH(b:Nat)(bad:Int)(w:aj):Prop:=w.heap[b]? =some (xK #[xL none 0 0,xI 0,xI 0,xI bad] 303)
def yo(b:Nat)(w:aj)(e:Ending)(w':aj):Prop:=e=xR (.agg iN)/\wH b 0 w'/\ai (aN b) w w'
def yp {bad:Int}(h:wH b bad W)(iG:b≠w.heap.size)(v0 v1 v2 v3:an):wH b bad ((((W.setCell ⟨w.heap.size,0,none⟩ v0).setCell ⟨w.heap.size,1,none⟩ v1).setCell ⟨w.heap.size,2,none⟩ v2).setCell ⟨w.heap.size,3,none⟩ v3):=
 (Qag _ _ _ _ iG).trans ((Qag _ _ _ _ iG).trans ((Qag _ _ _ _ iG).trans ((Qag _ _ _ _ iG).trans h)))
def uE(h:ai (aN b) w W)(v0 v1 v2 v3:an):ai (aN b) w ((((W.setCell ⟨w.heap.size,0,none⟩ v0).setCell ⟨w.heap.size,1,none⟩ v1).setCell ⟨w.heap.size,2,none⟩ v2).setCell ⟨w.heap.size,3,none⟩ v3):=
 (((h.setCell (.inr bq) v0).setCell (.inr bq) v1).setCell (.inr bq) v2).setCell (.inr bq) v3
def He(b:Nat)(w:World)(h:wH b (-1) w):xC 216 #[xP b] w (yo b w):=by
 have cw:b<w.heap.size:=(Qaa.1 h).1;obtain⟨p0,p1,p2,p3⟩:=ae h;have f3:=ag h 3;have iG:b≠w.heap.size:=by omega
 have HP:=af h;clear h;go_enter func216,ntmps216;go_upto_region 3 with fail;obtain⟨W,hW⟩:=cM ((w.setCell ⟨b,3,none⟩ (xI 0)).alloc (xK #[xI 0,xI 0,xS ⟨#[]⟩,xL none 0 0] 287));rw[<-hW];have HB:=af (show wH b 0 W by unfold wH;rw[hW];exact(Qcb _ _ b (by simpa using cw)).trans (Qca w b 3 _ _ _ HP.o));have HR:=af (show W.heap[w.heap.size]? =some (xK #[xI 0,xI 0,xS ⟨#[]⟩,xL none 0 0] 287)by rw[hW];have h:=Qbh (w.setCell ⟨b,3,none⟩ (xI 0)) (xK #[xI 0,xI 0,xS ⟨#[]⟩,xL none 0 0] 287);simpa using h);have HO:=af (show ai (aN b) w W by rw[hW];exact((ai.refl (aN b) w).Lx 3 _).alloc _);clear hW p0 p1 p2 p3 f3;obtain⟨p0,p1,p2,p3⟩:=ae HB.o;obtain⟨r0,r1,r2,r3⟩:=ae HR.o;obtain⟨g0,g1,g2,g3⟩:=ic HR.o;go_quiet(fail);go_wp2_with fail;refine Qae (v:= .agg #[xI 0,xI 0,xS ⟨#[]⟩,xL none 0 0]) (by simp[results,results216,go_sem,r0,r1,r2,r3]) rfl ⟨rfl,?_,?_⟩
 .exact yp (w:=w) (W:=W.drewN nq) HB.o iG _ _ _ _
 .exact uE (HO.o.drewN nq) _ _ _ _
def D6(b:Nat)(w:aj)(h:wH b (-1) w):xC 228 #[xP b] w (yo b w):=by
 have cw:b<w.heap.size:=(Qaa.1 h).1;obtain⟨p0,p1,p2,p3⟩:=ae h;have iG:b≠w.heap.size:=by omega
 have HP:=af h;clear h;go_enter func228,ntmps228;go_wp2_with fail;go_quiet(fail);obtain⟨W,hW⟩:=cM ((w.alloc (xK iN 287)).drewN nq);rw[<-hW];have HB:=af (show wH b (-1) W by unfold wH;rw[hW];exact(Qcb w _ b cw).trans HP.o);have HR:=af (show dY W w (xK iN 287)by rw[hW];exact Qbh w _);have HO:=af (show ai (aN b) w W by rw[hW];exact((ai.refl (aN b) w).alloc _).drewN nq);have hsz:w.heap.size<W.heap.size:=(Qaa.1 HR.o).1;have bA:=He b W HB.o;have bt:=af bA;clear bA;clear hW p0 p1 p2 p3;go_wp2_with fail;refine(bt.o).mono ?_;rintro e w1⟨rfl,vm,fJ⟩;have pZ:Hd (dY w1 w (xK iN 287)):=(fJ.block _ hsz (by unfold aN;omega)).trans HR.o;obtain⟨r0,r1,r2,r3⟩:=ae pZ.o;obtain⟨g0,g1,g2,g3⟩:=ic pZ.o;have Np:=af vm;clear vm;have oP:=af fJ;clear fJ;go_wp2_with fail;refine Qae (v:= .agg iN) (by simp[results,results228,go_sem,r0,r1,r2,r3]) rfl ⟨rfl,?_,?_⟩
 .exact yp (w:=w) Np.o iG _ _ _ _
 .exact uE (HO.o.trans oP.o) _ _ _ _
def Hf(b:Nat)(w:aj)(h:wH b (-1) w):xC 215 #[xP b,xI 1] w (yo b w):=by
 have cw:b<w.heap.size:=(Qaa.1 h).1;have iG:b≠w.heap.size:=by omega
 have bA:=D6 b (w.alloc (xK iN 287)) ((Qcb w _ b cw).trans h);have HP:=af h;clear h;have bt:=af bA;clear bA;go_enter func215,ntmps215;go_wp2_with fail;refine(bt.o).mono ?_;rintro e w1⟨rfl,vm,fJ⟩;have dB:=fJ.size;simp at dB;have pZ:Hd (dY w1 w (xK iN 287)):=(fJ.block _ (by simp) (by unfold aN;omega)).trans (Qbh w _);have HO:Hd (ai (aN b) w w1):=((ai.refl _ w).alloc _).dc fJ (λi hi _=>hi);have Np:=af vm;clear vm;clear fJ;go_wp2;go_loopg [6]0(λg _ wr=>g=0/\Hd (SH w1 (xK iN 287) wr));case atStart=>exact⟨rfl,(Kg _ rfl rfl rfl rfl)⟩
 case round=>
  obtain⟨rfl,HT⟩:=hrel;obtain⟨hx,iO,Dp⟩:=HT.o;have GP:Hd (wH b 0 wr):=(Dp.block b (by omega)).trans Np.o;have zY:Hd (dY wr w (xK iN 287)):=(Dp.block _ (by omega)).trans pZ.o;have ue:Hd (ai (aN b) w wr):=HO.o.trans (ai.ao Dp);obtain⟨p0,p1,p2,p3⟩:=ae GP.o;obtain⟨r0,r1,r2,r3⟩:=ae zY.o;obtain⟨g0,g1,g2,g3⟩:=ic zY.o;obtain⟨x0,x1,x2,x3⟩:=ae hx;have qae:w.heap.size≠w1.heap.size:=by omega
  have HX:=af hx;clear hx;clear Dp iO;go_wp2_with fail;go_quiet(fail);go_wp2_with fail;refine Qae (v:= .agg iN) (by simp[results,results215,go_sem,r0,r1,r2,r3]) rfl ⟨rfl,?_,?_⟩
  .exact yp (w:=w) (W:=wr.drewN nq) GP.o iG _ _ _ _
  .exact uE (ue.o.drewN nq) _ _ _ _
def D7(w:aj):xC 200 #[xS ⟨#[]⟩] w (cN (.tuple #[.agg iN,xI 0,xI 50]) w):=by
 go_enter func200,ntmps200;go_wp2;go_loopg [3,4,6,7,8]0(λg r1 r2 iv _ _ wr=>g=0/\r1=xI 0/\r2=xI 0/\iv=xI 0/\Hd (wG w (xK iN 287) (xK #[xL none 0 0,xI 0,xI 0,xI (-1)] 303) wr));case atStart=>exact⟨rfl,rfl,rfl,rfl,(Of (jM (w:=w) rfl) rfl rfl rfl rfl)⟩
 case round=>
  obtain⟨rfl,rfl,rfl,rfl,HT⟩:=hrel;obtain⟨hR,hP,hs,hb⟩:=HT.o;have bA:=Hf (w.heap.size+1) wr hP;have hsz:w.heap.size+1<wr.heap.size:=by omega
  have HR:=af hR;clear hR;have HB:=af hb;clear hb;have bt:=af bA;clear bA;clear hP hs;go_wp2_with fail;refine(bt.o).mono ?_;rintro e w1⟨rfl,vm,fJ⟩;have dB:=fJ.size;have pZ:Hd (dY w1 w (xK iN 287)):=(fJ.block _ (by omega) (by unfold aN;omega)).trans HR.o;have aO:Hd (aq w w1):=⟨fJ.os.trans HB.o.os,fJ.tape.trans HB.o.tape,fJ.output.trans HB.o.output,Qcg HB.o.size dB,λy hy=>(fJ.block y (by omega) (by unfold aN;omega)).trans (HB.o.block y hy)⟩;obtain⟨W,hW⟩:=cM (w1.alloc (xK iN 287));obtain⟨wx,wxs,wxb⟩:=sB hW;have TY:Hd (wH (w.heap.size+1) 0 W):=(wxb.block _ (by omega)).trans vm;have UY:Hd (dY W w (xK iN 287)):=(wxb.block _ (by omega)).trans pZ.o;have Ce:Hd (aq w W):=aO.o.trans (wxb.mono (by omega));clear vm fJ wx wxs wxb;go_upto_region 14 with fail;rw[<-hW];clear hW;obtain⟨p0,p1,p2,p3⟩:=ae TY.o;obtain⟨r0,r1,r2,r3⟩:=ae UY.o;obtain⟨g0,g1,g2,g3⟩:=ic UY.o;go_quiet(fail);go_wp2_with fail;go_region;all_goals
   go_wp2_with fail;refine Qae (v:= .tuple #[.agg iN,xI 0,xI 50]) (by simp[results,results200,go_sem,r0,r1,r2,r3]) rfl ⟨rfl,?_⟩;exact((((below_drewN Ce.o _).setCell bq _).setCell bq _).setCell bq _).setCell bq _
def jk(c:az)(x:ax)(t:aR):Prop:=∀(M:aS)(w:aj)(v fv:an),bS M w v x->ab M w fv c.fields->
 xC 218 #[v, .agg #[xS c.name,fv]] w (cN (.tuple #[.agg #[xI t.kind,xI t.of],xB true]) w)
def fX(c:az)(x:ax)(p:Int):Prop:=∀(M:aS)(w:aj)(v fv:an),bS M w v x->ab M w fv c.fields->
 xC 230 #[v, .agg #[xS c.name,fv]] w (cN (xI p) w)
def eA {k n:Int}{l:List ax}(h:bS M w v (ax.mk k n s l)):∃a cap,v= .agg #[xI k,xI n,xS s,xL a l.length cap]/\ab M w (xL a l.length cap) l:=by
 obtain⟨cs,rfl,bU⟩:=h;obtain⟨lv,rfl,bo,_⟩:=cC.iff.1 bU;have h2:=bo;obtain⟨a,cap,rfl,_⟩:=h2.open_;exact⟨a,cap,rfl,bo⟩
def ig(c:az)(x:ax)(t:aR)(ht:t.kind=1\/t.kind=2)(H:jk c x t):fX c x t.kind:=by
 intro M w v fv gz bR;obtain⟨xk,xn,xs,xl⟩:=x;have uf:=af gz;have im:=af bR;obtain⟨a,cap,rfl,_⟩:=eA gz;obtain⟨fa,fc,rfl,_⟩:=bR.open_;have HC:Hd (∀W,aq w W->xC 218 #[.agg #[xI xk,xI xn,xS xs,xL a xl.length cap], .agg #[xS c.name,xL fa c.fields.length fc]] W (cN (.tuple #[.agg #[xI t.kind,xI t.of],xB true]) W)):=λW hb=>H M W _ _ (uf.o.below hb) (im.o.below hb);obtain⟨tk,Aq⟩:=t;dsimp only at ht HC⊢;rcases ht with rfl|rfl;all_goals
  go_enter func230,ntmps230;go_wp2_with fail;refine cG (HC.o _ (by exact bO.alloc (by simp) _)) λw1 aC=> ?_;have aO:Hd (aq w w1):=((bO.alloc (by simp) _)).trans (aC.mono (by simp;omega));go_wp2;go_ret;exact⟨rfl,aO.o.alloc aO.o.size _⟩
def iC(c:az)(k n:Int)(s:aT)(l:List ax)(hk:k=1\/k=2):jk c (.mk k n s l) ⟨k,0⟩:=by
 intro M w v fv gz bR;obtain⟨a,cap,rfl,_⟩:=eA gz;obtain⟨fa,fc,rfl,_⟩:=bR.open_;rcases hk with rfl|rfl;all_goals
  go_enter func218,ntmps218;go_wp2_with fail;refine Qae (v:= .tuple #[.agg #[xI _,xI 0],xB true]) (by simp[results,results218,go_sem];try rfl) rfl ⟨rfl,?_⟩;exact(bO.alloc (by simp) _).alloc (by simp;omega) _
def Hg(c:az)(s:aT)(f:ay)(i:Nat)(hi:fieldAt c s=i)(hf:c.fields[i]? =some f):jk c (.mk 3 0 s []) f.type:=by
 intro M w v fv gz bR;obtain⟨a,cap,rfl,_⟩:=eA gz;have im:=af bR;obtain⟨fa,fc,rfl,_,_,hc⟩:=bR.open_;have zV:=(Qad.1 hf).1;obtain⟨b,off,rfl,hM,cw,aG⟩:=hc (by omega);obtain⟨cs,⟨rfl,_⟩,bD⟩:=aG i f hf;have HC:Hd (∀W,aq w W->xC 79 #[.agg #[xS c.name,xL (some ⟨b,off,none⟩) c.fields.length fc],xS s] W (cN (.tuple #[xI i,xB true]) W)):=λW hb=>lT M _ W c s i true (im.o.below hb) (by rw[hi,if_neg (by omega)]) (by rw[hi,decide_eq_false (by omega)];rfl);have q1:aU w b (off+i*4+1) (xI f.type.kind):=bD 1 _ rfl;have q2:aU w b (off+i*4+1+1) (xI f.type.of):=bD 2 _ rfl;have US:(i:Int)<(c.fields.length:Int):=by omega
 go_enter func218,ntmps218;go_wp2_with fail;refine cG (HC.o _ (by exact(bO.alloc (by simp) _).alloc (by simp;omega) _)) λw1 aC=> ?_;have kD:aq w w1:=(((bO.alloc (by simp) _)).alloc (by simp;omega) _).trans (aC.mono (by simp;omega));have k1:aU w1 b (off+i*4+1) (xI f.type.kind):=(kD.cell (p:=⟨b,off+i*4+1,none⟩) cw).trans q1;have k2:aU w1 b (off+i*4+1+1) (xI f.type.of):=(kD.cell (p:=⟨b,off+i*4+1+1,none⟩) cw).trans q2;have fI:=af ((aC.block (w.heap.size+1) (by simp)).trans (D1 (w:=w) rfl).2.1);have jT:=af ((aC.block (w.heap.size+2) (by simp)).trans (D1 (w:=w) rfl).2.2.1);obtain⟨c0,c1⟩:=ah fI.o;have xH:cI w1 (w.heap.size+1+1) (xK #[xI 0,xI 0] 136):=jT.o;obtain⟨r0,r1⟩:=ah xH;obtain⟨g0,g1⟩:=nu xH;have dB:=aC.size;simp at dB;have iA:=af kD;go_wp2_with fail;refine Qae (v:= .tuple #[.agg #[xI f.type.kind,xI f.type.of],xB true]) (by simp[results,results218,go_sem,r0,r1]) rfl ⟨rfl,?_⟩;exact(iA.o.setCell (by simp;omega) _).setCell (by simp;omega) _
def kG {l:List ax}{k n:Int}{ll:List ax}(h:ab M w (xL a l.length cap) l)(hi:l[i]? =some (.mk k n s ll)):
 ∃b off ka kc,a=some ⟨b,off,none⟩/\b<w.heap.size/\aU w b (off+i*4) (xI k)/\aU w b (off+i*4+1) (xI n)/\aU w b (off+i*4+2) (xS s)/\aU w b (off+i*4+3) (xL ka ll.length kc)/\
  bS M w (.agg #[xI k,xI n,xS s,xL ka ll.length kc]) (ax.mk k n s ll):=by
 obtain⟨a',fq,e,_,_,hc⟩:=h.open_;simp only[Value.slice.injEq,true_and]at e;obtain⟨rfl,rfl⟩:=e;have zV:=(Qad.1 hi).1;obtain⟨b,off,rfl,hM,cw,aG⟩:=hc (by omega);obtain⟨cs,bU,bD⟩:=aG i _ hi;have pY:cC M w cs (.mk k n s ll):=bU;obtain⟨lv,rfl,bo,j6⟩:=cC.iff.1 pY;have h2:=bo;obtain⟨ka,kc,rfl,_⟩:=h2.open_;exact⟨b,off,ka,kc,rfl,cw,bD 0 _ rfl,bD 1 _ rfl,bD 2 _ rfl,bD 3 _ rfl,_,rfl,bU⟩
def eK(w:aj)(o0 o1:Obj)(wx:aj):Prop:=wx.heap[w.heap.size]? =some o0/\wx.heap[w.heap.size+1]? =some o1/\wx.heap[w.heap.size+1+1]? =some (xK #[xI 0,xI 0] 136)/\aq w wx/\w.heap.size+2<wx.heap.size
theorem eK.below(h:eK w o0 o1 wx)(k:aq wx w'):eK w o0 o1 w':=by
 obtain⟨h1,h2,h3,h4,h5⟩:=h;have:=k.size;exact⟨(k.block _ (by omega)).trans h1,(k.block _ (by omega)).trans h2,(k.block _ (by omega)).trans h3,h4.trans (k.mono (by omega)),by omega⟩
theorem eK.drew(h:eK w o0 o1 wx):eK w o0 o1 wx.drew:=⟨h.1,h.2.1,h.2.2.1,h.2.2.2.1.drew,h.2.2.2.2⟩
theorem eK.new(w:aj)(o0 o1:Obj):eK w o0 o1 (((w.alloc o0).alloc o1).alloc (xK #[xI 0,xI 0] 136)):=by
 obtain⟨a,b,c,d,e⟩:=D1 (w:=w) (o0:=o0) (o1:=o1) (o2:=xK #[xI 0,xI 0] 136) rfl;exact⟨a,b,c,e,by rw[d];omega⟩
def xd(c:az)(s:List UInt8)(x y:ax)(p q:Int)(t:aR)(hx:fX c x p)(hy:fX c y q)
 (ht:(s=[38]/\p=2/\q=2/\t=⟨2,0⟩)\/((s=[61]\/s=[62])/\p=q/\(p=1\/p=2)/\t=⟨1,0⟩)\/((s=[42]\/s=[45]\/s=[47])/\p=1/\q=1/\t=⟨1,0⟩)):jk c (.mk 4 0 (bL s) [x,y]) t:=by
 intro M w v fv gz bR;obtain⟨a,cap,rfl,bo⟩:=eA gz;obtain⟨xk,xn,xs,xl⟩:=x;obtain⟨yk,yn,ys,yl⟩:=y;obtain⟨b,off,xa,xc,rfl,cw,x0,x1,x2,x3,R6⟩:=kG (i:=0) bo rfl;obtain⟨b',AV,ya,yc,e,_,y0,y1,y2,y3,GQ⟩:=kG (i:=1) bo rfl;simp only[Qcf,Addr.mk.injEq,and_true]at e;obtain⟨rfl,rfl⟩:=e;simp only[Nat.zero_mul,Nat.add_zero]at x0 x1 x2 x3;simp only[Nat.one_mul]at y0 y1 y2 y3;have im:=af bR;obtain⟨fa,fc,rfl,_⟩:=bR.open_;have HX:Hd (∀W,aq w W->xC 230 #[.agg #[xI xk,xI xn,xS xs,xL xa xl.length xc], .agg #[xS c.name,xL fa c.fields.length fc]] W (cN (xI p) W)):=λW hb=>hx M W _ _ (R6.below hb) (im.o.below hb);have HY:Hd (∀W,aq w W->xC 230 #[.agg #[xI yk,xI yn,xS ys,xL ya yl.length yc], .agg #[xS c.name,xL fa c.fields.length fc]] W (cN (xI q) W)):=λW hb=>hy M W _ _ (GQ.below hb) (im.o.below hb);clear gz bR bo R6 GQ hx hy;have hlen:[ax.mk xk xn xs xl,ax.mk yk yn ys yl].length=2:=rfl;rw[hlen];clear hlen;go_enter func218,ntmps218;go_upto_region 16 with fail;obtain⟨W,hW⟩:=cM (((w.alloc (xK #[xI 4,xI 0,xS (bL s),xL (some ⟨b,off,none⟩) 2 cap] 287)).alloc (xK #[xS c.name,xL fa c.fields.length fc] 101)).alloc (xK #[xI 0,xI 0] 136));rw[<-hW];have HW:=af (show eK w (xK #[xI 4,xI 0,xS (bL s),xL (some ⟨b,off,none⟩) 2 cap] 287) (xK #[xS c.name,xL fa c.fields.length fc] 101) W by rw[hW];exact eK.new w _ _);clear hW;have tP:Hd (∀W,aq w W->aU W b off (xI xk)/\aU W b (off+1) (xI xn)/\aU W b (off+2) (xS xs)/\aU W b (off+3) (xL xa xl.length xc)/\aU W b (off+4) (xI yk)/\aU W b (off+4+1) (xI yn)/\aU W b (off+4+2) (xS ys)/\aU W b (off+4+3) (xL ya yl.length yc)):=λW hb=>
  ⟨(hb.cell (p:=⟨b,off,none⟩) cw).trans x0,(hb.cell (p:=⟨b,off+1,none⟩) cw).trans x1,(hb.cell (p:=⟨b,off+2,none⟩) cw).trans x2,(hb.cell (p:=⟨b,off+3,none⟩) cw).trans x3,(hb.cell (p:=⟨b,off+4,none⟩) cw).trans y0,(hb.cell (p:=⟨b,off+4+1,none⟩) cw).trans y1,(hb.cell (p:=⟨b,off+4+2,none⟩) cw).trans y2,(hb.cell (p:=⟨b,off+4+3,none⟩) cw).trans y3⟩;clear x0 x1 x2 x3 y0 y1 y2 y3;go_cut [9](λs9 wx=>s9=xI p/\Hd (eK w (xK #[xI 4,xI 0,xS (bL s),xL (some ⟨b,off,none⟩) 2 cap] 287) (xK #[xS c.name,xL fa c.fields.length fc] 101) wx));case first=>
  obtain⟨a0,a1,a2,a3⟩:=ae HW.o.1;obtain⟨c0,c1⟩:=ah HW.o.2.1;obtain⟨x0,x1,x2,x3,_⟩:=tP.o W HW.o.2.2.2.1;go_region_law(first|(go_simp;go_at_call 230;refine cG (HX.o _ (by exact HW.o.2.2.2.1.drew)) λw1 aC=> ?_;have mj:=af (HW.o.drew.below aC);clear aC));all_goals(go_wp2_with fail;go_meet;exact⟨rfl,mj⟩)
 case rest=>
  obtain⟨rfl,fQ⟩:=hcut;clear HW;go_upto_region 17 with fail;go_cut [10](λs10 wx=>s10=xI q/\Hd (eK w (xK #[xI 4,xI 0,xS (bL s),xL (some ⟨b,off,none⟩) 2 cap] 287) (xK #[xS c.name,xL fa c.fields.length fc] 101) wx));case first=>
   obtain⟨a0,a1,a2,a3⟩:=ae fQ.o.1;obtain⟨c0,c1⟩:=ah fQ.o.2.1;obtain⟨_,_,_,_,x0,x1,x2,x3⟩:=tP.o _ fQ.o.2.2.2.1;go_region_law(first|(go_simp;go_at_call 230;refine cG (HY.o _ (by exact fQ.o.2.2.2.1.drew)) λw1 aC=> ?_;have mj:=af (fQ.o.drew.below aC);clear aC));all_goals(go_wp2_with fail;go_meet;exact⟨rfl,mj⟩)
  case rest=>
   obtain⟨rfl,qA⟩:=hcut;obtain⟨a0,a1,a2,a3⟩:=ae qA.o.1;obtain⟨r0,r1⟩:=ah qA.o.2.2.1;obtain⟨g0,g1⟩:=nu qA.o.2.2.1;have GR:=qA.o.2.2.2.1;have TZ:=af GR;clear GR;clear tP HX HY fQ;rcases ht with⟨rfl,rfl,rfl,rfl⟩|⟨hs,rfl,hp,rfl⟩|⟨hs,rfl,rfl,rfl⟩
   .replace a2:pd wc w 2 (xS ⟨#[38]⟩):=a2;go_wp2_with fail;refine Qae (v:= .tuple #[.agg #[xI 2,xI 0],xB true]) (by simp[results,results218,go_sem,r0,r1]) rfl ⟨rfl,?_⟩;exact(TZ.o.setCell (by simp;omega) _).setCell (by simp;omega) _
   .rcases hs with rfl|rfl<;>rcases hp with rfl|rfl;all_goals
     (first|replace a2:pd wc w 2 (xS ⟨#[61]⟩):=a2|replace a2:pd wc w 2 (xS ⟨#[62]⟩):=a2);go_wp2_with fail;refine Qae (v:= .tuple #[.agg #[xI 1,xI 0],xB true]) (by simp[results,results218,go_sem,r0,r1]) rfl ⟨rfl,?_⟩;exact(TZ.o.setCell (by simp;omega) _).setCell (by simp;omega) _
   .rcases hs with rfl|rfl|rfl;all_goals
     (first|replace a2:pd wc w 2 (xS ⟨#[42]⟩):=a2|replace a2:pd wc w 2 (xS ⟨#[45]⟩):=a2|replace a2:pd wc w 2 (xS ⟨#[47]⟩):=a2);go_wp2_with fail;refine Qae (v:= .tuple #[.agg #[xI 1,xI 0],xB true]) (by simp[results,results218,go_sem,r0,r1]) rfl ⟨rfl,?_⟩;exact(TZ.o.setCell (by simp;omega) _).setCell (by simp;omega) _
def fw(s:List UInt8):List UInt8:=
 if s=[108,101,110]then[116]else if s=[116,101,120,116]then[110]else if s=[108,101,102,116]\/s=[102,114,111,109]then[116,110]else if s=[102,105,110,100]then[116,116]else[]
def nz:List (List UInt8):=[[108,101,110],[116,101,120,116],[108,101,102,116],[102,114,111,109],[102,105,110,100]]
def Oh(s:List UInt8)(hs:s∈nz)(w:aj):xC 263 #[xS (bL s)] w (gE (xS (bL (fw s))) w):=by
 simp only[nz,Qdf,List.not_mem_nil,or_false]at hs;rcases hs with rfl|rfl|rfl|rfl|rfl
 .show xC 263 #[xS ⟨#[108,101,110]⟩] w _;go_enter func263,ntmps263;go_wp2;go_ret;exact⟨rfl,rfl⟩
 .show xC 263 #[xS ⟨#[116,101,120,116]⟩] w _;go_enter func263,ntmps263;go_wp2;go_ret;exact⟨rfl,rfl⟩
 .show xC 263 #[xS ⟨#[108,101,102,116]⟩] w _;go_enter func263,ntmps263;go_wp2;go_ret;exact⟨rfl,rfl⟩
 .show xC 263 #[xS ⟨#[102,114,111,109]⟩] w _;go_enter func263,ntmps263;go_wp2;go_ret;exact⟨rfl,rfl⟩
 .show xC 263 #[xS ⟨#[102,105,110,100]⟩] w _;go_enter func263,ntmps263;go_wp2;go_ret;exact⟨rfl,rfl⟩
def sE(s:List UInt8):aR:=if s=[116,101,120,116]\/s=[108,101,102,116]\/s=[102,114,111,109]then⟨2,0⟩else⟨1,0⟩
def partOf(c:UInt8):Int:=if c=110 then 1 else 2
def Hh {s:List UInt8}(hs:s∈nz):0<(fw s).length/\∀c∈fw s,c=110\/c=116:=by
 simp only[nz,Qdf,List.not_mem_nil,or_false]at hs;rcases hs with rfl|rfl|rfl|rfl|rfl<;>decide
def SI(c:az)(s:List UInt8)(hs:s∈nz)(l:List ax)(hl:l.length=(fw s).length)(hp:∀(i:Nat)(e:ax)(u:UInt8),l[i]? =some e->(fw s)[i]? =some u->fX c e (partOf u))(M:aS)(w:aj)(v fv:an)(gz:bS M w v (ax.mk 6 0 (bL s) l))(bR:ab M w fv c.fields):
 xC 231 #[v, .agg #[xS c.name,fv]] w (cN (.tuple #[.agg #[xI (sE s).kind,xI (sE s).of],xB true]) w):=by
 obtain⟨a,cap,rfl,bo⟩:=eA gz;have im:=af bR;obtain⟨fa,fc,rfl,_⟩:=bR.open_;obtain⟨Ds,hwb⟩:=Hh hs;have qaf:=af (λw=>Oh s hs w);have hif:((bL s).toList==[105,102])=false:=by rw[ByteArray.toList_eq,lU];simp only[nz,Qdf,List.not_mem_nil,or_false]at hs;rcases hs with rfl|rfl|rfl|rfl|rfl<;>decide
 have tO:(((bL s).toList==[108,101,102,116])=true/\sE s=⟨2,0⟩)\/(((bL s).toList==[108,101,102,116])=false/\((bL s).toList==[114,105,103,104,116])=false/\((bL s).toList==[102,114,111,109])=true/\sE s=⟨2,0⟩)\/(((bL s).toList==[108,101,102,116])=false/\((bL s).toList==[114,105,103,104,116])=false/\((bL s).toList==[102,114,111,109])=false/\((bL s).toList==[116,101,120,116])=true/\sE s=⟨2,0⟩)\/(((bL s).toList==[108,101,102,116])=false/\((bL s).toList==[114,105,103,104,116])=false/\((bL s).toList==[102,114,111,109])=false/\((bL s).toList==[116,101,120,116])=false/\sE s=⟨1,0⟩):=by
  rw[ByteArray.toList_eq,lU];simp only[nz,Qdf,List.not_mem_nil,or_false]at hs;rcases hs with rfl|rfl|rfl|rfl|rfl<;>decide
 have p8:=af tO;have hwl:(bL (fw s)).size=(fw s).length:=jF _;have WL:((bL (fw s)).toList==[])=false:=by rw[ByteArray.toList_eq,lU];cases hq:fw s;rw[hq]at Ds;simp at Ds;rfl
 have Ap:Hd (∀(i:Nat)(h:i<(bL (fw s)).size),∃u,(fw s)[i]? =some u/\(bL (fw s))[i]=u/\(u=110\/u=116)):=λi h=>by
  have h1:=du (bL (fw s)) i h;rw[lU]at h1;exact⟨_,h1,rfl,hwb _ (Qaf h1)⟩
 have qag:(fw s).length<=2:=by simp only[nz,Qdf,List.not_mem_nil,or_false]at hs;rcases hs with rfl|rfl|rfl|rfl|rfl<;>decide
 generalize hwv:bL (fw s)=wv at*;generalize qdm:(fw s).length=n at*;rw[hl]at bo⊢;have eE:=af bo;have HP:=af hp;have HL:=af hl;have HN:=af qdm;have HWL:=af hwl;have qgl:wv.size<=2:=by rw[HWL.o];exact qag
 have qgm:wv.size=n:=HWL.o;go_enter func231,ntmps231;go_wp2_with fail;refine dJ (qaf.o _) ?_;go_wp2;go_loopg [5,10,11]n(λg r5 iv _ wr=>∃i:Nat,i<=n/\g=n-i/\iv=xI i/\r5=xB false/\Hd (eK w (xK #[xI 6,xI 0,xS (bL s),xL a n cap] 287) (xK #[xS c.name,xL fa c.fields.length fc] 101) wr));case atStart=>exact⟨0,Qbf _,rfl,rfl,rfl,(eK.new w _ _)⟩
 case round=>
  obtain⟨i,hi,rfl,rfl,rfl,HW⟩:=hrel;by_cases aX:i<n
  .obtain⟨u,hu,hwi,hu2⟩:=Ap.o i (by omega);obtain⟨x,hx⟩:=dQ l i (by rw[HL.o];exact aX);have hpx:=HP.o i x u hx hu;obtain⟨xk,xn,xs,xl⟩:=x;have Dt:ab M w (xL a l.length cap) l:=by rw[HL.o];exact eE.o
   obtain⟨b,off,xa,xc,rfl,cw,x0,x1,x2,x3,R6⟩:=kG Dt hx;have HX:Hd (∀W,aq w W->xC 230 #[.agg #[xI xk,xI xn,xS xs,xL xa xl.length xc], .agg #[xS c.name,xL fa c.fields.length fc]] W (cN (xI (partOf u)) W)):=λW hb=>hpx M W _ _ (R6.below hb) (im.o.below hb);have US:(i:Int)<(n:Int):=by omega
   have dz:(0:Int)<=(i:Int):=Qba _;obtain⟨a0,a1,a2,a3⟩:=ae HW.o.1;obtain⟨c0,c1⟩:=ah HW.o.2.1;have y0:aU wr b (off+i*4) (xI xk):=(HW.o.2.2.2.1.cell (p:=⟨b,off+i*4,none⟩) cw).trans x0;have y1:aU wr b (off+i*4+1) (xI xn):=(HW.o.2.2.2.1.cell (p:=⟨b,off+i*4+1,none⟩) cw).trans x1;have y2:aU wr b (off+i*4+2) (xS xs):=(HW.o.2.2.2.1.cell (p:=⟨b,off+i*4+2,none⟩) cw).trans x2;have y3:aU wr b (off+i*4+3) (xL xa xl.length xc):=(HW.o.2.2.2.1.cell (p:=⟨b,off+i*4+3,none⟩) cw).trans x3;go_upto_region 14 with fail;go_cut [11](λs11 wx=>s11=xI (partOf u)/\Hd (eK w (xK #[xI 6,xI 0,xS (bL s),xL (some ⟨b,off,none⟩) n cap] 287) (xK #[xS c.name,xL fa c.fields.length fc] 101) wx));case first=>
    go_region_law(first|(go_simp;go_at_call 230;refine cG (HX.o _ (by exact HW.o.2.2.2.1.drew)) λw1 aC=> ?_;have mj:=af (HW.o.drew.below aC);clear aC));all_goals(go_wp2_with fail;go_meet;exact⟨rfl,mj⟩)
   case rest=>
    obtain⟨rfl,fQ⟩:=hcut;rcases hu2 with rfl|rfl
    .rw[show partOf 110=1 from rfl];go_wp2;go_roundg(n-(i+1));case measure=>omega
     case rel=>exact⟨i+1,by omega,rfl,by go_num,rfl,fQ⟩
    .rw[show partOf 116=2 from rfl];go_wp2;go_roundg(n-(i+1));case measure=>omega
     case rel=>exact⟨i+1,by omega,rfl,by go_num,rfl,fQ⟩
  .obtain⟨a0,a1,a2,a3⟩:=ae HW.o.1;obtain⟨r0,r1⟩:=ah HW.o.2.2.1;obtain⟨g0,g1⟩:=nu HW.o.2.2.1;have GR:=HW.o.2.2.2.1;have TZ:=af GR;rcases p8.o with⟨h1,ht⟩|⟨h1,h2,h3,ht⟩|⟨h1,h2,h3,h4,ht⟩|⟨h1,h2,h3,h4,ht⟩;all_goals
    have YA:=af ht;go_wp2_with fail;refine Qae (v:= .tuple #[.agg #[xI (sE s).kind,xI (sE s).of],xB true]) (by simp[results,results231,go_sem,r0,r1,YA.o]) rfl ⟨rfl,?_⟩;exact(TZ.o.setCell (by simp;omega) _).setCell (by simp;omega) _
end Go.Proofs.YtccpcfcochffcaaGreatDoor
