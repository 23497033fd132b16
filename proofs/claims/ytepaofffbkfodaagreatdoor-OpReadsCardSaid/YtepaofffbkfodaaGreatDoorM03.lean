/- A part of OpReads's proof; no condition. -/
import Derived.Test.YtepaofffbkfodaaGreatDoorM02
import Derived.Deep.RegionLaw
set_option linter.all false
set_option maxHeartbeats 8000000
set_option maxRecDepth 100000
namespace Go.Proofs.YtepaofffbkfodaaGreatDoor
open Tryz
open Go.RowKit
variable{v lv:an}{w w' w1 w2 W wr wx:aj}{e:TypeId}{base B k i b m K yc cap:Nat}{M N:aN}{en:Int}{a ya:fA}{s:aM}{o0 o1:Obj}
theorem aK.only {α:Type} [au α]{xs:List α}(h:aK M base e w v xs)(k:ai N w w')(hN:∀i,N i->M i/\i<base):aK M base e w' v xs:=by
 obtain⟨css,h1,h2,h3⟩:=h;have hE:Ev (bg v M) w (bg v M) w':=⟨k.mono λi hi=> .inl (hN i hi).1,λi hi=> .inl hi⟩;refine⟨css,⟨h1.1,?_⟩,h2,λi cs x hc hx=>au.ev (h3 i cs x hc hx) hE⟩;rcases h1.2 with h0|⟨g,cap,cur,e1,e2,e3,e4⟩
 .exact .inl h0
 .exact .inr ⟨g,cap,cur,e1,e2,(k.block g (Qaa.1 e3).1 (λhg=>by have:=(hN g hg).2;omega)).trans e3,e4⟩
theorem ai.du {S:aN}(h:ai S w w1)(k:Below B w1 w2)(hB:w.heap.size<=B):ai S w w2:=
 ⟨k.os.trans h.os,k.tape.trans h.tape,k.output.trans h.output,Qcg h.size k.size,λi hi hS=>(k.block i (Qde hi hB)).trans (h.block i hi hS)⟩
def Ag:(Tryz.prog.info? 319).map (λi=>(i.zero,i.size,i.bytes))=some (some (.agg iH),4,56):=by kernel_rfl
def tS(b:Nat)(lv:an)(en:Int)(T:List Tok)(w:aj)(nm:List UInt8)(l:List aw)(q:Nat)(C:List aw->Nat->Prop)(wr:aj):Prop:=
 ∃(a:fA)(c:Nat)(kids rest:List aw)(j:Nat),kids.length=q/\kids++rest=l/\aK (λi=>i<w.heap.size+2) (w.heap.size+2) 319 wr (xL a q c) kids/\dR b lv en T wr j/\ai (aO b) w wr/\w.heap.size+2<=wr.heap.size/\
  wr.heap[w.heap.size]? =some (xK iH 319)/\wr.heap[w.heap.size+1]? =some (xK #[xI 6,xI 0,xS (bL nm),xL a q c] 319)/\C rest j
def Oe(T:List Tok)(n:Nat)(r:List Tok)(k q:Nat)(rest:List aw)(j:Nat):Prop:=
 (q=0/\∃m,m<=k/\eM m n (T.drop j)=some (rest,r))\/(0<q/\q<n/\dT (T.drop j) [44]=true/\∃m,m<=k/\eM m (n-q) (T.drop (j+1))=some (rest,r))\/(q=n/\rest=[]/\dT (T.drop j) [41]=true/\r=T.drop (j+1))
def U8(T:List Tok)(n:Nat)(r:List Tok)(k q:Nat)(rest:List aw)(j:Nat):Prop:=∃m,m<=k/\eM m (n-q) (T.drop j)=some (rest,r)
def rQ {n:Nat}{ts:List Tok}{l:List aw}{r:List Tok}(h:eM k n ts=some (l,r))(hn:0<n):∃m e r1 l',k=m+1/\jb m 1 ts=some (e,r1)/\l=e::l'/\((n=1/\l'=[]/\dT r1 [41]=true/\r=r1.drop 1)\/(1<n/\dT r1 [44]=true/\eM m (n-1) (r1.drop 1)=some (l',r))):=by
 cases k with
 |zero=>simp[eM]at h
 |succ m=>
  unfold eM at h;cases he:jb m 1 ts with
  |none=>rw[he]at h;cases h
  |some p=>
   obtain⟨e,r1⟩:=p;rw[he]at h;dsimp only at h;by_cases h1:n=1
   .rw[if_pos h1]at h;by_cases hs:dT r1 [41]=true
    .rw[if_pos hs]at h;simp only[Qcf,Prod.mk.injEq]at h;exact⟨m,e,r1,[],rfl,he,h.1.symm, .inl ⟨h1,rfl,hs,h.2.symm⟩⟩
    .rw[if_neg hs]at h;cases h
   .rw[if_neg h1,if_neg (by omega)]at h;by_cases hs:dT r1 [44]=true
    .rw[if_pos hs]at h;cases ht:eM m (n-1) (r1.drop 1)with
     |none=>rw[ht]at h;cases h
     |some q=>
      obtain⟨l',r'⟩:=q;rw[ht]at h;simp only[Qcf,Prod.mk.injEq]at h;exact⟨m,e,r1,l',rfl,he,h.1.symm, .inr ⟨by omega,hs,by rw[<-h.2];exact ht⟩⟩
    .rw[if_neg hs]at h;cases h
theorem dR.drew {T:List Tok}(h:dR b lv en T w i):dR b lv en T w.drew i:=⟨h.box,h.toks,h.few,h.le,h.kinds⟩
def Da(s:List UInt8):dB s<=3:=by unfold dB;split;omega;split;omega;split<;>omega
def Lh(b:Nat)(lv:an)(en:Int)(T:List Tok)(k:Nat)(HE:∀m,m<k->JH b lv en T m):Oc b lv en T k:=by
 intro i nm l r w yJ mW fJ tD;obtain⟨i0,ed,ej,dO,er⟩:=info_parts Ag;have Yf:=Da nm;have cR:b<w.heap.size:=(Qaa.1 fJ.box).1;have RD:Hd (∀W,xC 384 #[xS (bL nm)] W (ji (xI (dB nm)) W)):=λW=>by have h:=tP (bL nm) W;rw[lz]at h;exact h
 generalize dB nm=n at*;have gM:=af fJ;have ry:=af tD;go_enter func385,ntmps385;go_wp2;go_loopg [6]n(λg iv wr=>∃q:Nat,q<=n/\g=n-q/\iv=xI q/\Hd (tS b lv en T w nm l q (Oe T n r k q) wr));case atStart=>
  refine⟨0,Qbf _,rfl,rfl,?_⟩;obtain⟨b0,b1,hz,hb⟩:=jR (w:=w) (o0:=xK iH 319) (o1:=xK #[xI 6,xI 0,xS (bL nm),xL none 0 0] 319) rfl;exact(show tS _ _ _ _ _ _ _ _ _ _ from⟨none,0,[],l,i,rfl,rfl,aK.nil _ _ _ _,gM.o.below hb,ai.ao hb,by rw[hz];omega,b0,b1, .inl ⟨rfl,k,bN,ry.o⟩⟩)
 case round=>
  obtain⟨q,hq,rfl,rfl,HL⟩:=hrel;have hqz:(q:Int)<=3:=by omega
  by_cases bu:q<n
  .have Wj:(q:Int)<(n:Int):=by omega
   obtain⟨a,c,kids,rest,j,CL,KA,hacc,j5,jx,hsz,hR,hE,hC⟩:=HL.o;obtain⟨p0,p1,p2,p3⟩:=ae j5.box;have wi:=af CL;have Fu:=af KA;have mQ:=af hacc;have tF:=af j5;have kY:=af jx;have HR:=af hR;have Us:=af hE;go_upto_if 23 with(go_at_call 384;refine cT (RD.o _) ?_);go_cut [](λwx=>Hd (tS b lv en T w nm l q (U8 T n r k q) wx));case first=>
    rcases hC with⟨rfl,hC⟩|⟨h1,h2,h3,hC⟩|⟨h1,_⟩
    .have qk:=af hC;go_wp2;go_meet;exact(show tS _ _ _ _ _ _ _ _ _ _ from⟨a,c,kids,rest,j,wi.o,Fu.o,mQ.o,tF.o,kY.o,hsz,HR.o,Us.o,qk.o⟩)
    .have h1z:(0:Int)<(q:Int):=by omega
     have bK:=JG b lv en T wr j ⟨#[44]⟩ tF.o h3;have br:=af bK;have qk:=af hC;go_wp2_with fail;refine(br.o).mono ?_;rintro e w1⟨v1,rfl,nH,gQ⟩;have qE:=af nH;have Jm:=af gQ;go_wp2;go_meet;have dO:=Jm.o.size;exact(show tS _ _ _ _ _ _ _ _ _ _ from⟨a,c,kids,rest,j+1,wi.o,Fu.o,mQ.o.only Jm.o (λi hi=>by unfold aO at hi;omega),qE.o,kY.o.trans Jm.o,by omega,(Jm.o.block _ (by omega) (by unfold aO;omega)).trans HR.o,(Jm.o.block _ (by omega) (by unfold aO;omega)).trans Us.o,qk.o⟩)
    .omega
   case rest=>
    obtain⟨a,c,kids,rest,j,CL,KA,hacc,j5,jx,hsz,hR,hE,m,wj,tD⟩:=Hd.o hcut;obtain⟨m',e,r1,l',rfl,hex,rfl,hC⟩:=rQ tD (by omega);obtain⟨yk,yn,ys,yl⟩:=e;have bK:=HE m' (by omega) 1 j (.mk yk yn ys yl) r1 wc.drew (by omega) (by omega) j5.drew hex;obtain⟨p0,p1,p2,p3⟩:=ae j5.box;obtain⟨e0,e1,e2,e3⟩:=ae hE;have fE:=ag hE 3;have lY:=hacc.cJ;have wi:=af CL;have Fu:=af KA;have mQ:=af hacc;have tF:=af j5;have kY:=af jx;have HR:=af hR;have Us:=af hE;have qk:=af hC;have br:=af bK;have Wk:=af lY;go_wp2_with fail;go_region_law(first
     |(go_simp;go_at_call 318;refine br.o.mono ?_;rintro e w1⟨_,jj,rfl,⟨cs,rfl,bV⟩,nH,rC,gQ⟩;obtain⟨av,rfl,bI,ke⟩:=cH.iff.1 bV;obtain⟨ya,yc,rfl,_⟩:=bI.open_;have s1:=gQ.size;simp at s1;have nI:Hd (ai (aO b) wc w1):=((ai.refl _ wc).drew.trans gQ);have eX:Hd (au.rep (bg (xL a q c) (λi=>i<w.heap.size+2)) w1 [xI yk,xI yn,xS ys,xL ya yl.length yc] (aw.mk yk yn ys yl)):=au.ev (α:=aw) bV (Ev.dD w1 (λi hi=>by unfold fy;rcases hi with h|h;show i<wc.heap.size;omega;exact(Wk.o i h).2));have qE:=af nH;have mY:=af rC;have k3:zm w1 w 3 (xL a q c):=(nI.o.cell (p:=⟨w.heap.size+1,3,none⟩) (by simp;omega) (by unfold aO;simp;omega)).trans e3;have n3:∀o,(w1.alloc o).cell? ⟨w.heap.size+1,3,none⟩=some (xL a q c):=λo=>(World.cell?_of_block (w:=w1) (Qcb w1 o (w.heap.size+1) (by omega))).trans k3;have jy:Hd (w1.frozen? ⟨w.heap.size+1,3,none⟩=false):=(nI.o.frozen (p:=⟨w.heap.size+1,3,none⟩) (by simp;omega) (by unfold aO;simp;omega)).trans fE;have zK:=af (mQ.o.only nI.o (λi hi=>by unfold aO at hi;omega));clear gQ bV bI ke nH rC)
     |(refine dJ (α:=aw) rfl _ _ _ rfl (λi=>i<w.heap.size+2) (w.heap.size+2) 319 i0 _ 56 underlying317 ed ej dO er rfl (by decide) (.slice a q c) kids rfl (zK.o.alloc _) (λ_=>True) _ _ (.mk yk yn ys yl) rfl (cD _ _ _ _ rfl trivial) (au.ev eX.o (Ev.ao bM)) (by rw[wi.o];unfold maxLen;omega) (by rw[wi.o];omega) (by simp;omega) ?_;rw[wi.o];intro a2 c2 w2 bj dz bC;have dh:=af bj;have l3:zm w2 w 3 (xL a q c):=(bC.cell (p:=⟨w.heap.size+1,3,none⟩) (by simp)).trans (n3 _);have l4:w2.frozen? ⟨w.heap.size+1,3,none⟩=false:=(bC.frozen (p:=⟨w.heap.size+1,3,none⟩) (by simp)).trans ((bM.frozen (p:=⟨w.heap.size+1,3,none⟩) (by simp;omega)).trans jy.o);have aQ:=af bC;clear bj dz bC));all_goals
     go_wp2;go_roundg(n-(q+1));case measure=>omega
     case rel=>
      refine⟨q+1,by omega,rfl,by go_num,?_⟩;have j6:=aQ.o.size;simp at j6;have hO2:ai (aO b) w w2:=((kY.o.trans nI.o).alloc _).du aQ.o (by omega);have hblk:∀x,x<w.heap.size+2->w2.heap[x]? =w1.heap[x]? :=λx hx=>(aQ.o.block x hx).trans (Qcb w1 _ x (by omega));have Bj:ai (aO b) w (w2.setCell ⟨w.heap.size+1,3,none⟩ (xL a2 (q+1) c2)):=hO2.setCell (.inr (by simp)) _;refine(show tS _ _ _ _ _ _ _ _ _ _ from⟨a2,c2,kids++[.mk yk yn ys yl],l',jj,by simp[wi.o],by rw[<-Fu.o];simp,dh.o.vz (by simp) (by simp) _,?_,Bj,by simp;omega,?_,?_,?_⟩)
      .exact gM.o.step Bj ((Qag _ _ _ _ (by simp;omega)).trans ((hblk b (by omega)).trans qE.o.box)) qE.o.le
      .exact(Qag _ _ _ _ (by simp)).trans ((hblk _ (by omega)).trans ((nI.o.block _ (by omega) (by unfold aO;omega)).trans HR.o))
      .exact Qca w2 _ 3 _ _ _ ((hblk _ (by omega)).trans ((nI.o.block _ (by omega) (by unfold aO;omega)).trans Us.o))
      .have rC:=mY.o;rcases qk.o with⟨h1,h2,h3,h4⟩|⟨h1,h2,h3⟩
       .subst rC;exact .inr (.inr ⟨by omega,h2,h3,by rw[h4,List.drop_drop]⟩)
       .subst rC;rw[List.drop_drop]at h3;exact .inr (.inl ⟨by omega,by omega,h2,m',by omega,by rw[show n-(q+1)=n-q-1 from by omega];exact h3⟩)
  .have Wj:¬(q:Int)<(n:Int):=by omega
   obtain⟨a,c,kids,rest,j,CL,KA,hacc,j5,jx,hsz,hR,hE,hC⟩:=HL.o;have Ut:rest=[]/\dT (T.drop j) [41]=true/\r=T.drop (j+1):=by
    rcases hC with⟨h1,_⟩|⟨_,h2,_⟩|⟨_,h1,h2,h3⟩
    .omega
    .omega
    .exact⟨h1,h2,h3⟩
   obtain⟨rfl,h41,rfl⟩:=Ut;rw[List.append_nil]at KA;subst KA;have bK:=JG b lv en T wr j ⟨#[41]⟩ j5 h41;have wi:=af CL;have mQ:=af hacc;have kY:=af jx;have HR:=af hR;have Us:=af hE;have br:=af bK;go_wp2_with(go_at_call 384;refine cT (RD.o _) ?_);refine(br.o).mono ?_;rintro e w1⟨v1,rfl,nH,gQ⟩;have fu:=gQ.size;have mY:Hd (di w1 w (xK iH 319)):=(gQ.block _ (by omega) (by unfold aO;omega)).trans HR.o;have HE1:Hd (bR w1 (w.heap.size+1) (xK #[xI 6,xI 0,xS (bL nm),xL a q c] 319)):=(gQ.block _ (by omega) (by unfold aO;omega)).trans Us.o;obtain⟨r0,r1,r2,r3⟩:=ae mY.o;obtain⟨g0,g1,g2,g3⟩:=iK mY.o;obtain⟨e0,e1,e2,e3⟩:=ae HE1.o;have zK:=af (mQ.o.only gQ (λi hi=>by unfold aO at hi;omega));have qE:=af nH;have Jm:=af gQ;go_wp2_with fail;refine Qae (v:= .agg #[xI 6,xI 0,xS (bL nm),xL a q c]) (by simp[results,results385,go_sem,r0,r1,r2,r3]) rfl ?_;have Bj:ai (aO b) w ((((w1.setCell ⟨w.heap.size,0,none⟩ (xI 6)).setCell ⟨w.heap.size,1,none⟩ (xI 0)).setCell ⟨w.heap.size,2,none⟩ (xS (bL nm))).setCell ⟨w.heap.size,3,none⟩ (xL a q c)):=((((kY.o.trans Jm.o).setCell (.inr bN) _).setCell (.inr bN) _).setCell (.inr bN) _).setCell (.inr bN) _;refine⟨_,j+1,rfl,⟨_,rfl,cH.iff.2 ⟨_,rfl,(zK.o.slice (λi hi=>hi)).ev ?_,by rw[jG];unfold maxLen;omega⟩⟩,gM.o.step Bj ?_ qE.o.le,rfl,Bj⟩
   .exact((((Ev.dD w1 (λi h=>by unfold fy at h;omega)).setCell (.inl (by simp)) _).setCell (.inl (by simp)) _).setCell (.inl (by simp)) _).setCell (.inl (by simp)) _
   .exact(Qag _ _ _ _ (by simp;omega)).trans ((Qag _ _ _ _ (by simp;omega)).trans ((Qag _ _ _ _ (by simp;omega)).trans ((Qag _ _ _ _ (by simp;omega)).trans qE.o.box)))
def Db(w:aj)(E:Nat):Nat->Prop:=λi=>i<=w.heap.size\/i=E
def Gt(b:Nat)(lv:an)(en:Int)(T:List Tok)(w:aj)(E:Nat)(C:aw->Nat->Prop)(wr:aj):Prop:=
 ∃(ck cn:Int)(cs:aM)(cl:List aw)(a:fA)(c j:Nat),wr.heap[E]? =some (xK #[xI ck,xI cn,xS cs,xL a cl.length c] 319)/\cH (Db w E) wr [xI ck,xI cn,xS cs,xL a cl.length c] (.mk ck cn cs cl)/\dR b lv en T wr j/\ai (aO b) w wr/\
  wr.heap[w.heap.size]? =some (xK iH 319)/\C (.mk ck cn cs cl) j
def wN {least:Nat}{cur x:aw}{ts r:List Tok}(h:nP m least cur ts=some (x,r)):
 (x=cur/\r=ts/\∀t r',ts=t::r'->¬(t.kind=4/\least<=cB t.s))\/
 ∃m' t r' f r2,m=m'+1/\ts=t::r'/\t.kind=4/\least<=cB t.s/\jb m' (cB t.s+1) r'=some (f,r2)/\nP m' least (.mk 4 0 (bL t.s) [cur,f]) r2=some (x,r):=by
 cases m with
 |zero=>simp[nP]at h
 |succ m'=>
  unfold nP at h;cases ts with
  |nil=>simp at h;exact .inl ⟨h.1.symm,h.2,λt r' he=>by cases he⟩
  |cons t r'=>
   dsimp only at h;by_cases hc:t.kind=4/\least<=cB t.s
   .rw[if_pos hc]at h;cases he:jb m' (cB t.s+1) r' with
    |none=>rw[he]at h;cases h
    |some q=>obtain⟨f,r2⟩:=q;rw[he]at h;exact .inr ⟨m',t,r',f,r2,rfl,rfl,hc.1,hc.2,he,h⟩
   .rw[if_neg hc]at h;simp only[Qcf,Prod.mk.injEq]at h;exact .inl ⟨h.1.symm,h.2.symm,λt2 r2 he=>by cases he;exact hc⟩
def Dc(s:List UInt8):cB s<=4:=by unfold cB;split;omega;split;omega;split;omega;split<;>omega
def wO {x y:aw}{cx cy:List an}(hM:¬M K)(hK:bR W K (.cells (cx++cy).toArray 319 (0,0)))(hx:cH M W cx x)(hy:cH M W cy y):ab M W (xL (some ⟨K,0,none⟩) 2 2) [x,y]:=by
 have lx:cx.length=4:=au.len (α:=aw) hx;have ly:cy.length=4:=au.len (α:=aw) hy;refine⟨[cx,cy],⟨by simp[lx,ly];rfl,some ⟨K,0,none⟩,2,rfl,bN,by unfold maxLen;omega,λ_=>⟨K,0,rfl,hM,(Qaa.1 hK).1,λj u hu=> ?_⟩⟩,rfl,λi cs z hc hz=> ?_⟩
 .rw[Nat.zero_add];exact cell_of_heap hK (by simpa using hu)
 .match i with
  |0=>simp at hc hz;subst hc hz;exact hx
  |1=>simp at hc hz;subst hc hz;exact hy
  |n+2=>simp at hc
def Li {T:List Tok}{WD:World}{jj:Nat}{ck cn fk fn:Int}{cs fs:ByteArray}{cl fl:List aw}{c:Nat}{ts:List UInt8}
 (cR:b<w.heap.size)(gM:dR b lv en T w i)(kY:ai (aO b) w wr)(CM:ai (aO b) wr WD)(fO:ai (aO b) WD w2)
 (Te:w2.heap[w1.heap.size]? =some (.cells #[.int .i64 ck, .int .i64 cn, .string cs, .slice a cl.length c] 319 (0,0)))
 (QD:WD.heap[w.heap.size]? =some (.cells #[.int .i64 0, .int .i64 0, .string ⟨#[]⟩, .slice none 0 0] 319 (0,0)))
 (Wl:cH (Db w w1.heap.size) WD [.int .i64 ck, .int .i64 cn, .string cs, .slice a cl.length c] (.mk ck cn cs cl))
 (eX:cH (fy WD.drew) w2 [.int .i64 fk, .int .i64 fn, .string fs, .slice ya fl.length yc] (.mk fk fn fs fl))(Jn:dR b lv en T w2 jj)
 (fu:w.heap.size+1<=w1.heap.size)(hE:w1.heap.size<wr.heap.size)(Z5:wr.heap.size<=WD.heap.size)(s2:WD.heap.size<=w2.heap.size)(uC:ts.length<=200)(C:aw->Nat->Prop)(hC:C (.mk 4 0 (bL ts) [.mk ck cn cs cl, .mk fk fn fs fl]) jj):
 Gt b lv en T w w1.heap.size C (((((w2.setCell ⟨w1.heap.size,0,none⟩ (.int .i64 4)).setCell ⟨w1.heap.size,1,none⟩ (.int .i64 0)).setCell ⟨w1.heap.size,2,none⟩ (.string (bL ts))).setCell ⟨w1.heap.size,3,none⟩ (.slice (some ⟨w2.heap.size,0,none⟩) 2 2)).alloc (.cells #[.int .i64 ck, .int .i64 cn, .string cs, .slice a cl.length c, .int .i64 fk, .int .i64 fn, .string fs, .slice ya fl.length yc] 319)):=by
 obtain⟨W3,fw⟩:∃W3:World,W3=(((w2.setCell ⟨w1.heap.size,0,none⟩ (.int .i64 4)).setCell ⟨w1.heap.size,1,none⟩ (.int .i64 0)).setCell ⟨w1.heap.size,2,none⟩ (.string (bL ts))).setCell ⟨w1.heap.size,3,none⟩ (.slice (some ⟨w2.heap.size,0,none⟩) 2 2):=⟨_,rfl⟩;have yK:W3.heap.size=w2.heap.size:=by rw[fw];simp
 have hE3:W3.heap[w1.heap.size]? =some (.cells #[.int .i64 4, .int .i64 0, .string (bL ts), .slice (some ⟨w2.heap.size,0,none⟩) 2 2] 319 (0,0)):=by
  rw[fw];have h0:=Qca w2 w1.heap.size 0 _ _ (.int .i64 4) Te;have h1:=Qca _ w1.heap.size 1 _ _ (.int .i64 0) h0;have h2:=Qca _ w1.heap.size 2 _ _ (.string (bL ts)) h1;exact Qca _ w1.heap.size 3 _ _ (.slice (some ⟨w2.heap.size,0,none⟩) 2 2) h2
 have Bj:ai (λi=>i=w1.heap.size) w2 W3:=by
  rw[fw];exact((((ai.refl (λi=>i=w1.heap.size) w2).setCell (p:=⟨w1.heap.size,0,none⟩) (.inl rfl) _).setCell (p:=⟨w1.heap.size,1,none⟩) (.inl rfl) _).setCell (p:=⟨w1.heap.size,2,none⟩) (.inl rfl) _).setCell (p:=⟨w1.heap.size,3,none⟩) (.inl rfl) _
 rw[<-fw];clear fw;generalize hK:(Obj.cells #[.int .i64 ck, .int .i64 cn, .string cs, .slice a cl.length c, .int .i64 fk, .int .i64 fn, .string fs, .slice ya fl.length yc] 319 (0,0))=K;have Z6:ai (aO b) w (W3.alloc K):=by
  have h1:=(kY.trans CM).trans fO;have h2:ai (aO b) w W3:=h1.cO Bj (λi hi bu=>by omega);exact h2.alloc _
 have hKb:(W3.alloc K).heap[w2.heap.size]? =some (.cells (([.int .i64 ck, .int .i64 cn, .string cs, .slice a cl.length c]:List Value)++([.int .i64 fk, .int .i64 fn, .string fs, .slice ya fl.length yc]:List Value)).toArray 319 (0,0)):=by
  have h:=Qbh W3 K;rw[yK]at h;rw[h,<-hK];rfl
 have Wm:Ev (Db w w1.heap.size) WD (Db w w1.heap.size) (W3.alloc K):=
  ⟨((fO.mono (λi hi=> .inl (by unfold aO at hi;omega))).trans (Bj.mono (λi hi=> .inr hi))).alloc _,λi hi=> .inl hi⟩;have Wn:Ev (fy WD.drew) w2 (Db w w1.heap.size) (W3.alloc K):=
  ⟨(Bj.mono (λi hi=>by show i<WD.heap.size;omega)).alloc _,λi hi=> .inl (by show i<WD.heap.size;rcases hi with h|h<;>omega)⟩;refine⟨4,0,bL ts,[.mk ck cn cs cl, .mk fk fn fs fl],some ⟨w2.heap.size,0,none⟩,2,jj,(Qcb W3 _ _ (by omega)).trans hE3,cH.iff.2 ⟨_,rfl,?_,by rw[jG];unfold maxLen;omega⟩,gM.step Z6 ?_ Jn.le,Z6,?_,hC⟩
 .exact wO (by unfold Db;omega) hKb (Wl.zo Wm) (eX.zo Wn)
 .exact(Qcb W3 _ b (by omega)).trans ((Bj.block b (by omega) (by omega)).trans Jn.box)
 .exact(Qcb W3 _ _ (by omega)).trans ((Bj.block _ (by omega) (by omega)).trans ((fO.block _ (by omega) (by unfold aO;omega)).trans QD))
def Lj(b:Nat)(lv:an)(en:Int)(T:List Tok)(nX:qL T)(k:Nat)(HT:Gr b lv en T k)(HE:∀m,m<k->JH b lv en T m):JH b lv en T (k+1):=by
 intro least i x r w Ct Wo fJ hp;have cR:b<w.heap.size:=(Qaa.1 fJ.box).1;obtain⟨e0,r0,Z7,KB⟩:∃e0 r0,jm k (T.drop i)=some (e0,r0)/\nP k least e0 r0=some (x,r):=by
  unfold jb at hp;cases hq:jm k (T.drop i)with
  |none=>rw[hq]at hp;cases hp
  |some q=>obtain⟨e0,r0⟩:=q;rw[hq]at hp;exact⟨e0,r0,rfl,hp⟩
 clear hp;have lZ:aq w (w.alloc (xK #[xI 0,xI 0,xS ⟨#[]⟩,xL none 0 0] 319)):=bM;have bK:=HT i e0 r0 _ (fJ.below lZ) Z7;obtain⟨zk,zn,zs,zl⟩:=e0;have gM:=af fJ;clear fJ;have Bk:=af KB;clear KB;have br:=af bK;clear bK;have jN:=af lZ;clear lZ;clear Z7;go_enter func318,ntmps318;go_wp2_with fail;refine(br.o).mono ?_;rintro e w1⟨_,j0,rfl,⟨cs,rfl,bV⟩,nH,rC,gQ⟩;obtain⟨av,rfl,bI,ke⟩:=cH.iff.1 bV;obtain⟨za,zc,rfl,_⟩:=bI.open_;have fu:=gQ.size;simp at fu;have Jo:Hd (di w1 w (xK #[xI 0,xI 0,xS ⟨#[]⟩,xL none 0 0] 319)):=(gQ.block _ (by simp) (by unfold aO;omega)).trans (Qbh w _);have rE:Hd (ai (aO b) w w1):=((ai.refl _ w).alloc _).cO gQ (λi hi _=>hi);have eX:=af bV;clear bV;have qE:=af nH;clear nH;have mY:=af rC;clear rC;clear bI ke gQ;go_wp2;go_loopg [6]k(λg _ wr=>∃m:Nat,m<=k/\g=m/\Hd (Gt b lv en T w w1.heap.size (λcur j=>nP m least cur (T.drop j)=some (x,r)) wr)/\w1.heap.size<wr.heap.size);case atStart=>
  refine⟨k,bN,rfl,?_,by simp⟩;have FZ:aq w1 (w1.alloc (xK #[xI zk,xI zn,xS zs,xL za zl.length zc] 319)):=bM;refine(show Gt _ _ _ _ _ _ _ _ from⟨zk,zn,zs,zl,za,zc,j0,Qbh _ _,?_,qE.o.below FZ,rE.o.alloc _,(FZ.block _ (by omega)).trans Jo.o,by {show nP k least _ (T.drop j0)=_;rw[<-mY.o];exact Bk.o}⟩);exact eX.o.zo ⟨(ai.refl _ w1).alloc _,λi hi=>by
   rcases hi with h|h
   .exact .inl (by unfold fy;simp;omega)
   .exact .inr (by omega)⟩
 case round=>
  obtain⟨m,hm,rfl,HM,hE⟩:=hrel;obtain⟨ck,cn,cs,cl,a,c,j,QE,RF,j5,jx,hR,hC⟩:=HM.o;obtain⟨p0,p1,p2,p3⟩:=ae j5.box;obtain⟨la,Z8,rfl,ay⟩:=j5.cells;have Fp:=j5.few;have qgr:=j5.le;have hj0:(0:Int)<=(j:Int):=Qba _;rcases wN hC with⟨rfl,rfl,Bi⟩|⟨m',t,r',f,r2,rfl,vJ,oy,hlb,hex,QF⟩
  .
   go_upto_region 2 with fail;go_cut [55](λs55 wx=>s55=xB false/\∃n,wx=wr.drewN n);case first=>
    by_cases CJ:j<T.length
    .obtain⟨t,ht⟩:=eB T j CJ;obtain⟨bl,off,rfl,y9,Fq,q0,q1,q2,q3⟩:=ay t ht;have Wp:=Bi t _ (drop_cons ht);have jZ:=Qaf ht;have hjz:(j:Int)<(T.length:Int):=by omega
     by_cases oy:t.kind=4
     .obtain⟨c0,tC,Bl⟩:=(nX t jZ).2.2.2 oy;have bu:cB t.s<least:=by
       rcases Nat.lt_or_ge (cB t.s) least with h|h
       .exact h
       .exact absurd ⟨oy,h⟩ Wp
      have dO:¬(least:Int)<=(cB t.s:Int):=by omega
      have er:decide ((least:Int)<=(cB t.s:Int))=false:=by simpa using dO
      have yK:decide (least<=cB t.s)=false:=by simpa using bu
      have e0:(cz t.kind==0)=true:=by simp[cz,oy]
      have Wq:Hd (∀W,xC 343 #[xS (bL t.s)] W λe w'=>e=xR (xI (cB t.s))/\w'=W):=λW=>by rw[Bl];exact(nh c0 tC W).mono λ_ _ h=>⟨h.1,h.2.symm⟩
      clear ay Bi Wp jZ ht oy Bl tC RF QE hR hC;go_quiet((go_at_call 343;exact Calls.quiet_of_same (Wq.o _)));go_wp2;go_meet;exact⟨rfl,_,rfl⟩
     .have e0:(cz t.kind==0)=false:=by have:=j5.kinds t jZ;simp[cz,oy];omega
      clear ay Bi Wp jZ ht oy RF QE hR hC;go_quiet(fail);go_wp2;go_meet;exact⟨rfl,_,rfl⟩
    .have Wd:decide ((j:Int)<(T.length:Int))=false:=by simp;omega
     have Yc:decide (j<T.length)=false:=by simp;omega
     have hd3:¬(j:Int)<(T.length:Int):=by omega
     clear ay Bi RF QE hR hC;go_quiet(fail);go_wp2;go_meet;exact⟨rfl,_,rfl⟩
   case rest=>
    obtain⟨rfl,nn,rfl⟩:=hcut;obtain⟨e0,e1,e2,e3⟩:=ae QE;obtain⟨r0,r1,r2,r3⟩:=ae hR;obtain⟨g0,g1,g2,g3⟩:=iK hR;have hRE:w.heap.size≠w1.heap.size:=by omega
    obtain⟨av,hav,bI,ke⟩:=cH.iff.1 RF;simp only[List.cons.injEq,true_and,and_true]at hav;subst hav;have gp:=af bI;clear bI;have rB:=af ke;clear ke;have tF:=af j5;clear j5;have kY:=af jx;clear jx;have HEB:=af QE;clear QE;have KC:=af hR;clear hR;clear ay Bi RF hC;go_wp2_with fail;refine Qae (v:= .agg #[xI ck,xI cn,xS cs,xL a cl.length c]) (by simp[results,results318,go_sem,r0,r1,r2,r3]) rfl ?_;have Bj:ai (aO b) w ((((wr.setCell ⟨w.heap.size,0,none⟩ (xI ck)).setCell ⟨w.heap.size,1,none⟩ (xI cn)).setCell ⟨w.heap.size,2,none⟩ (xS cs)).setCell ⟨w.heap.size,3,none⟩ (xL a cl.length c)):=(((kY.o.setCell (.inr bN) _).setCell (.inr bN) _).setCell (.inr bN) _).setCell (.inr bN) _;refine⟨_,j,rfl,⟨_,rfl,cH.iff.2 ⟨_,rfl,gp.o.ev ?_,rB.o⟩⟩,(gM.o.step Bj ?_ tF.o.le).drewN nn,rfl,Bj.drewN nn⟩
    .have h:=((((Ev.dD (M:=Db w w1.heap.size) (N:=fy w) wr (λi h=>by unfold fy at h;exact .inl (by omega))).setCell (p:=⟨w.heap.size,0,none⟩) (.inl (.inl bN)) (xI ck)).setCell (p:=⟨w.heap.size,1,none⟩) (.inl (.inl bN)) (xI cn)).setCell (p:=⟨w.heap.size,2,none⟩) (.inl (.inl bN)) (xS cs)).setCell (p:=⟨w.heap.size,3,none⟩) (.inl (.inl bN)) (xL a cl.length c);exact⟨h.only.drewN nn,h.sub⟩
    .exact(Qag _ _ _ _ (by simp;omega)).trans ((Qag _ _ _ _ (by simp;omega)).trans ((Qag _ _ _ _ (by simp;omega)).trans ((Qag _ _ _ _ (by simp;omega)).trans tF.o.box)))
  .
   obtain⟨t',Fv⟩:∃t',T[j]? =some t':=by
    rcases Nat.lt_or_ge j T.length with h|h
    .exact⟨_,Qac h⟩
    .rw[List.drop_eq_nil_of_le h]at vJ;cases vJ
   rw[drop_cons Fv]at vJ;simp only[List.cons.injEq]at vJ;obtain⟨rfl,rfl⟩:=vJ;have CJ:j<T.length:=(Qad.1 Fv).1;obtain⟨bl,off,rfl,y9,Fq,q0,q1,q2,q3⟩:=ay t' Fv;have jZ:=Qaf Fv;have hjz:(j:Int)<(T.length:Int):=by omega
   obtain⟨c0,tC,Bl⟩:=(nX t' jZ).2.2.2 oy;have eA:=Dc t'.s;have dO:(least:Int)<=(cB t'.s:Int):=by omega
   have er:decide ((least:Int)<=(cB t'.s:Int))=true:=by simpa using dO
   have yK:decide (least<=cB t'.s)=true:=by simpa using hlb
   have e0:(cz t'.kind==0)=true:=by simp[cz,oy]
   have Wq:Hd (∀W,xC 343 #[xS (bL t'.s)] W λe w'=>e=xR (xI (cB t'.s))/\w'=W):=λW=>by rw[Bl];exact(nh c0 tC W).mono λ_ _ h=>⟨h.1,h.2.symm⟩
   have uC:Hd (t'.s.length<=200):=(nX t' jZ).1;have tF:=af j5;clear j5;have kY:=af jx;clear jx;have HEB:=af QE;clear QE;have KC:=af hR;clear hR;have Yg:=af RF;clear RF;have RG:=af hex;clear hex;have Wr:=af QF;clear QF;clear ay jZ Fv oy Bl tC hC;go_upto_region 2 with fail;go_cut [55](λs55 wx=>s55=xB true/\∃n,wx=wr.drewN n);case first=>
    go_quiet((go_at_call 343;exact Calls.quiet_of_same (Wq.o _)));go_wp2;go_meet;exact⟨rfl,_,rfl⟩
   case rest=>
    obtain⟨rfl,nn,rfl⟩:=hcut;go_upto_region 3 with fail;go_cut [6](λs6 wx=>s6=xS (bL t'.s)/\∃n,wx=(wr.drewN nn).drewN n);case first=>
     go_quiet(fail);go_wp2;go_meet;exact⟨rfl,_,rfl⟩
    case rest=>
     obtain⟨rfl,n2,rfl⟩:=hcut;have f1:=ag tF.o.box 1;go_upto_region 5 with fail;obtain⟨WD,Tf⟩:=bS ((wr.drewN (nn+n2)).setCell ⟨b,1,none⟩ (xI ((j:Int)+1)));rw[<-Tf];have HPD:=af (show dR b (xL (some ⟨bl,off,none⟩) T.length Z8) en T WD (j+1)by rw[Tf];exact((tF.o.drewN (nn+n2)).next CJ (ai.refl _ _)).1);have CM:=af (show ai (aO b) wr WD by rw[Tf];exact((ai.refl _ wr).drewN (nn+n2)).Lf 1 _);have Z9:Hd (di WD w1 (xK #[xI ck,xI cn,xS cs,xL a cl.length c] 319)):=(CM.o.block _ hE (by unfold aO;omega)).trans HEB.o;have QD:Hd (di WD w (xK #[xI 0,xI 0,xS ⟨#[]⟩,xL none 0 0] 319)):=(CM.o.block _ (by omega) (by unfold aO;omega)).trans KC.o;have Wl:Hd (cH (Db w w1.heap.size) WD [xI ck,xI cn,xS cs,xL a cl.length c] (.mk ck cn cs cl)):=Yg.o.zo ⟨CM.o.mono (λi hi=> .inl (by unfold aO at hi;omega)),λi hi=> .inl hi⟩;have Z5:=CM.o.size;clear Tf p0 p1 p2 p3 f1 q0 q1 q2 q3;obtain⟨d0,d1,d2,d3⟩:=ae Z9.o;obtain⟨fk,fn,fs,fl⟩:=f;have bK:=HE m' (by omega) (cB t'.s+1) (j+1) (.mk fk fn fs fl) r2 WD.drew (by omega) (by omega) HPD.o.drew RG.o;rw[show((cB t'.s+1:Nat):Int)=(cB t'.s:Int)+1 from by omega]at bK;have yM:=af bK;clear bK;have z1:IntKind.i64.wrap ((cB t'.s:Int)+1)=(cB t'.s:Int)+1:=Qbe _ (by omega);go_region_law(first
      |(go_simp;go_at_call 343;refine(Wq.o _).mono ?_;rintro e w'⟨rfl,rfl⟩)
      |(go_simp;go_at_call 318;refine yM.o.mono ?_;rintro e w2⟨_,jj,rfl,⟨cs2,rfl,bV⟩,Jp,CN,Cv⟩;obtain⟨av,rfl,bI,ke⟩:=cH.iff.1 bV;obtain⟨ya,yc,rfl,_⟩:=bI.open_;have s2:=Cv.size;simp at s2;have fO:Hd (ai (aO b) WD w2):=((ai.refl _ WD).drew.trans Cv);have Te:Hd (di w2 w1 (xK #[xI ck,xI cn,xS cs,xL a cl.length c] 319)):=(fO.o.block _ (by omega) (by unfold aO;omega)).trans Z9.o;have qaa:w1.heap.size<w2.heap.size:=by omega
        have HEA:Hd (∀o,(w2.alloc o).heap[w1.heap.size]? =some (xK #[xI ck,xI cn,xS cs,xL a cl.length c] 319)):=λo=>(Qcb w2 o _ qaa).trans Te.o;obtain⟨k0,k1,k2,k3⟩:=ae Te.o;have n0:∀o,(w2.alloc o).cell? ⟨w1.heap.size,0,none⟩=some (xI ck):=λo=>(ae (HEA.o o)).1;have n1:∀o,(w2.alloc o).cell? ⟨w1.heap.size,1,none⟩=some (xI cn):=λo=>(ae (HEA.o o)).2.1;have n2':∀o,(w2.alloc o).cell? ⟨w1.heap.size,2,none⟩=some (xS cs):=λo=>(ae (HEA.o o)).2.2.1;have n3:∀o,(w2.alloc o).cell? ⟨w1.heap.size,3,none⟩=some (xL a cl.length c):=λo=>(ae (HEA.o o)).2.2.2;obtain⟨fz0,fz1,fz2,fz3⟩:=iK Te.o;have eX:=af bV;have Jn:=af Jp;have vL:=af CN;clear Cv bV bI ke Jp CN));all_goals
      clear z1;go_wp2;go_roundg m';case measure=>omega
      case rel=>
       refine⟨m',by omega,rfl,?_,by simp;omega⟩;have Fw:=Li cR gM.o kY.o CM.o fO.o Te.o QD.o Wl.o eX.o Jn.o (by omega) hE Z5 s2 uC.o;exact(Fw _ (by rw[<-vL.o];exact Wr.o))
def R9(b:Nat)(lv:an)(en:Int)(T:List Tok)(nX:qL T)(k:Nat):JH b lv en T k/\Gr b lv en T k/\Oc b lv en T k:=by
 induction k using Nat.strongRecOn with
 |ind k ih=>
  refine⟨?_,?_,Lh b lv en T k λm hm=>(ih m hm).1⟩
  .cases k with
   |zero=>intro least i x r w _ _ _ h;simp[jb]at h
   |succ k=>exact Lj b lv en T nX k (ih k (by omega)).2.1 λm hm=>(ih m (by omega)).1
  .cases k with
   |zero=>intro i x r w _ h;simp[jm]at h
   |succ k=>exact Gs b lv en T nX k (ih k (by omega)).2.2
def tT {s:List UInt8}(h:0<cB s):∃c,c∈dP/\s=[c]:=by
 unfold cB at h;split at h
 .rename_i h1;rcases h1 with h1|h1|h1<;>exact⟨_,by decide,h1⟩
 .split at h
  .rename_i h1;rcases h1 with h1|h1<;>exact⟨_,by decide,h1⟩
  .split at h
   .rename_i h1;exact⟨_,by decide,h1⟩
   .split at h
    .rename_i h1;rcases h1 with h1|h1<;>exact⟨_,by decide,h1⟩
    .omega
def Sa(M:aN)(w:aj)(k n:Int)(s:aM)(l:List aw)(lv:an)(hl:ab M w lv l)(hs:s.size<=200)(h:wI k n s.data.toList l.length=true):
 xC 387 #[.agg #[xI k,xI n,xS s,lv]] w (cr (xB true) w):=by
 obtain⟨a,cap,rfl,cV,hm,_⟩:=hl.open_;unfold wI at h;by_cases h1:k=1
 .subst h1;simp only[if_true,Qce,decide_eq_true_eq,List.isEmpty_iff,beq_iff_eq]at h;obtain⟨⟨⟨yN,KD⟩,Bl⟩,uD⟩:=h;obtain rfl:=fg Bl;rw[uD];go_enter func387,ntmps387;go_wp2;go_ret;exact⟨rfl,bM⟩
 .rw[if_neg h1]at h;simp only[Qce,decide_eq_true_eq]at h;obtain⟨rfl,h⟩:=h;by_cases h2:k=2
  .subst h2;simp only[if_true,Qce,beq_iff_eq]at h;obtain⟨ht,uD⟩:=h;rw[uD];have HT:=af ht;go_enter func387,ntmps387;go_wp2_with fail;refine bY (rN _ _ HT.o) λw1 aF=> ?_;obtain⟨q0,q1,q2,q3⟩:=ae (boxed aF);have aY:=af aF;go_wp2;go_ret;exact⟨rfl,aU aY.o⟩
  .rw[if_neg h2]at h;by_cases h3:k=3
   .subst h3;simp only[if_true,Qce,beq_iff_eq]at h;obtain⟨ht,uD⟩:=h;rw[uD];rw[pO]at ht;have HT:=af ht;go_enter func387,ntmps387;go_wp2_with fail;refine cT (fY true _ _ HT.o (by unfold maxLen;omega)) ?_;go_wp2;go_ret;exact⟨rfl,bM⟩
   .rw[if_neg h3]at h;by_cases h4:k=4
    .subst h4;simp only[if_true,Qce,beq_iff_eq,decide_eq_true_eq]at h;obtain⟨ht,uD⟩:=h;obtain⟨c,hc,Fx⟩:=tT ht;obtain rfl:=fg Fx;rw[uD];have hz:(0:Int)<(cB [c]:Int):=by simp at ht;omega
     have HB:=af (λw=>nh c hc w);generalize cB [c]=bb at*;go_enter func387,ntmps387;go_wp2_with fail;refine cT (HB.o _) ?_;go_wp2;go_ret;exact⟨rfl,bM⟩
    .rw[if_neg h4]at h;by_cases h6:k=6
     .subst h6;simp only[if_true,Qce,beq_iff_eq,decide_eq_true_eq]at h;obtain⟨ht,uD⟩:=h;have hz:(0:Int)<(dB s.data.toList:Int):=by omega
      have HA:=af (λw=>tP s w);have er:decide ((0:Int)<(dB s.data.toList:Int))=true:=by simpa using ht
      have yK:decide (0<dB s.data.toList)=true:=by simpa using ht
      rw[uD];generalize dB s.data.toList=bb at*;go_enter func387,ntmps387;go_wp2_with fail;go_quiet((go_at_call 384;exact Calls.quiet_of_same ((HA.o _).mono λ_ _ h=>⟨h.1,h.2.symm⟩)));go_wp2;go_ret;exact⟨rfl,bM.trans ⟨rfl,rfl,rfl,bN,λ_ _=>rfl⟩⟩
     .rw[if_neg h6]at h;cases h
def wP {k n:Int}{s:List UInt8}{c:Nat}(h:wI k n s c=true):s.length<=200:=by
 unfold wI at h;by_cases h1:k=1
 .rw[if_pos h1]at h;simp only[Qce,List.isEmpty_iff]at h;rw[h.1.2];simp
 .rw[if_neg h1]at h;simp only[Qce]at h;replace h:=h.2;by_cases h2:k=2
  .rw[if_pos h2]at h;simp only[Qce,jP,decide_eq_true_eq]at h;omega
  .rw[if_neg h2]at h;by_cases h3:k=3
   .rw[if_pos h3]at h;simp only[Qce,qK,decide_eq_true_eq]at h;omega
   .rw[if_neg h3]at h;by_cases h4:k=4
    .rw[if_pos h4]at h;simp only[Qce,decide_eq_true_eq]at h;obtain⟨c,_,rfl⟩:=tT h.1;simp
    .rw[if_neg h4]at h;by_cases h6:k=6
     .rw[if_pos h6]at h;simp only[Qce,decide_eq_true_eq]at h;have ha:=h.1;unfold dB at ha;split at ha
      .rename_i hh;rcases hh with rfl|rfl|rfl<;>simp
      .split at ha
       .rename_i hh;rcases hh with rfl|rfl|rfl|rfl|rfl|rfl<;>simp
       .split at ha
        .rename_i hh;subst hh;simp
        .omega
     .rw[if_neg h6]at h;cases h
theorem oJ:∀{l:List aw}{i:Nat}{e:aw},l[i]? =some e->dp (l.take (i+1))=dp (l.take i)+ek e
 |[],i,e,h=>by simp at h
 |x::r,0,e,h=>by simp at h;subst h;simp[dp]
 |x::r,i+1,e,h=>by
  have:=oJ (l:=r) (i:=i) (e:=e) (by simpa using h);simp only[List.take_succ_cons,dp];rw[this];omega
theorem pP:∀(l:List aw)(i:Nat),dp (l.take i)<=dp l
 |[],i=>by simp
 |x::r,0=>by simp[dp]
 |x::r,i+1=>by have:=pP r i;simp only[List.take_succ_cons,dp];omega
theorem tU:∀{l:List aw}{i:Nat}{e:aw},l[i]? =some e->ek e<=dp l/\kM e<=wH l/\(rL l=true->iw e=true)
 |[],i,e,h=>by simp at h
 |x::r,0,e,h=>by
  simp at h;subst h;refine⟨by simp only[dp];omega,by simp only[wH];omega,λhn=> ?_⟩;simp only[rL,Qce]at hn;exact hn.1
 |x::r,i+1,e,h=>by
  obtain⟨h1,h2,h3⟩:=tU (l:=r) (i:=i) (e:=e) (by simpa using h);refine⟨by simp only[dp];omega,by simp only[wH];omega,λhn=> ?_⟩;simp only[rL,Qce]at hn;exact h3 hn.2
def tV(e:aw):1<=ek e:=by cases e;simp[ek]
def Sb:∀(N:Nat)(e:aw),ek e<=N->∀(M:Nat->Prop)(w:World)(v:Value)(deep left:Int),ct M w v e->iw e=true->(kM e:Int)<=deep->deep<=8->(ek e:Int)<=left->left<=40->
 Calls prog 345 #[v, .int .i64 deep, .int .i64 left] w λe' w'=>e'= .returned (.int .i64 (left-ek e))/\Below w.heap.size w w':=by
 intro N;induction N with
 |zero=>intro e he;have:=tV e;omega
 |succ N ih=>
  intro e he M w v deep left gq Tg hd hd8 hs qgs;obtain⟨k,n,s,l⟩:=e;obtain⟨cs,rfl,bV⟩:=gq;obtain⟨lv,rfl,bI,ke⟩:=cH.iff.1 bV;have gp:=hD bI;obtain⟨a,cap,rfl,cV,hm,hc⟩:=bI.open_;simp only[iw,Qce]at Tg;obtain⟨yN,KD⟩:=Tg;have hsz:s.size<=200:=by have:=wP yN;rw[bq]at this;exact this
  simp only[ek]at he hs;simp only[kM]at hd;have e0:(ek (.mk k n s l):Int)=dp l+1:=by simp[ek]
  rw[e0];have Wd:¬deep<1:=by omega
  have fu:¬left<1:=by omega
  have qab:Hid (∀W,Below w.heap.size w W->Calls prog 387 #[.agg #[.int .i64 k, .int .i64 n, .string s, .slice a l.length cap]] W λe w'=>e= .returned (.bool true)/\Below W.heap.size W w'):=(show∀W,_->_ fromλW hb=>Sa M W k n s l _ (gp.out.below hb) hsz yN);have HC:=hD hc;clear hc;have zL:=hD KD;clear KD;have HD:=hD hd;clear hd;clear bV bI ke yN e0;generalize hlen:l.length=len at*;have j7:=hD hlen;clear hlen;go_enter func345,ntmps345;go_wp2_with fail;refine(qab.out _ (by exact((Qbg _ _).alloc (Qab _) _))).mono ?_;rintro e w1⟨rfl,aF⟩;have bW:=hD (boxed aF);have aY:=hD (aU aF);have s1:=aF.size;simp at s1;clear aF;go_wp2_with fail;go_loopg [2,7]len(λg lf iv wr=>∃i:Nat,i<=len/\g=len-i/\iv= .int .i64 i/\lf= .int .i64 (left-1-dp (l.take i))/\Hid (Below w1.heap.size w1 wr));case atStart=>exact⟨0,Qbf _,rfl,rfl,by simp[dp],(show Below _ _ _ from Qbg _ _)⟩
  case round=>
   obtain⟨i,hi,rfl,rfl,rfl,aQ⟩:=hrel;have hle:=pP l i;obtain⟨g0,g1,g2,g3⟩:=ae ((aQ.out.block w.heap.size (by omega)).trans bW.out);have s2:=aQ.out.size;have KE:(0:Int)<=left-1-(dp (l.take i):Int):=by omega
   have hup:left-1-(dp (l.take i):Int)<=40:=by omega
   by_cases bu:i<len
   .obtain⟨b,off,rfl,wh,cR,aL⟩:=HC.out (by omega);obtain⟨x,hx⟩:∃x,l[i]? =some x:=⟨_,Qac (by rw[j7.out];exact bu)⟩;obtain⟨xk,xn,xs,xl⟩:=x;obtain⟨cs,bV,bJ⟩:=aL i _ hx;have pI:=bV;obtain⟨xv,rfl,mX,hxz⟩:=cH.iff.1 pI;obtain⟨xa,xc,rfl,_⟩:=mX.open_;obtain⟨f1,f2,f3⟩:=tU hx;have f4:=oJ hx;have f5:=pP l (i+1);have hB:Below w.heap.size w wr:=aY.out.trans (aQ.out.mono (by have:=aY.out.size;omega));have q0:wr.cell? ⟨b,off+i*4,none⟩=some (.int .i64 xk):=(hB.cell (p:=⟨b,off+i*4,none⟩) cR).trans (bJ 0 _ rfl);have q1:wr.cell? ⟨b,off+i*4+1,none⟩=some (.int .i64 xn):=(hB.cell (p:=⟨b,off+i*4+1,none⟩) cR).trans (bJ 1 _ rfl);have q2:wr.cell? ⟨b,off+i*4+2,none⟩=some (.string xs):=(hB.cell (p:=⟨b,off+i*4+2,none⟩) cR).trans (bJ 2 _ rfl);have q3:wr.cell? ⟨b,off+i*4+3,none⟩=some (.slice xa xl.length xc):=(hB.cell (p:=⟨b,off+i*4+3,none⟩) cR).trans (bJ 3 _ rfl);have af:=HD.out;have bK:=ih (.mk xk xn xs xl) (by omega) M wr _ (deep-1) (left-1-(dp (l.take i):Int)) ⟨_,rfl,au.ev (α:=aw) bV (Ev.ao hB)⟩ (f3 zL.out) (by omega) (by omega) (by omega) (by omega);have pH:Hid (left-1-(dp (l.take i):Int)-(ek (.mk xk xn xs xl):Int)=left-1-(dp (l.take (i+1)):Int)):=(show _=_ by rw[f4];omega);have br:=hD bK;clear bK;clear aL bJ bV pI mX hxz f1 f2 f3 f4 f5 hx hB af;go_wp2_with fail;refine(br.out).mono ?_;rintro e w2⟨rfl,bC⟩;have bO:=hD bC;clear bC;go_wp2_with fail;go_roundg(len-(i+1));case measure=>omega
    case rel=>exact⟨i+1,by omega,rfl,by go_num,by rw[pH.out],(show Below _ _ _ from aQ.out.trans (bO.out.mono s2))⟩
   .have ze:i=len:=by omega
    go_wp2_with fail;go_ret;refine⟨iN ?_,aY.out.trans (aQ.out.mono (by have:=aY.out.size;omega))⟩;rw[Qah (by rw[j7.out];omega)];omega
def wQ(M:aN)(w:aj)(v:an)(e:aw)(gq:ct M w v e)(hn:iw e=true)(hd:kM e<=8)(hs:ek e<=40):
 xC 320 #[v] w λe' w'=>e'=xR (xB true)/\aq w w':=by
 obtain⟨k,n,s,l⟩:=e;obtain⟨cs,rfl,bV⟩:=gq;have pI:=bV;obtain⟨lv,rfl,bI,ke⟩:=cH.iff.1 pI;obtain⟨a,cap,rfl,_⟩:=bI.open_;have HC:Hd (∀W,aq w W->xC 345 #[.agg #[xI k,xI n,xS s,xL a l.length cap],xI 8,xI 40] W λe' w'=>e'=xR (xI (40-ek (.mk k n s l)))/\aq W w'):=λW hb=>Sb 40 (.mk k n s l) hs M W _ 8 40 ⟨_,rfl,au.ev (α:=aw) bV (Ev.ao hb)⟩ hn (by omega) (by omega) (by omega) (by omega);have hz:(0:Int)<=40-(ek (.mk k n s l):Int):=by omega
 generalize ek (.mk k n s l)=sz at*;go_enter func320,ntmps320;go_wp2_with fail;refine bY (HC.o _ (by exact bM)) λw1 aF=> ?_;have aY:=af (aU aF);go_wp2;go_ret;exact⟨bz (by simp;omega),aY.o⟩
def Gu {l:List UInt8}{kd n:Nat}{str:List UInt8}{size:Nat}(hl:l.length<=200)(h:rK l=some ((kd,n,str),size)):1<=kd/\kd<=4/\str.length<=200/\(kd=1->str=[])/\(kd≠1->n=0)/\(kd=4->∃c,c∈dP/\str=[c])/\0<size/\size<=l.length:=by
 cases l with
 |nil=>simp[rK]at h
 |cons c r=>
  unfold rK at h;dsimp only at h;simp only[Qcc]at hl⊢;by_cases hd:nO c=true
  .rw[if_pos hd]at h;split at h
   .cases h
   .simp only[Qcf,Prod.mk.injEq]at h;obtain⟨⟨rfl,rfl,rfl⟩,rfl⟩:=h;exact⟨by omega,by omega,by simp,λ_=>rfl,λh=>absurd rfl h,λh=>by omega,by omega,by omega⟩
  .rw[if_neg hd]at h;by_cases ik:qJ c=true
   .rw[if_pos ik]at h;split at h
    .simp only[Qcf,Prod.mk.injEq]at h;obtain⟨⟨rfl,rfl,rfl⟩,rfl⟩:=h;have hle:((c::r).takeWhile dm).length<=(c::r).length:=(List.takeWhile_prefix dm).length_le;simp only[Qcc]at hle;have hw:dm c=true:=by unfold dm;rw[ik];rfl
     have vI:0<((c::r).takeWhile dm).length:=by rw[List.takeWhile_cons_of_pos hw];simp
     exact⟨by omega,by omega,by omega,λh=>by omega,λ_=>rfl,λh=>by omega,vI,hle⟩
    .cases h
   .rw[if_neg ik]at h;by_cases Cu:c=34
    .rw[if_pos Cu]at h;split at h
     .rename_i x hx;split at h
      .simp only[Qcf,Prod.mk.injEq]at h;obtain⟨⟨rfl,rfl,rfl⟩,rfl⟩:=h;have hlen:=congrArg List.length hx;rw[List.length_drop]at hlen;simp only[Qcc]at hlen;exact⟨by omega,by omega,by omega,λh=>by omega,λ_=>rfl,λh=>by omega,by omega,by omega⟩
      .cases h
     .cases h
    .rw[if_neg Cu]at h;split at h
     .rename_i hm;simp only[Qcf,Prod.mk.injEq]at h;obtain⟨⟨rfl,rfl,rfl⟩,rfl⟩:=h;have Tc:=List.contains_iff_mem.1 hm;refine⟨by omega,by omega,by simp,λh=>by omega,λ_=>rfl,λ_=>⟨c,?_,rfl⟩,by omega,by omega⟩;simp only[dP,Qdf,List.not_mem_nil,or_false]at Tc⊢;rcases Tc with h|h|h|h|h|h|h|h|h|h<;>simp[h]
     .split at h
      .rename_i hm;simp only[Qcf,Prod.mk.injEq]at h;obtain⟨⟨rfl,rfl,rfl⟩,rfl⟩:=h;exact⟨by omega,by omega,by simp,λh=>by omega,λ_=>rfl,λ_=>⟨c,by rw[hm.1];simp[dP],rfl⟩,by omega,by omega⟩
      .cases h
theorem kx:∀(k:Nat)(l:List UInt8)(i:Nat)(T:List Tok),l.length<=200->eH k l i=some T->qL T/\(∀t∈T,1<=t.kind/\t.kind<=4)/\T.length<=l.length
 |k,[],i,T,_,h=>by
  cases k<;>simp[eH]at h<;>subst h<;>exact⟨λt ht=>(by cases ht),λt ht=>(by cases ht),by simp⟩
 |0,_::_,i,T,_,h=>by simp[eH]at h
 |k+1,c::r,i,T,hl,h=>by
  unfold eH at h;by_cases hc:c=32
  .rw[if_pos hc]at h;obtain⟨h1,h2,h3⟩:=kx k r (i+1) T (by simp at hl;omega) h;exact⟨h1,h2,by simp;omega⟩
  .rw[if_neg hc]at h;cases h1:rK (c::r)with
   |none=>rw[h1]at h;cases h
   |some q=>
    obtain⟨⟨kd,n,s⟩,size⟩:=q;rw[h1]at h;dsimp only at h;obtain⟨a1,a2,a3,a4,a5,a6,a7,a8⟩:=Gu hl h1;rw[if_neg (by omega)]at h;cases h2:eH k ((c::r).drop size) (i+size)with
    |none=>rw[h2]at h;cases h
    |some ts=>
     rw[h2]at h;simp only[Option.map_some,Qcf]at h;subst h;obtain⟨b1,b2,b3⟩:=kx k _ (i+size) ts (by rw[List.length_drop];omega) h2;rw[List.length_drop]at b3;simp only[Qcc]at b3 a8⊢;refine⟨λt ht=> ?_,λt ht=> ?_,by omega⟩
     .rcases Qdf.1 ht with rfl|ht
      .exact⟨a3,a4,a5,a6⟩
      .exact b1 t ht
     .rcases Qdf.1 ht with rfl|ht
      .exact⟨a1,a2⟩
      .exact b2 t ht
def Gv:(Tryz.prog.info? 392).map (λi=>(i.zero,i.size,i.bytes))=some (some (.agg #[xI 0,xI 0,xS ⟨#[]⟩,xI 0]),4,40):=by kernel_rfl
def JI(w:aj)(s:aM)(T:List Tok)(pos:Nat)(wr:aj):Prop:=
 ∃(a:fA)(c:Nat)(done rest:List Tok)(k:Nat),done++rest=T/\eH k (s.data.toList.drop pos) pos=some rest/\aK (λi=>i<w.heap.size+2) (w.heap.size+2) 392 wr (xL a done.length c) (done.map mm)/\done.length<=pos/\aq w wr/\w.heap.size+2<=wr.heap.size/\
  wr.heap[w.heap.size]? =some (xK iH 319)/\wr.heap[w.heap.size+1]? =some (xK #[xL a done.length c,xI 0,xI s.size,xI (-1)] 390)
def Sc(w:aj)(o:Obj)(wx:aj):Prop:=wx.heap[w.heap.size]? =some o/\wx.heap.size=w.heap.size+1/\aq w wx
def JJ(o:Obj)(h1:wx.heap=(w.alloc o).heap)(h2:wx.os=w.os)(h3:wx.tape=w.tape)(h4:wx.output=w.output):Sc w o wx:=by
 obtain⟨a,b,d⟩:=rO (w:=w) (o0:=o) rfl;unfold Sc;rw[h1];exact⟨a,b,⟨h2,h3,h4,by rw[h1];exact d.size,by rw[h1];exact d.block⟩⟩
def Gw(w:aj)(x:aw)(e:Ending)(w':aj):Prop:=∃v,e=xR (.tuple #[v,xI 0,xI 0])/\ct (fy w) w' v x/\aq w w'
def JK(s:ByteArray)(w:World)(x:aw)(h:ee s.data.toList=some x):Calls prog 278 #[.string s] w (Gw w x):=by
 obtain⟨i0,ed,ej,dO,er⟩:=info_parts Gv;obtain⟨T,hT,hex,hs,Tg,hdp,hsz⟩:∃T,eH 200 s.data.toList 0=some T/\jb 60 1 T=some (x,[])/\s.size<=200/\iw x=true/\kM x<=8/\ek x<=40:=by
  unfold ee at h;cases h1:eH 200 s.data.toList 0 with
  |none=>rw[h1]at h;cases h
  |some T=>
   rw[h1]at h;dsimp only at h;cases h2:jb 60 1 T with
   |none=>rw[h2]at h;cases h
   |some q=>
    obtain⟨e,r⟩:=q;rw[h2]at h;cases r with
    |cons t r=>cases h
    |nil=>
     dsimp only at h;split at h
     .rename_i hc;simp only[Qcf]at h;subst h;rw[bq]at hc;exact⟨T,rfl,h2,hc⟩
     .cases h
 clear h;obtain⟨xk,xn,xs,xl⟩:=x;obtain⟨nX,NM,Nf⟩:=kx 200 _ 0 T (by rw[bq];exact hs) hT;rw[bq]at Nf;have HT:=hD hT;clear hT;have RG:=hD hex;clear hex;have Uu:=hD nX;clear nX;have Uv:=hD NM;clear NM;have HNB:=hD Tg;clear Tg;go_enter func278,ntmps278;go_wp2_with fail;go_loopg [3,4,6,7,8]s.size(λg r1 r2 iv _ _ wr=>∃pos:Nat,pos<=s.size/\g=s.size-pos/\iv= .int .i64 pos/\r1= .int .i64 0/\r2= .int .i64 0/\Hid (JI w s T pos wr));case atStart=>
  refine⟨0,Qbf _,rfl,rfl,rfl,rfl,?_⟩;obtain⟨b0,b1,hz,hb⟩:=jR (w:=w) (o0:= .cells #[.int .i64 0, .int .i64 0, .string ⟨#[]⟩, .slice none 0 0] 319) (o1:= .cells #[.slice none 0 0, .int .i64 0, .int .i64 s.size, .int .i64 (-1)] 390) rfl;exact(show JI _ _ _ _ _ from⟨none,0,[],T,200,rfl,HT.out,aK.nil _ _ _ _,Qab _,hb,by rw[hz];omega,b0,b1⟩)
 case round=>
  obtain⟨pos,vI,rfl,rfl,rfl,rfl,HL⟩:=hrel;obtain⟨a,c,done,rest,k,Ng,yO,hacc,Yh,tm,qdd,hR,hP⟩:=HL.out;by_cases bu:pos<s.size
  .obtain⟨ch,QG⟩:∃ch,s[pos]=ch:=⟨_,rfl⟩;have hb:=dk s pos bu;rw[QG]at hb;have Fy:s.data.toList.drop pos=ch::s.data.toList.drop (pos+1):=by
    have hl:=(Qad.1 hb).1;rw[List.drop_eq_getElem_cons hl,(Qad.1 hb).2]
   have hpz:(pos:Int)<s.size:=by omega
   rw[Fy]at yO;cases k with
   |zero=>simp[eH]at yO
   |succ k=>
    unfold eH at yO;by_cases RH:ch=32
    .subst RH;rw[if_pos rfl]at yO;have Ws:=hD yO;clear yO;have KF:=hD Ng;clear Ng;have mQ:=hD hacc;clear hacc;have Cw:=hD tm;clear tm;have HR:=hD hR;clear hR;have HP:=hD hP;clear hP;clear Fy hb HL;go_wp2_with fail;go_roundg(s.size-(pos+1));case measure=>omega
     case rel=>exact⟨pos+1,by omega,rfl,by go_num,rfl,rfl,(show JI _ _ _ _ _ from⟨a,c,done,rest,k,KF.out,Ws.out,mQ.out,by omega,Cw.out,qdd,HR.out,HP.out⟩)⟩
    .rw[if_neg RH]at yO;have e32:((ch.toNat:Int)==32)=false:=by simp;intro h;exact RH (UInt8.toNat_inj.1 (by simp;omega))
     cases h1:rK (ch::s.data.toList.drop (pos+1))with
     |none=>rw[h1]at yO;cases yO
     |some q=>
      obtain⟨⟨kd,n,str⟩,size⟩:=q;rw[h1]at yO;dsimp only at yO;rw[<-Fy]at h1;obtain⟨bK,Wt,hle,hn9,fJ⟩:=Oa s wr pos hs kd n str size h1;rw[if_neg (by omega),<-Fy]at yO;rw[List.drop_drop]at yO;cases h2:eH k (s.data.toList.drop (pos+size)) (pos+size)with
      |none=>rw[h2]at yO;cases yO
      |some ts=>
       rw[h2]at yO;simp only[Option.map_some,Qcf]at yO;have qgt:(((pos+size:Nat):Int)==0)=false:=by simp;omega
       have Ws:=hD yO;clear yO;have qde:=hD h2;clear h2;have KF:=hD Ng;clear Ng;have mQ:=hD hacc;clear hacc;have Cw:=hD tm;clear tm;have HR:=hD hR;clear hR;have HP:=hD hP;clear hP;have br:=hD bK;clear bK;clear Fy hb HL h1;go_wp2_with fail;refine(br.out).mono ?_;rintro e w1⟨rfl,aF⟩;have s1:=aF.size;have Nh:Hid (w1.heap[w.heap.size+1]? =some (.cells #[.slice a done.length c, .int .i64 0, .int .i64 s.size, .int .i64 (-1)] 390 (0,0))):=(aF.block _ (by omega)).trans HP.out;have zK:=hD (mQ.out.below aF);have mY:Hid (w1.heap[w.heap.size]? =some (.cells #[.int .i64 0, .int .i64 0, .string ⟨#[]⟩, .slice none 0 0] 319 (0,0))):=(aF.block _ (by omega)).trans HR.out;have aY:Hid (Below w.heap.size w w1):=Cw.out.trans (aF.mono (by omega));obtain⟨p0,p1,p2,p3⟩:=ae Nh.out;have fP:=ag Nh.out 0;have npw:w.heap.size+1≠w1.heap.size:=by omega
       clear aF;go_upto_region 11 with fail;obtain⟨W1,bT⟩:∃W1:World,W1=w1.alloc (.cells #[.int .i64 (cz kd), .int .i64 n, .string (bL str), .int .i64 pos] 392):=⟨_,rfl⟩;rw[<-bT];obtain⟨bX,KG,Fz⟩:=rO bT;have fL:=hD bX;have Th:Hid (W1.heap[w.heap.size+1]? =some (.cells #[.slice a done.length c, .int .i64 0, .int .i64 s.size, .int .i64 (-1)] 390 (0,0))):=(Fz.block _ (by omega)).trans Nh.out;have HAW:=hD (zK.out.below Fz);have Jo:Hid (W1.heap[w.heap.size]? =some (.cells #[.int .i64 0, .int .i64 0, .string ⟨#[]⟩, .slice none 0 0] 319 (0,0))):=(Fz.block _ (by omega)).trans mY.out;have tp:Hid (Below w.heap.size w W1):=aY.out.trans (Fz.mono (by omega));have hsW:w1.heap.size<W1.heap.size:=by omega
       clear bT Fz KG bX p0 p1 p2 p3 fP;obtain⟨p0,p1,p2,p3⟩:=ae Th.out;obtain⟨x0,x1,x2,x3⟩:=ae fL.out;have P0:∀o,(W1.alloc o).cell? ⟨w.heap.size+1,0,none⟩=some (.slice a done.length c):=λo=>(World.cell?_of_block (w:=W1) (Qcb W1 o (w.heap.size+1) (by omega))).trans p0;have Ti:(done.map mm).length=done.length:=Qdc _;have QH:=hD Ti;clear Ti;go_region_law(first
        |(refine dJ (α:=wL) rfl _ _ _ rfl (λi=>i<w.heap.size+2) (w.heap.size+2) 392 i0 _ 40 underlying388 ed ej dO er rfl (by decide) (.slice a done.length c) (done.map mm) rfl ((HAW.out.below ⟨rfl,rfl,rfl,Qab _,λ_ _=>rfl⟩:aK _ _ _ W1.drew _ _).alloc _) (λ_=>True) _ _ ⟨cz kd,n,bL str,pos⟩ rfl (cD _ _ _ _ rfl trivial) ⟨rfl,by rw[jG];exact fJ⟩ (by rw[QH.out];unfold maxLen;omega) (by rw[QH.out];omega) (by simp;omega) ?_;rw[QH.out];intro a2 c2 w2 bj dz bC;have dh:=hD bj;have l3:w2.cell? ⟨w.heap.size+1,0,none⟩=some (.slice a done.length c):=(bC.cell (p:=⟨w.heap.size+1,0,none⟩) (by simp)).trans (P0 _);have l4:w2.frozen? ⟨w.heap.size+1,0,none⟩=false:=(bC.frozen (p:=⟨w.heap.size+1,0,none⟩) (by simp)).trans ((((Qbg _ _).alloc (Qab _) _).frozen (p:=⟨w.heap.size+1,0,none⟩) (by simp;omega)).trans (ag Th.out 0));have aQ:=hD bC;clear bj dz bC));all_goals
        go_wp2_with fail;go_roundg(s.size-(pos+size));case measure=>omega
        case rel=>
         refine⟨pos+size,by omega,rfl,by go_num,rfl,rfl,?_⟩;have j6:=aQ.out.size;simp at j6;have hblk:∀y,y<w.heap.size+2->w2.heap[y]? =W1.heap[y]? :=λy hy=>(aQ.out.block y hy).trans (Qcb W1.drew _ y (by simp;omega));refine(show JI _ _ _ _ _ from⟨a2,c2,done++[⟨kd,n,str,pos⟩],ts,k,?_,qde.out,?_,by simp;omega,?_,by simp;omega,?_,?_⟩)
         .rw[<-KF.out,<-Ws.out];simp
         .have h:=dh.out.vz (p:=⟨w.heap.size+1,0,none⟩) (by simp) (by simp) (.slice a2 (done.length+1) c2);simpa [mm]using h
         .exact(((tp.out.drew).alloc (by simp;omega) _).trans (aQ.out.mono (by omega))).setCell (by simp) _
         .exact(Qag _ _ _ _ (by simp)).trans ((hblk _ (by omega)).trans Jo.out)
         .have h:=Qca w2 (w.heap.size+1) 0 _ _ (.slice a2 (done.length+1) c2) ((hblk _ (by omega)).trans Th.out);simpa using h
  .have KH:rest=[]:=by
    rw[List.drop_eq_nil_of_le (by rw[bq];omega)]at yO;cases k<;>simp[eH]at yO<;>exact yO
   subst KH;rw[List.append_nil]at Ng;subst Ng;have hpz:¬(pos:Int)<s.size:=by omega
   have j5:dR (w.heap.size+1) (.slice a done.length c) s.size done wr 0:=
    ⟨hP,(hacc.slice (λi h=>h)).ev (Ev.dD wr λi hi=>by unfold aO at hi;omega),by omega,Qbf _,Uv.out⟩;have bK:=(R9 (w.heap.size+1) (.slice a done.length c) s.size done Uu.out 60).1 1 0 (.mk xk xn xs xl) [] wr (by omega) (by omega) j5 RG.out;have tF:=hD j5;clear j5;have br:=hD bK;clear bK;have Cw:=hD tm;clear tm;have HR:=hD hR;clear hR;have HP:=hD hP;clear hP;clear yO hacc HL;go_wp2_with fail;refine(br.out).mono ?_;rintro e w1⟨_,j,rfl,⟨cs,rfl,bV⟩,nH,rC,gQ⟩;have pI:=bV;obtain⟨av,rfl,bI,ke⟩:=cH.iff.1 pI;obtain⟨xa,xc,rfl,_⟩:=bI.open_;have hj:j=done.length:=by
    have h1:=congrArg List.length rC;rw[List.length_drop]at h1;simp at h1;have:=nH.le;omega
   subst hj;have s1:=gQ.size;have mY:Hid (w1.heap[w.heap.size]? =some (.cells #[.int .i64 0, .int .i64 0, .string ⟨#[]⟩, .slice none 0 0] 319 (0,0))):=(gQ.block _ (by omega) (by unfold aO;omega)).trans HR.out;have aY:Hid (Below w.heap.size w w1):=(show Below _ _ _ from⟨gQ.os.trans Cw.out.os,gQ.tape.trans Cw.out.tape,gQ.output.trans Cw.out.output,Qcg Cw.out.size s1,λy hy=>(gQ.block y (by omega) (by unfold aO;omega)).trans (Cw.out.block y hy)⟩);obtain⟨p0,p1,p2,p3⟩:=ae nH.box;have npw:w.heap.size+1≠w1.heap.size:=by omega
   have nrw:w.heap.size≠w1.heap.size:=by omega
   have eX:=hD bV;clear bV;have qE:=hD nH;clear nH;clear gQ pI bI ke rC;have P0:∀o,(w1.alloc o).cell? ⟨w.heap.size+1,0,none⟩=some (.slice a done.length c):=λo=>(World.cell?_of_block (w:=w1) (Qcb w1 o (w.heap.size+1) (by omega))).trans p0;have P1:∀o,(w1.alloc o).cell? ⟨w.heap.size+1,1,none⟩=some (.int .i64 done.length):=λo=>(World.cell?_of_block (w:=w1) (Qcb w1 o (w.heap.size+1) (by omega))).trans p1;have P3:∀o,(w1.alloc o).cell? ⟨w.heap.size+1,3,none⟩=some (.int .i64 (-1)):=λo=>(World.cell?_of_block (w:=w1) (Qcb w1 o (w.heap.size+1) (by omega))).trans p3;have af:decide (done.length<done.length)=false:=by simp
   have hdi:decide ((done.length:Int)<(done.length:Int))=false:=by simp
   go_upto_region 14 with fail;go_cut [67](λs67 wx=>s67= .bool false/\Sc w1 (.cells #[.int .i64 xk, .int .i64 xn, .string xs, .slice xa xl.length xc] 319) wx);case first=>
    go_quiet(fail);go_wp2_with fail;go_meet;exact⟨rfl,JJ _ rfl rfl rfl rfl⟩
   case rest=>
    obtain⟨rfl,QB,mX,FY⟩:=hcut;clear p0 p1 p2 p3;have Uw:=(FY.block (w.heap.size+1) (by omega)).trans qE.out.box;obtain⟨p0,p1,p2,p3⟩:=ae Uw;have HRc:Hid (wc.heap[w.heap.size]? =some (.cells #[.int .i64 0, .int .i64 0, .string ⟨#[]⟩, .slice none 0 0] 319 (0,0))):=(FY.block _ (by omega)).trans mY.out;obtain⟨e0,e1,e2,e3⟩:=ae QB;have Tj:=wQ (fy w) wc (.agg #[.int .i64 xk, .int .i64 xn, .string xs, .slice xa xl.length xc]) (.mk xk xn xs xl) ⟨_,rfl,au.ev (α:=aw) eX.out ⟨ai.ao FY,λi hi=> .inl (by unfold fy at hi⊢;omega)⟩⟩ HNB.out hdp hsz;have HBc:Hid (Below w.heap.size w wc):=aY.out.trans (FY.mono (by omega));have qac:Hid (cH (λi=>i<w.heap.size+1) wc [.int .i64 xk, .int .i64 xn, .string xs, .slice xa xl.length xc] (.mk xk xn xs xl)):=au.ev (α:=aw) eX.out ⟨ai.ao FY,λi hi=> .inl (by unfold fy;omega)⟩;have Wu:=hD Tj;clear Tj;have uB:=hD QB;clear QB;clear Uw FY;go_wp2_with fail;refine(Wu.out).mono ?_;rintro e w5⟨rfl,jg⟩;have Kz:Hid (w5.heap[w.heap.size]? =some (.cells #[.int .i64 0, .int .i64 0, .string ⟨#[]⟩, .slice none 0 0] 319 (0,0))):=(jg.block _ (by omega)).trans HRc.out;have oq:=hD ((jg.block _ (by omega)).trans uB.out);have kK:Hid (Below w.heap.size w w5):=HBc.out.trans (jg.mono (by omega));have qad:=hD (au.ev (α:=aw) qac.out (Ev.ao jg));clear e0 e1 e2 e3 p0 p1 p2 p3 jg;obtain⟨e0,e1,e2,e3⟩:=ae oq.out;obtain⟨r0,r1,r2,r3⟩:=ae Kz.out;have g0:=ag Kz.out 0;have g1:=ag Kz.out 1;have g2:=ag Kz.out 2;have g3:=ag Kz.out 3;go_wp2_with fail;refine Qae (v:= .tuple #[.agg #[.int .i64 xk, .int .i64 xn, .string xs, .slice xa xl.length xc], .int .i64 0, .int .i64 0]) (by simp[results,results278,go_sem,r0,r1,r2,r3]) rfl ⟨_,rfl,⟨_,rfl,au.ev (α:=aw) qad.out ?_⟩,?_⟩
    .exact((((Ev.dD w5 (λi h=>by unfold fy at h;omega)).setCell (.inl (by simp)) _).setCell (.inl (by simp)) _).setCell (.inl (by simp)) _).setCell (.inl (by simp)) _
    .exact(((kK.out.setCell (Qab _) _).setCell (Qab _) _).setCell (Qab _) _).setCell (Qab _) _
def below_drewN {a:aj}(h:Below B a w)(n:Nat):Below B a (w.drewN n):=⟨h.os,h.tape,h.output,h.size,h.block⟩
def vA(b:Nat)(bad:Int)(w:aj):Prop:=w.heap[b]? =some (xK #[xL none 0 0,xI 0,xI 0,xI bad] 390)
def wR(b:Nat)(w:aj)(e:Ending)(w':aj):Prop:=e=xR (.agg iH)/\vA b 0 w'/\ai (aO b) w w'
def wS {bad:Int}(h:vA b bad W)(hne:b≠w.heap.size)(v0 v1 v2 v3:an):vA b bad ((((W.setCell ⟨w.heap.size,0,none⟩ v0).setCell ⟨w.heap.size,1,none⟩ v1).setCell ⟨w.heap.size,2,none⟩ v2).setCell ⟨w.heap.size,3,none⟩ v3):=
 (Qag _ _ _ _ hne).trans ((Qag _ _ _ _ hne).trans ((Qag _ _ _ _ hne).trans ((Qag _ _ _ _ hne).trans h)))
def tW(h:ai (aO b) w W)(v0 v1 v2 v3:an):ai (aO b) w ((((W.setCell ⟨w.heap.size,0,none⟩ v0).setCell ⟨w.heap.size,1,none⟩ v1).setCell ⟨w.heap.size,2,none⟩ v2).setCell ⟨w.heap.size,3,none⟩ v3):=
 (((h.setCell (.inr bN) v0).setCell (.inr bN) v1).setCell (.inr bN) v2).setCell (.inr bN) v3
def Gx(b:Nat)(w:World)(h:vA b (-1) w):xC 319 #[xP b] w (wR b w):=by
 have cR:b<w.heap.size:=(Qaa.1 h).1;obtain⟨p0,p1,p2,p3⟩:=ae h;have f3:=ag h 3;have hne:b≠w.heap.size:=by omega
 have HP:=af h;clear h;go_enter func319,ntmps319;go_upto_region 3 with fail;obtain⟨W,hW⟩:=bS ((w.setCell ⟨b,3,none⟩ (xI 0)).alloc (xK #[xI 0,xI 0,xS ⟨#[]⟩,xL none 0 0] 319));rw[<-hW];have HB:=af (show vA b 0 W by unfold vA;rw[hW];exact(Qcb _ _ b (by simpa using cR)).trans (Qca w b 3 _ _ _ HP.o));have HR:=af (show W.heap[w.heap.size]? =some (xK #[xI 0,xI 0,xS ⟨#[]⟩,xL none 0 0] 319)by rw[hW];have h:=Qbh (w.setCell ⟨b,3,none⟩ (xI 0)) (xK #[xI 0,xI 0,xS ⟨#[]⟩,xL none 0 0] 319);simpa using h);have HO:=af (show ai (aO b) w W by rw[hW];exact((ai.refl (aO b) w).Lf 3 _).alloc _);clear hW p0 p1 p2 p3 f3;obtain⟨p0,p1,p2,p3⟩:=ae HB.o;obtain⟨r0,r1,r2,r3⟩:=ae HR.o;obtain⟨g0,g1,g2,g3⟩:=iK HR.o;go_quiet(fail);go_wp2_with fail;refine Qae (v:= .agg #[xI 0,xI 0,xS ⟨#[]⟩,xL none 0 0]) (by simp[results,results319,go_sem,r0,r1,r2,r3]) rfl ⟨rfl,?_,?_⟩
 .exact wS (w:=w) (W:=W.drewN nq) HB.o hne _ _ _ _
 .exact tW (HO.o.drewN nq) _ _ _ _
def Dd(b:Nat)(w:aj)(h:vA b (-1) w):xC 344 #[xP b] w (wR b w):=by
 have cR:b<w.heap.size:=(Qaa.1 h).1;obtain⟨p0,p1,p2,p3⟩:=ae h;have hne:b≠w.heap.size:=by omega
 have HP:=af h;clear h;go_enter func344,ntmps344;go_wp2_with fail;go_quiet(fail);obtain⟨W,hW⟩:=bS ((w.alloc (xK iH 319)).drewN nq);rw[<-hW];have HB:=af (show vA b (-1) W by unfold vA;rw[hW];exact(Qcb w _ b cR).trans HP.o);have HR:=af (show di W w (xK iH 319)by rw[hW];exact Qbh w _);have HO:=af (show ai (aO b) w W by rw[hW];exact((ai.refl (aO b) w).alloc _).drewN nq);have hsz:w.heap.size<W.heap.size:=(Qaa.1 HR.o).1;have bK:=Gx b W HB.o;have br:=af bK;clear bK;clear hW p0 p1 p2 p3;go_wp2_with fail;refine(br.o).mono ?_;rintro e w1⟨rfl,uE,kg⟩;have mY:Hd (di w1 w (xK iH 319)):=(kg.block _ hsz (by unfold aO;omega)).trans HR.o;obtain⟨r0,r1,r2,r3⟩:=ae mY.o;obtain⟨g0,g1,g2,g3⟩:=iK mY.o;have Nh:=af uE;clear uE;have rE:=af kg;clear kg;go_wp2_with fail;refine Qae (v:= .agg iH) (by simp[results,results344,go_sem,r0,r1,r2,r3]) rfl ⟨rfl,?_,?_⟩
 .exact wS (w:=w) Nh.o hne _ _ _ _
 .exact tW (HO.o.trans rE.o) _ _ _ _
def Gy(b:Nat)(w:aj)(h:vA b (-1) w):xC 318 #[xP b,xI 1] w (wR b w):=by
 have cR:b<w.heap.size:=(Qaa.1 h).1;have hne:b≠w.heap.size:=by omega
 have bK:=Dd b (w.alloc (xK iH 319)) ((Qcb w _ b cR).trans h);have HP:=af h;clear h;have br:=af bK;clear bK;go_enter func318,ntmps318;go_wp2_with fail;refine(br.o).mono ?_;rintro e w1⟨rfl,uE,kg⟩;have fu:=kg.size;simp at fu;have mY:Hd (di w1 w (xK iH 319)):=(kg.block _ (by simp) (by unfold aO;omega)).trans (Qbh w _);have HO:Hd (ai (aO b) w w1):=((ai.refl _ w).alloc _).cO kg (λi hi _=>hi);have Nh:=af uE;clear uE;clear kg;go_wp2;go_loopg [6]0(λg _ wr=>g=0/\Hd (Sc w1 (xK iH 319) wr));case atStart=>exact⟨rfl,(JJ _ rfl rfl rfl rfl)⟩
 case round=>
  obtain⟨rfl,HT⟩:=hrel;obtain⟨hx,mX,FY⟩:=HT.o;have Wv:Hd (vA b 0 wr):=(FY.block b (by omega)).trans Nh.o;have vL:Hd (di wr w (xK iH 319)):=(FY.block _ (by omega)).trans mY.o;have Tk:Hd (ai (aO b) w wr):=HO.o.trans (ai.ao FY);obtain⟨p0,p1,p2,p3⟩:=ae Wv.o;obtain⟨r0,r1,r2,r3⟩:=ae vL.o;obtain⟨g0,g1,g2,g3⟩:=iK vL.o;obtain⟨x0,x1,x2,x3⟩:=ae hx;have qdf:w.heap.size≠w1.heap.size:=by omega
  have HX:=af hx;clear hx;clear FY mX;go_wp2_with fail;go_quiet(fail);go_wp2_with fail;refine Qae (v:= .agg iH) (by simp[results,results318,go_sem,r0,r1,r2,r3]) rfl ⟨rfl,?_,?_⟩
  .exact wS (w:=w) (W:=wr.drewN nq) Wv.o hne _ _ _ _
  .exact tW (Tk.o.drewN nq) _ _ _ _
def De(w:aj):xC 278 #[xS ⟨#[]⟩] w (cr (.tuple #[.agg iH,xI 0,xI 50]) w):=by
 go_enter func278,ntmps278;go_wp2;go_loopg [3,4,6,7,8]0(λg r1 r2 iv _ _ wr=>g=0/\r1=xI 0/\r2=xI 0/\iv=xI 0/\Hd (Two w (xK iH 319) (xK #[xL none 0 0,xI 0,xI 0,xI (-1)] 390) wr));case atStart=>exact⟨rfl,rfl,rfl,rfl,(Od (jR (w:=w) rfl) rfl rfl rfl rfl)⟩
 case round=>
  obtain⟨rfl,rfl,rfl,rfl,HT⟩:=hrel;obtain⟨hR,hP,hs,hb⟩:=HT.o;have bK:=Gy (w.heap.size+1) wr hP;have hsz:w.heap.size+1<wr.heap.size:=by omega
  have HR:=af hR;clear hR;have HB:=af hb;clear hb;have br:=af bK;clear bK;clear hP hs;go_wp2_with fail;refine(br.o).mono ?_;rintro e w1⟨rfl,uE,kg⟩;have fu:=kg.size;have mY:Hd (di w1 w (xK iH 319)):=(kg.block _ (by omega) (by unfold aO;omega)).trans HR.o;have aY:Hd (aq w w1):=⟨kg.os.trans HB.o.os,kg.tape.trans HB.o.tape,kg.output.trans HB.o.output,Qcg HB.o.size fu,λy hy=>(kg.block y (by omega) (by unfold aO;omega)).trans (HB.o.block y hy)⟩;obtain⟨W,hW⟩:=bS (w1.alloc (xK iH 319));obtain⟨wx,wxs,wxb⟩:=rO hW;have Th:Hd (vA (w.heap.size+1) 0 W):=(wxb.block _ (by omega)).trans uE;have Jo:Hd (di W w (xK iH 319)):=(wxb.block _ (by omega)).trans mY.o;have tp:Hd (aq w W):=aY.o.trans (wxb.mono (by omega));clear uE kg wx wxs wxb;go_upto_region 14 with fail;rw[<-hW];clear hW;obtain⟨p0,p1,p2,p3⟩:=ae Th.o;obtain⟨r0,r1,r2,r3⟩:=ae Jo.o;obtain⟨g0,g1,g2,g3⟩:=iK Jo.o;go_quiet(fail);go_wp2_with fail;go_region;all_goals
   go_wp2_with fail;refine Qae (v:= .tuple #[.agg iH,xI 0,xI 50]) (by simp[results,results278,go_sem,r0,r1,r2,r3]) rfl ⟨rfl,?_⟩;exact((((below_drewN tp.o _).setCell bN _).setCell bN _).setCell bN _).setCell bN _
def jc(c:ax)(x:aw)(t:aT):Prop:=∀(M:aN)(w:aj)(v fv:an),ct M w v x->ab M w fv c.fields->
 xC 321 #[v, .agg #[xS c.name,fv]] w (cr (.tuple #[.agg #[xI t.kind,xI t.of],xB true]) w)
def fZ(c:ax)(x:aw)(p:Int):Prop:=∀(M:aN)(w:aj)(v fv:an),ct M w v x->ab M w fv c.fields->
 xC 346 #[v, .agg #[xS c.name,fv]] w (cr (xI p) w)
def eC {k n:Int}{l:List aw}(h:ct M w v (aw.mk k n s l)):∃a cap,v= .agg #[xI k,xI n,xS s,xL a l.length cap]/\ab M w (xL a l.length cap) l:=by
 obtain⟨cs,rfl,bV⟩:=h;obtain⟨lv,rfl,bI,_⟩:=cH.iff.1 bV;have h2:=bI;obtain⟨a,cap,rfl,_⟩:=h2.open_;exact⟨a,cap,rfl,bI⟩
def im(c:ax)(x:aw)(t:aT)(ht:t.kind=1\/t.kind=2)(H:jc c x t):fZ c x t.kind:=by
 intro M w v fv gq cq;obtain⟨xk,xn,xs,xl⟩:=x;have tG:=af gq;have iL:=af cq;obtain⟨a,cap,rfl,_⟩:=eC gq;obtain⟨fa,fc,rfl,_⟩:=cq.open_;have HC:Hd (∀W,aq w W->xC 321 #[.agg #[xI xk,xI xn,xS xs,xL a xl.length cap], .agg #[xS c.name,xL fa c.fields.length fc]] W (cr (.tuple #[.agg #[xI t.kind,xI t.of],xB true]) W)):=λW hb=>H M W _ _ (tG.o.below hb) (iL.o.below hb);obtain⟨tk,F0⟩:=t;dsimp only at ht HC⊢;rcases ht with rfl|rfl;all_goals
  go_enter func346,ntmps346;go_wp2_with fail;refine bY (HC.o _ (by exact bM.alloc (by simp) _)) λw1 aF=> ?_;have aY:Hd (aq w w1):=((bM.alloc (by simp) _)).trans (aF.mono (by simp;omega));go_wp2;go_ret;exact⟨rfl,aY.o.alloc aY.o.size _⟩
def iC(c:ax)(k n:Int)(s:aM)(l:List aw)(hk:k=1\/k=2):jc c (.mk k n s l) ⟨k,0⟩:=by
 intro M w v fv gq cq;obtain⟨a,cap,rfl,_⟩:=eC gq;obtain⟨fa,fc,rfl,_⟩:=cq.open_;rcases hk with rfl|rfl;all_goals
  go_enter func321,ntmps321;go_wp2_with fail;refine Qae (v:= .tuple #[.agg #[xI _,xI 0],xB true]) (by simp[results,results321,go_sem];try rfl) rfl ⟨rfl,?_⟩;exact(bM.alloc (by simp) _).alloc (by simp;omega) _
def Gz(c:ax)(s:aM)(f:az)(i:Nat)(hi:fieldAt c s=i)(hf:c.fields[i]? =some f):jc c (.mk 3 0 s []) f.type:=by
 intro M w v fv gq cq;obtain⟨a,cap,rfl,_⟩:=eC gq;have iL:=af cq;obtain⟨fa,fc,rfl,_,_,hc⟩:=cq.open_;have ze:=(Qad.1 hf).1;obtain⟨b,off,rfl,hM,cR,aL⟩:=hc (by omega);obtain⟨cs,⟨rfl,_⟩,bJ⟩:=aL i f hf;have HC:Hd (∀W,aq w W->xC 118 #[.agg #[xS c.name,xL (some ⟨b,off,none⟩) c.fields.length fc],xS s] W (cr (.tuple #[xI i,xB true]) W)):=λW hb=>lu M _ W c s i true (iL.o.below hb) (by rw[hi,if_neg (by omega)]) (by rw[hi,decide_eq_false (by omega)];rfl);have q1:bt w b (off+i*4+1) (xI f.type.kind):=bJ 1 _ rfl;have q2:bt w b (off+i*4+1+1) (xI f.type.of):=bJ 2 _ rfl;have RB:(i:Int)<(c.fields.length:Int):=by omega
 go_enter func321,ntmps321;go_wp2_with fail;refine bY (HC.o _ (by exact(bM.alloc (by simp) _).alloc (by simp;omega) _)) λw1 aF=> ?_;have lZ:aq w w1:=(((bM.alloc (by simp) _)).alloc (by simp;omega) _).trans (aF.mono (by simp;omega));have k1:bt w1 b (off+i*4+1) (xI f.type.kind):=(lZ.cell (p:=⟨b,off+i*4+1,none⟩) cR).trans q1;have k2:bt w1 b (off+i*4+1+1) (xI f.type.of):=(lZ.cell (p:=⟨b,off+i*4+1+1,none⟩) cR).trans q2;have fL:=af ((aF.block (w.heap.size+1) (by simp)).trans (C8 (w:=w) rfl).2.1);have fU:=af ((aF.block (w.heap.size+2) (by simp)).trans (C8 (w:=w) rfl).2.2.1);obtain⟨c0,c1⟩:=ah fL.o;have Nd:bR w1 (w.heap.size+1+1) (xK #[xI 0,xI 0] 49):=fU.o;obtain⟨r0,r1⟩:=ah Nd;obtain⟨g0,g1⟩:=mV Nd;have fu:=aF.size;simp at fu;have jN:=af lZ;go_wp2_with fail;refine Qae (v:= .tuple #[.agg #[xI f.type.kind,xI f.type.of],xB true]) (by simp[results,results321,go_sem,r0,r1]) rfl ⟨rfl,?_⟩;exact(jN.o.setCell (by simp;omega) _).setCell (by simp;omega) _
def kD {l:List aw}{k n:Int}{ll:List aw}(h:ab M w (xL a l.length cap) l)(hi:l[i]? =some (.mk k n s ll)):
 ∃b off ka kc,a=some ⟨b,off,none⟩/\b<w.heap.size/\bt w b (off+i*4) (xI k)/\bt w b (off+i*4+1) (xI n)/\bt w b (off+i*4+2) (xS s)/\bt w b (off+i*4+3) (xL ka ll.length kc)/\
  ct M w (.agg #[xI k,xI n,xS s,xL ka ll.length kc]) (aw.mk k n s ll):=by
 obtain⟨a',ig,e,_,_,hc⟩:=h.open_;simp only[Value.slice.injEq,true_and]at e;obtain⟨rfl,rfl⟩:=e;have ze:=(Qad.1 hi).1;obtain⟨b,off,rfl,hM,cR,aL⟩:=hc (by omega);obtain⟨cs,bV,bJ⟩:=aL i _ hi;have pI:cH M w cs (.mk k n s ll):=bV;obtain⟨lv,rfl,bI,ke⟩:=cH.iff.1 pI;have h2:=bI;obtain⟨ka,kc,rfl,_⟩:=h2.open_;exact⟨b,off,ka,kc,rfl,cR,bJ 0 _ rfl,bJ 1 _ rfl,bJ 2 _ rfl,bJ 3 _ rfl,_,rfl,bV⟩
def eI(w:aj)(o0 o1:Obj)(wx:aj):Prop:=wx.heap[w.heap.size]? =some o0/\wx.heap[w.heap.size+1]? =some o1/\wx.heap[w.heap.size+1+1]? =some (xK #[xI 0,xI 0] 49)/\aq w wx/\w.heap.size+2<wx.heap.size
theorem eI.below(h:eI w o0 o1 wx)(k:aq wx w'):eI w o0 o1 w':=by
 obtain⟨h1,h2,h3,h4,h5⟩:=h;have:=k.size;exact⟨(k.block _ (by omega)).trans h1,(k.block _ (by omega)).trans h2,(k.block _ (by omega)).trans h3,h4.trans (k.mono (by omega)),by omega⟩
theorem eI.drew(h:eI w o0 o1 wx):eI w o0 o1 wx.drew:=⟨h.1,h.2.1,h.2.2.1,h.2.2.2.1.drew,h.2.2.2.2⟩
theorem eI.new(w:aj)(o0 o1:Obj):eI w o0 o1 (((w.alloc o0).alloc o1).alloc (xK #[xI 0,xI 0] 49)):=by
 obtain⟨a,b,c,d,e⟩:=C8 (w:=w) (o0:=o0) (o1:=o1) (o2:=xK #[xI 0,xI 0] 49) rfl;exact⟨a,b,c,e,by rw[d];omega⟩
def vW(c:ax)(s:List UInt8)(x y:aw)(p q:Int)(t:aT)(hx:fZ c x p)(hy:fZ c y q)
 (ht:(s=[38]/\p=2/\q=2/\t=⟨2,0⟩)\/((s=[61]\/s=[62])/\p=q/\(p=1\/p=2)/\t=⟨1,0⟩)\/((s=[42]\/s=[45]\/s=[47])/\p=1/\q=1/\t=⟨1,0⟩)):jc c (.mk 4 0 (bL s) [x,y]) t:=by
 intro M w v fv gq cq;obtain⟨a,cap,rfl,bI⟩:=eC gq;obtain⟨xk,xn,xs,xl⟩:=x;obtain⟨yk,yn,ys,yl⟩:=y;obtain⟨b,off,xa,xc,rfl,cR,x0,x1,x2,x3,hxa⟩:=kD (i:=0) bI rfl;obtain⟨b',zM,ya,yc,e,_,y0,y1,y2,y3,F1⟩:=kD (i:=1) bI rfl;simp only[Qcf,Addr.mk.injEq,and_true]at e;obtain⟨rfl,rfl⟩:=e;simp only[Nat.zero_mul,Nat.add_zero]at x0 x1 x2 x3;simp only[Nat.one_mul]at y0 y1 y2 y3;have iL:=af cq;obtain⟨fa,fc,rfl,_⟩:=cq.open_;have HX:Hd (∀W,aq w W->xC 346 #[.agg #[xI xk,xI xn,xS xs,xL xa xl.length xc], .agg #[xS c.name,xL fa c.fields.length fc]] W (cr (xI p) W)):=λW hb=>hx M W _ _ (hxa.below hb) (iL.o.below hb);have HY:Hd (∀W,aq w W->xC 346 #[.agg #[xI yk,xI yn,xS ys,xL ya yl.length yc], .agg #[xS c.name,xL fa c.fields.length fc]] W (cr (xI q) W)):=λW hb=>hy M W _ _ (F1.below hb) (iL.o.below hb);clear gq cq bI hxa F1 hx hy;have hlen:[aw.mk xk xn xs xl,aw.mk yk yn ys yl].length=2:=rfl;rw[hlen];clear hlen;go_enter func321,ntmps321;go_upto_region 16 with fail;obtain⟨W,hW⟩:=bS (((w.alloc (xK #[xI 4,xI 0,xS (bL s),xL (some ⟨b,off,none⟩) 2 cap] 319)).alloc (xK #[xS c.name,xL fa c.fields.length fc] 47)).alloc (xK #[xI 0,xI 0] 49));rw[<-hW];have HW:=af (show eI w (xK #[xI 4,xI 0,xS (bL s),xL (some ⟨b,off,none⟩) 2 cap] 319) (xK #[xS c.name,xL fa c.fields.length fc] 47) W by rw[hW];exact eI.new w _ _);clear hW;have zN:Hd (∀W,aq w W->bt W b off (xI xk)/\bt W b (off+1) (xI xn)/\bt W b (off+2) (xS xs)/\bt W b (off+3) (xL xa xl.length xc)/\bt W b (off+4) (xI yk)/\bt W b (off+4+1) (xI yn)/\bt W b (off+4+2) (xS ys)/\bt W b (off+4+3) (xL ya yl.length yc)):=λW hb=>
  ⟨(hb.cell (p:=⟨b,off,none⟩) cR).trans x0,(hb.cell (p:=⟨b,off+1,none⟩) cR).trans x1,(hb.cell (p:=⟨b,off+2,none⟩) cR).trans x2,(hb.cell (p:=⟨b,off+3,none⟩) cR).trans x3,(hb.cell (p:=⟨b,off+4,none⟩) cR).trans y0,(hb.cell (p:=⟨b,off+4+1,none⟩) cR).trans y1,(hb.cell (p:=⟨b,off+4+2,none⟩) cR).trans y2,(hb.cell (p:=⟨b,off+4+3,none⟩) cR).trans y3⟩;clear x0 x1 x2 x3 y0 y1 y2 y3;go_cut [9](λs9 wx=>s9=xI p/\Hd (eI w (xK #[xI 4,xI 0,xS (bL s),xL (some ⟨b,off,none⟩) 2 cap] 319) (xK #[xS c.name,xL fa c.fields.length fc] 47) wx));case first=>
  obtain⟨a0,a1,a2,a3⟩:=ae HW.o.1;obtain⟨c0,c1⟩:=ah HW.o.2.1;obtain⟨x0,x1,x2,x3,_⟩:=zN.o W HW.o.2.2.2.1;go_region_law(first|(go_simp;go_at_call 346;refine bY (HX.o _ (by exact HW.o.2.2.2.1.drew)) λw1 aF=> ?_;have ot:=af (HW.o.drew.below aF);clear aF));all_goals(go_wp2_with fail;go_meet;exact⟨rfl,ot⟩)
 case rest=>
  obtain⟨rfl,fO⟩:=hcut;clear HW;go_upto_region 17 with fail;go_cut [10](λWw wx=>Ww=xI q/\Hd (eI w (xK #[xI 4,xI 0,xS (bL s),xL (some ⟨b,off,none⟩) 2 cap] 319) (xK #[xS c.name,xL fa c.fields.length fc] 47) wx));case first=>
   obtain⟨a0,a1,a2,a3⟩:=ae fO.o.1;obtain⟨c0,c1⟩:=ah fO.o.2.1;obtain⟨_,_,_,_,x0,x1,x2,x3⟩:=zN.o _ fO.o.2.2.2.1;go_region_law(first|(go_simp;go_at_call 346;refine bY (HY.o _ (by exact fO.o.2.2.2.1.drew)) λw1 aF=> ?_;have ot:=af (fO.o.drew.below aF);clear aF));all_goals(go_wp2_with fail;go_meet;exact⟨rfl,ot⟩)
  case rest=>
   obtain⟨rfl,ql⟩:=hcut;obtain⟨a0,a1,a2,a3⟩:=ae ql.o.1;obtain⟨r0,r1⟩:=ah ql.o.2.2.1;obtain⟨g0,g1⟩:=mV ql.o.2.2.1;have F2:=ql.o.2.2.2.1;have Tl:=af F2;clear F2;clear zN HX HY fO;rcases ht with⟨rfl,rfl,rfl,rfl⟩|⟨hs,rfl,hp,rfl⟩|⟨hs,rfl,rfl,rfl⟩
   .replace a2:ox wc w 2 (xS ⟨#[38]⟩):=a2;go_wp2_with fail;refine Qae (v:= .tuple #[.agg #[xI 2,xI 0],xB true]) (by simp[results,results321,go_sem,r0,r1]) rfl ⟨rfl,?_⟩;exact(Tl.o.setCell (by simp;omega) _).setCell (by simp;omega) _
   .rcases hs with rfl|rfl<;>rcases hp with rfl|rfl;all_goals
     (first|replace a2:ox wc w 2 (xS ⟨#[61]⟩):=a2|replace a2:ox wc w 2 (xS ⟨#[62]⟩):=a2);go_wp2_with fail;refine Qae (v:= .tuple #[.agg #[xI 1,xI 0],xB true]) (by simp[results,results321,go_sem,r0,r1]) rfl ⟨rfl,?_⟩;exact(Tl.o.setCell (by simp;omega) _).setCell (by simp;omega) _
   .rcases hs with rfl|rfl|rfl;all_goals
     (first|replace a2:ox wc w 2 (xS ⟨#[42]⟩):=a2|replace a2:ox wc w 2 (xS ⟨#[45]⟩):=a2|replace a2:ox wc w 2 (xS ⟨#[47]⟩):=a2);go_wp2_with fail;refine Qae (v:= .tuple #[.agg #[xI 1,xI 0],xB true]) (by simp[results,results321,go_sem,r0,r1]) rfl ⟨rfl,?_⟩;exact(Tl.o.setCell (by simp;omega) _).setCell (by simp;omega) _
def fB(s:List UInt8):List UInt8:=
 if s=[108,101,110]then[116]else if s=[116,101,120,116]then[110]else if s=[108,101,102,116]\/s=[102,114,111,109]then[116,110]else if s=[102,105,110,100]then[116,116]else[]
def nj:List (List UInt8):=[[108,101,110],[116,101,120,116],[108,101,102,116],[102,114,111,109],[102,105,110,100]]
def Of(s:List UInt8)(hs:s∈nj)(w:aj):xC 388 #[xS (bL s)] w (ji (xS (bL (fB s))) w):=by
 simp only[nj,Qdf,List.not_mem_nil,or_false]at hs;rcases hs with rfl|rfl|rfl|rfl|rfl
 .show xC 388 #[xS ⟨#[108,101,110]⟩] w _;go_enter func388,ntmps388;go_wp2;go_ret;exact⟨rfl,rfl⟩
 .show xC 388 #[xS ⟨#[116,101,120,116]⟩] w _;go_enter func388,ntmps388;go_wp2;go_ret;exact⟨rfl,rfl⟩
 .show xC 388 #[xS ⟨#[108,101,102,116]⟩] w _;go_enter func388,ntmps388;go_wp2;go_ret;exact⟨rfl,rfl⟩
 .show xC 388 #[xS ⟨#[102,114,111,109]⟩] w _;go_enter func388,ntmps388;go_wp2;go_ret;exact⟨rfl,rfl⟩
 .show xC 388 #[xS ⟨#[102,105,110,100]⟩] w _;go_enter func388,ntmps388;go_wp2;go_ret;exact⟨rfl,rfl⟩
def rR(s:List UInt8):aT:=if s=[116,101,120,116]\/s=[108,101,102,116]\/s=[102,114,111,109]then⟨2,0⟩else⟨1,0⟩
def partOf(c:UInt8):Int:=if c=110 then 1 else 2
def GA {s:List UInt8}(hs:s∈nj):0<(fB s).length/\∀c∈fB s,c=110\/c=116:=by
 simp only[nj,Qdf,List.not_mem_nil,or_false]at hs;rcases hs with rfl|rfl|rfl|rfl|rfl<;>decide
def Sd(c:ax)(s:List UInt8)(hs:s∈nj)(l:List aw)(hl:l.length=(fB s).length)(hp:∀(i:Nat)(e:aw)(u:UInt8),l[i]? =some e->(fB s)[i]? =some u->fZ c e (partOf u))(M:aN)(w:aj)(v fv:an)(gq:ct M w v (aw.mk 6 0 (bL s) l))(cq:ab M w fv c.fields):
 xC 347 #[v, .agg #[xS c.name,fv]] w (cr (.tuple #[.agg #[xI (rR s).kind,xI (rR s).of],xB true]) w):=by
 obtain⟨a,cap,rfl,bI⟩:=eC gq;have iL:=af cq;obtain⟨fa,fc,rfl,_⟩:=cq.open_;obtain⟨uF,hwb⟩:=GA hs;have qae:=af (λw=>Of s hs w);have hif:((bL s).toList==[105,102])=false:=by rw[ByteArray.toList_eq,lz];simp only[nj,Qdf,List.not_mem_nil,or_false]at hs;rcases hs with rfl|rfl|rfl|rfl|rfl<;>decide
 have Fw:(((bL s).toList==[108,101,102,116])=true/\rR s=⟨2,0⟩)\/(((bL s).toList==[108,101,102,116])=false/\((bL s).toList==[114,105,103,104,116])=false/\((bL s).toList==[102,114,111,109])=true/\rR s=⟨2,0⟩)\/(((bL s).toList==[108,101,102,116])=false/\((bL s).toList==[114,105,103,104,116])=false/\((bL s).toList==[102,114,111,109])=false/\((bL s).toList==[116,101,120,116])=true/\rR s=⟨2,0⟩)\/(((bL s).toList==[108,101,102,116])=false/\((bL s).toList==[114,105,103,104,116])=false/\((bL s).toList==[102,114,111,109])=false/\((bL s).toList==[116,101,120,116])=false/\rR s=⟨1,0⟩):=by
  rw[ByteArray.toList_eq,lz];simp only[nj,Qdf,List.not_mem_nil,or_false]at hs;rcases hs with rfl|rfl|rfl|rfl|rfl<;>decide
 have QI:=af Fw;have hwl:(bL (fB s)).size=(fB s).length:=jG _;have hwn:((bL (fB s)).toList==[])=false:=by rw[ByteArray.toList_eq,lz];cases hq:fB s;rw[hq]at uF;simp at uF;rfl
 have uA:Hd (∀(i:Nat)(h:i<(bL (fB s)).size),∃u,(fB s)[i]? =some u/\(bL (fB s))[i]=u/\(u=110\/u=116)):=λi h=>by
  have h1:=dk (bL (fB s)) i h;rw[lz]at h1;exact⟨_,h1,rfl,hwb _ (Qaf h1)⟩
 have qaf:(fB s).length<=2:=by simp only[nj,Qdf,List.not_mem_nil,or_false]at hs;rcases hs with rfl|rfl|rfl|rfl|rfl<;>decide
 generalize hwv:bL (fB s)=wv at*;generalize qdg:(fB s).length=n at*;rw[hl]at bI⊢;have gp:=af bI;have HP:=af hp;have HL:=af hl;have HN:=af qdg;have HWL:=af hwl;have qgu:wv.size<=2:=by rw[HWL.o];exact qaf
 have qgv:wv.size=n:=HWL.o;go_enter func347,ntmps347;go_wp2_with fail;refine cT (qae.o _) ?_;go_wp2;go_loopg [5,10,11]n(λg r5 iv _ wr=>∃i:Nat,i<=n/\g=n-i/\iv=xI i/\r5=xB false/\Hd (eI w (xK #[xI 6,xI 0,xS (bL s),xL a n cap] 319) (xK #[xS c.name,xL fa c.fields.length fc] 47) wr));case atStart=>exact⟨0,Qbf _,rfl,rfl,rfl,(eI.new w _ _)⟩
 case round=>
  obtain⟨i,hi,rfl,rfl,rfl,HW⟩:=hrel;by_cases bu:i<n
  .obtain⟨u,hu,hwi,hu2⟩:=uA.o i (by omega);obtain⟨x,hx⟩:=eB l i (by rw[HL.o];exact bu);have hpx:=HP.o i x u hx hu;obtain⟨xk,xn,xs,xl⟩:=x;have Cx:ab M w (xL a l.length cap) l:=by rw[HL.o];exact gp.o
   obtain⟨b,off,xa,xc,rfl,cR,x0,x1,x2,x3,hxa⟩:=kD Cx hx;have HX:Hd (∀W,aq w W->xC 346 #[.agg #[xI xk,xI xn,xS xs,xL xa xl.length xc], .agg #[xS c.name,xL fa c.fields.length fc]] W (cr (xI (partOf u)) W)):=λW hb=>hpx M W _ _ (hxa.below hb) (iL.o.below hb);have RB:(i:Int)<(n:Int):=by omega
   have ed:(0:Int)<=(i:Int):=Qba _;obtain⟨a0,a1,a2,a3⟩:=ae HW.o.1;obtain⟨c0,c1⟩:=ah HW.o.2.1;have y0:bt wr b (off+i*4) (xI xk):=(HW.o.2.2.2.1.cell (p:=⟨b,off+i*4,none⟩) cR).trans x0;have y1:bt wr b (off+i*4+1) (xI xn):=(HW.o.2.2.2.1.cell (p:=⟨b,off+i*4+1,none⟩) cR).trans x1;have y2:bt wr b (off+i*4+2) (xS xs):=(HW.o.2.2.2.1.cell (p:=⟨b,off+i*4+2,none⟩) cR).trans x2;have y3:bt wr b (off+i*4+3) (xL xa xl.length xc):=(HW.o.2.2.2.1.cell (p:=⟨b,off+i*4+3,none⟩) cR).trans x3;go_upto_region 14 with fail;go_cut [11](λWx wx=>Wx=xI (partOf u)/\Hd (eI w (xK #[xI 6,xI 0,xS (bL s),xL (some ⟨b,off,none⟩) n cap] 319) (xK #[xS c.name,xL fa c.fields.length fc] 47) wx));case first=>
    go_region_law(first|(go_simp;go_at_call 346;refine bY (HX.o _ (by exact HW.o.2.2.2.1.drew)) λw1 aF=> ?_;have ot:=af (HW.o.drew.below aF);clear aF));all_goals(go_wp2_with fail;go_meet;exact⟨rfl,ot⟩)
   case rest=>
    obtain⟨rfl,fO⟩:=hcut;rcases hu2 with rfl|rfl
    .rw[show partOf 110=1 from rfl];go_wp2;go_roundg(n-(i+1));case measure=>omega
     case rel=>exact⟨i+1,by omega,rfl,by go_num,rfl,fO⟩
    .rw[show partOf 116=2 from rfl];go_wp2;go_roundg(n-(i+1));case measure=>omega
     case rel=>exact⟨i+1,by omega,rfl,by go_num,rfl,fO⟩
  .obtain⟨a0,a1,a2,a3⟩:=ae HW.o.1;obtain⟨r0,r1⟩:=ah HW.o.2.2.1;obtain⟨g0,g1⟩:=mV HW.o.2.2.1;have F2:=HW.o.2.2.2.1;have Tl:=af F2;rcases QI.o with⟨h1,ht⟩|⟨h1,h2,h3,ht⟩|⟨h1,h2,h3,h4,ht⟩|⟨h1,h2,h3,h4,ht⟩;all_goals
    have HTT:=af ht;go_wp2_with fail;refine Qae (v:= .tuple #[.agg #[xI (rR s).kind,xI (rR s).of],xB true]) (by simp[results,results347,go_sem,r0,r1,HTT.o]) rfl ⟨rfl,?_⟩;exact(Tl.o.setCell (by simp;omega) _).setCell (by simp;omega) _
def T8(c:ax)(x:aw)(t:aT):Prop:=∀(M:aN)(w:aj)(v fv:an),ct M w v x->ab M w fv c.fields->
 xC 347 #[v, .agg #[xS c.name,fv]] w (cr (.tuple #[.agg #[xI t.kind,xI t.of],xB true]) w)
def tX(c:ax)(s:aM)(l:List aw)(t:aT)(H:T8 c (.mk 6 0 s l) t):jc c (.mk 6 0 s l) t:=by
 intro M w v fv gq cq;have tG:=af gq;have iL:=af cq;obtain⟨a,cap,rfl,_⟩:=eC gq;obtain⟨fa,fc,rfl,_⟩:=cq.open_;have HC:Hd (∀W,aq w W->xC 347 #[.agg #[xI 6,xI 0,xS s,xL a l.length cap], .agg #[xS c.name,xL fa c.fields.length fc]] W (cr (.tuple #[.agg #[xI t.kind,xI t.of],xB true]) W)):=λW hb=>H M W _ _ (tG.o.below hb) (iL.o.below hb);go_enter func321,ntmps321;go_wp2_with fail;refine bY (HC.o _ (by exact(bM.alloc (by simp) _).alloc (by simp;omega) _)) λw1 aF=> ?_;have HK:=af ((eI.new w _ _).below aF);obtain⟨r0,r1⟩:=ah HK.o.2.2.1;obtain⟨g0,g1⟩:=mV HK.o.2.2.1;go_wp2_with fail;refine Qae (v:= .tuple #[.agg #[xI t.kind,xI t.of],xB true]) (by simp[results,results321,go_sem,r0,r1]) rfl ⟨rfl,?_⟩;exact(HK.o.2.2.2.1.setCell (by simp;omega) _).setCell (by simp;omega) _
def call5(c:ax)(s:List UInt8)(hs:s∈nj)(l:List aw)(hl:l.length=(fB s).length)(hp:∀(i:Nat)(e:aw)(u:UInt8),l[i]? =some e->(fB s)[i]? =some u->fZ c e (partOf u)):jc c (.mk 6 0 (bL s) l) (rR s):=
 tX c _ l _ (λM w v fv h1 h2=>Sd c s hs l hl hp M w v fv h1 h2)
def Se(c:ax)(x:aw)(t:aT)(H:jc c x t)(hn:iw x=true)(hd:kM x<=8)(hs:ek x<=40)(hc:aP c=true)(fV:c.name.size<=maxLen)(M:aN)(w:aj)(v fv:an)(gq:ct M w v x)(cq:ab M w fv c.fields):
 xC 279 #[v, .agg #[xS c.name,fv]] w (cr (.tuple #[.agg #[xI t.kind,xI t.of],xI 0]) w):=by
 obtain⟨xk,xn,xs,xl⟩:=x;have tG:=af gq;have iL:=af cq;obtain⟨a,cap,rfl,_⟩:=eC gq;obtain⟨fa,fc,rfl,_⟩:=cq.open_;have HR:Hd (∀W,aq w W->xC 320 #[.agg #[xI xk,xI xn,xS xs,xL a xl.length cap]] W (cr (xB true) W)):=λW hb=>wQ M W _ _ (tG.o.below hb) hn hd hs;have zf:Hd (∀W,aq w W->xC 241 #[.agg #[xS c.name,xL fa c.fields.length fc]] W (cr (xB true) W)):=λW hb=>ku M _ W c (iL.o.below hb) fV hc;have HC:Hd (∀W,aq w W->xC 321 #[.agg #[xI xk,xI xn,xS xs,xL a xl.length cap], .agg #[xS c.name,xL fa c.fields.length fc]] W (cr (.tuple #[.agg #[xI t.kind,xI t.of],xB true]) W)):=λW hb=>H M W _ _ (tG.o.below hb) (iL.o.below hb);go_enter func279,ntmps279;go_wp2_with fail;refine bY (HR.o _ (by exact(bM.alloc (by simp) _).alloc (by simp;omega) _)) λw1 aF=> ?_;have HK:=af ((eI.new w _ _).below aF);obtain⟨c0,c1⟩:=ah HK.o.2.1;obtain⟨a0,a1,a2,a3⟩:=ae HK.o.1;go_wp2_with fail;refine bY (zf.o _ (by exact HK.o.2.2.2.1)) λw2 bC=> ?_;have zO:=af (HK.o.below bC);obtain⟨c0,c1⟩:=ah zO.o.2.1;obtain⟨a0,a1,a2,a3⟩:=ae zO.o.1;go_wp2_with fail;refine bY (HC.o _ (by exact zO.o.2.2.2.1)) λw3 bP=> ?_;have vM:=af (zO.o.below bP);obtain⟨r0,r1⟩:=ah vM.o.2.2.1;obtain⟨g0,g1⟩:=mV vM.o.2.2.1;have hsz:=vM.o.2.2.2.2;have hne:w.heap.size+1+1≠w3.heap.size:=by omega
 go_wp2_with fail;obtain⟨z0,z1⟩:=ah (W:=((w3.setCell ⟨w.heap.size+1+1,0,none⟩ (xI t.kind)).setCell ⟨w.heap.size+1+1,1,none⟩ (xI t.of)).alloc (xK #[xI t.kind,xI t.of] 49)) ((Qcb _ _ _ (by simp;omega)).trans (Qca _ _ 1 _ _ _ (Qca _ _ 0 _ _ _ vM.o.2.2.1)));refine Qae (v:= .tuple #[.agg #[xI t.kind,xI t.of],xI 0]) (by simp[results,results279,go_sem];simp[z0,z1]) rfl ⟨rfl,?_⟩;exact((vM.o.2.2.2.1.setCell (by simp;omega) _).setCell (by simp;omega) _).alloc (by simp;omega) _
end Go.Proofs.YtepaofffbkfodaaGreatDoor
