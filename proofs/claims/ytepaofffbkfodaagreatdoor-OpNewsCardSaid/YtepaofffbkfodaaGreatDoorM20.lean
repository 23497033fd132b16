/- A part; no condition. -/
import Derived.Test.YtepaofffbkfodaaGreatDoorM14
import Derived.Test.YtepaofffbkfodaaGreatDoorM17
import Derived.BigGuardPart
import Derived.Shelf.Spec.SlicesGrow
import Derived.Sort.Walk0
set_option linter.all false
set_option maxHeartbeats 8000000
set_option maxRecDepth 100000
namespace Go.Proofs.YtepaofffbkfodaaGreatDoor
open Go.Proofs.Tryz
variable{s nm:aY}{t e:TypeId}{c0 c1 c2 c3 a0 a1 a2 a3 v fv lv:aA}{g i B K base b j cap p clk k:Nat}{W w w' W' w0:ax}{o:Obj}{M N F:aV}{ay id:Int}{c:aI}{cur:Array aA}{x:aN}{f:aH}{a:fx}{vs:List aJ}{ls:List aQ}{S:List Int}
section
open Go.RowKit
def OW {x:aG}(h:eu s.data.toList=some x):∃T,lU s 0 T/\qz T/\(∀t∈T,1<=t.an/\t.an<=4)/\T.length<=200/\ju 60 1 T=some (x,[])/\s.size<=200/\XOk x:=by
 unfold eu at h;cases hL:eQ 200 s.data.toList 0 with
 |none=>rw[hL]at h;cases h
 |some T=>
  rw[hL]at h;simp only at h;split at h
  .rename_i e hq;split at h
   .rename_i hc;cases h;obtain⟨h1,h2,h3,h4⟩:=hc;have⟨k1,k2,k3⟩:=kG 200 _ 0 T h1 hL;exact⟨T,⟨200,by simpa using hL⟩,k1,k2,by omega,hq,by rw[bG]at h1;exact h1,h2,h3,h4⟩
   .cases h
  .cases h
def Ar(s:aY)(x:aG)(h:eu s.data.toList=some x)(w:ax)(hT:Tb w):xG 237 #[s] w (OM w x):=by
 have⟨T,h1,h2,h3,h4,h5,h6,h7⟩:=OW h;exact Ls s x T h6 h1 h2 h3 h4 h5 h7.nodes h7.deep h7.size w hT
def uO {x:aG}(h:eu s.data.toList=some x):(s.toList==[])=false:=by
 rw[ByteArray.toList_eq];cases hq:s.data.toList with
 |nil=>rw[hq,qO]at h;cases h
 |cons a r=>rfl
def gK(s:aY)(h:aM s=true)(hs:s.size<=maxLen)(w:ax):xC 172 #[s,true] w (cu true w):=by
 have HR:=ag (show xC 45 #[.agg #[s,()]] w (cu true w)by
  have h1:=ff xF () w ⟨s,[]⟩ (ab.nil _ _) hs;rw[xx h]at h1;exact h1);clear h;go_enter func172,ntmps172;go_wp2_with fail;refine cC (HR.o) λw1 hb1=> ?_;have HB:=ag hb1;clear hb1;go_wp2;go_ret;exact⟨rfl,HB.o⟩
def jf(w:ax):xC 172 #["",false] w (cu true w):=by
 go_enter func172,ntmps172;go_wp2;go_ret;exact⟨rfl,dS⟩
def dQ(b:Bool)(w:ax):xC 173 #["",b] w (cu true w):=by
 go_enter func173,ntmps173;go_wp2;go_ret;exact⟨rfl,dS⟩
def BQ(s:aY)(x:aG)(h:eu s.data.toList=some x)(w:ax)(hT:Tb w):xC 173 #[s,true] w (cu true w):=by
 have hz:=uO h;have HP:=ag (Ar s x h w hT);obtain⟨xk,xn,xs,xl⟩:=x;clear h hT;go_enter func173,ntmps173;go_wp2_with fail;refine(HP.o).mono ?_;rintro e w1⟨_,rfl,⟨u,rfl,hag⟩,hb1⟩;obtain⟨a,cap,rfl,_⟩:=eH hag;have HB:=ag hb1;clear hb1 hag;go_wp2;go_ret;exact⟨rfl,HB.o.alloc HB.o.size _⟩
def YJ(k:Int):Array aA:=
 if k=1 then#[false,true,false,true,true,false]
 else if k=2\/k=6 then#[true,false,false,false,false,false]
 else if k=3 then#[true,true,false,false,false,false]
 else if k=4 then#[true,false,false,true,true,false]
 else#[true,true,true,true,true,true]
def kP(k:Int)(h:k=1\/k=2\/k=3\/k=4\/k=5\/k=6)(w:ax):xC 171 #[k] w (cu (.tuple #[.agg (YJ k),true]) w):=by
 rcases h with rfl|rfl|rfl|rfl|rfl|rfl;all_goals
  go_enter func171,ntmps171;go_wp2_with fail;refine Qae (v:= .tuple #[.agg _,true]) (by simp[results,results171,go_sem];rfl) rfl ⟨rfl,?_⟩;exact bU
structure YK(x:aN):Prop where
 sh:nu x
 field:x.an≠1->aM x.field=true
 ai:(x.an=1\/x.an=3\/x.an=5)->aM x.ai=true
 more:x.an=5->aM x.more=true
 type:(x.an=1\/x.an=4\/x.an=5)->aR x.type=true
 cX:x.cX=⟨#[]⟩\/∃e,eu x.cX.data.toList=some e
 bZ:x.bZ=⟨#[]⟩\/∃e,eu x.bZ.data.toList=some e
 s1:x.field.size<=maxLen
 s2:x.ai.size<=maxLen
 s3:x.more.size<=maxLen
def mP(a b c d e f:Bool):Obj:=xK #[a,b,c,d,e,f] 248
def fD {c4 c5:Value}(h:W.heap[g]? =some (xK #[c0,c1,c2,c3,c4,c5] t)):
 W.cell? (g,0)=some c0/\W.cell? (g,1)=some c1/\W.cell? (g,2)=some c2/\W.cell? (g,3)=some c3/\W.cell? (g,4)=some c4/\W.cell? (g,5)=some c5:=by simp[World.cell?,h]
def As(k:Int)(f n m:aY)(tk tf:Int)(e o:aY)(b1 b2 b3 b4 b5 b6:Bool)(w:ax)
 (hn:∀W,xC 171 #[k] W (cu (.tuple #[.agg #[b1,b2,b3,b4,b5,b6],true]) W))
 (h1:∀W,xC 172 #[f,b1] W (cu true W))
 (h2:∀W,xC 172 #[n,b2] W (cu true W))
 (h3:∀W,xC 172 #[m,b3] W (cu true W))
 (h4:∀W,xC 168 #[.agg #[tk,tf]] W (cu b4 W))
 (h5:∀W,aC w W->xC 173 #[e,b5] W (cu true W))
 (h6:∀W,aC w W->xC 173 #[o,b6] W (cu true W))(h0:b4=false->tk=0/\tf=0):
 xC 108 #[.agg #[k,f,n,m,tk,tf,e,o]] w (cu true w):=by
 have H1:=ag h1;have H2:=ag h2;have H3:=ag h3;have H4:=ag h4;have H5:=ag h5;have H6:=ag h6;have HN:=ag hn;have H0:=ag h0;clear h1 h2 h3 h4 h5 h6 hn h0;go_enter func108,ntmps108;go_wp2_with fail;refine cC (HN.o _) λw1 hb1=> ?_;have bz:=ag (((Bx.eI w (sV ⟨k,f,n,m,⟨tk,tf⟩,e,o⟩)).ae hb1).alloc (mP b1 b2 b3 b4 b5 b6));have fp:Hd ((w1.alloc (mP b1 b2 b3 b4 b5 b6)).heap[w1.heap.size]? =some (mP b1 b2 b3 b4 b5 b6)):=Qbh w1 _;clear hb1;have⟨p0,p1,p2,p3,p4,p5,p6,p7⟩:=aB (bz.o.bO rfl);have⟨q0,q1,q2,q3,q4,q5⟩:=fD fp.o;unfold mP at p0 p1 p2 p3 p4 p5 p6 p7 q0 q1 q2 q3 q4 q5;go_wp2_with fail;refine cC (H1.o _) λw2 hb=> ?_;have eZ:Hd (dk w2 w1 (mP b1 b2 b3 b4 b5 b6)):=(hb.block _ (Qaa.1 fp.o).1).trans fp.o;have bg:=ag (bz.o.ae hb);clear hb p0 p1 p2 p3 p4 p5 p6 p7 q0 q1 q2 q3 q4 q5;have⟨p0,p1,p2,p3,p4,p5,p6,p7⟩:=aB (bg.o.bO rfl);have⟨q0,q1,q2,q3,q4,q5⟩:=fD eZ.o;go_wp2_with fail;refine cC (H2.o _) λw3 hb=> ?_;have ky:Hd (dk w3 w1 (mP b1 b2 b3 b4 b5 b6)):=(hb.block _ (Qaa.1 eZ.o).1).trans eZ.o;have bV:=ag (bg.o.ae hb);clear hb p0 p1 p2 p3 p4 p5 p6 p7 q0 q1 q2 q3 q4 q5;have⟨p0,p1,p2,p3,p4,p5,p6,p7⟩:=aB (bV.o.bO rfl);have⟨q0,q1,q2,q3,q4,q5⟩:=fD ky.o;go_wp2_with fail;refine cC (H3.o _) λw4 hb=> ?_;have nQ:Hd (dk w4 w1 (mP b1 b2 b3 b4 b5 b6)):=(hb.block _ (Qaa.1 ky.o).1).trans ky.o;have ek:=ag (bV.o.ae hb);clear hb p0 p1 p2 p3 p4 p5 p6 p7 q0 q1 q2 q3 q4 q5;have⟨p0,p1,p2,p3,p4,p5,p6,p7⟩:=aB (ek.o.bO rfl);have⟨q0,q1,q2,q3,q4,q5⟩:=fD nQ.o;have H00:Hd (b4=false->tk=0/\tf=0):=H0.o;go_upto_region 4 with fail;cases b4
 .obtain⟨rfl,rfl⟩:=H00.o rfl;have H4D:=ag (H4.o w4.drew);go_region_law(first
   |(go_simp;go_at_call 168;refine cC (H4D.o) λw5 hb=> ?_;have lE:Hd (dk w5 w1 (mP b1 b2 b3 false b5 b6)):=(hb.block _ (Qaa.1 nQ.o).1).trans nQ.o;have iU:=ag (ek.o.drew.ae hb);clear hb;have p4:=(aB (iU.o.bO rfl)).2.2.2.2.1;have p5:=(aB (iU.o.bO rfl)).2.2.2.2.2.1;have p6:=(aB (iU.o.bO rfl)).2.2.2.2.2.2.1;have p7:=(aB (iU.o.bO rfl)).2.2.2.2.2.2.2;have q3:=(fD lE.o).2.2.2.1;have q4:=(fD lE.o).2.2.2.2.1;have q5:=(fD lE.o).2.2.2.2.2));all_goals
   go_wp2_with fail;refine cC (H5.o _ iU.o.1) λw6 hb=> ?_;have yT:Hd (dk w6 w1 (mP b1 b2 b3 false b5 b6)):=(hb.block _ (Qaa.1 lE.o).1).trans lE.o;have kE:=ag (iU.o.ae hb);clear hb p4 p5 p6 p7 q3 q4 q5;have⟨p0,p1,p2,p3,p4,p5,p6,p7⟩:=aB (kE.o.bO rfl);have⟨q0,q1,q2,q3,q4,q5⟩:=fD yT.o;go_wp2_with fail;refine cC (H6.o _ kE.o.1) λw7 hb=> ?_;have mA:=ag (kE.o.ae hb);clear hb;go_wp2;go_ret;exact⟨rfl,mA.o.1⟩
 .go_cut [53](λs53 wx=>s53=xB false/\Hd (Bx w [sV ⟨k,f,n,m,⟨tk,tf⟩,e,o⟩] wx/\dk wx w1 (mP b1 b2 b3 true b5 b6)));case first=>
   first
    |(go_region_law(first
       |(go_simp;go_at_call 168;refine cC (H4.o _) λw5 hb=> ?_;have lE:Hd (dk w5 w1 (mP b1 b2 b3 true b5 b6)):=(hb.block _ (Qaa.1 nQ.o).1).trans nQ.o;have iU:=ag (ek.o.drew.ae hb);have p4:=(aB (iU.o.bO rfl)).2.2.2.2.1;have p5:=(aB (iU.o.bO rfl)).2.2.2.2.2.1;have q3:=(fD lE.o).2.2.2.1;clear hb)))
    |fail
   all_goals(go_wp2;go_meet)
   all_goals exact⟨rfl,(show _/\_ from⟨iU.o,lE.o⟩)⟩
  case rest=>
   obtain⟨rfl,HR⟩:=hcut;have⟨w5,hw5⟩:=bY (wc);subst hw5;have iU:Hd (Bx w [sV ⟨k,f,n,m,⟨tk,tf⟩,e,o⟩] w5):=HR.o.1;have lE:Hd (dk w5 w1 (mP b1 b2 b3 true b5 b6)):=HR.o.2;clear HR p0 p1 p2 p3 p4 p5 p6 p7 q0 q1 q2 q3 q4 q5;have⟨p0,p1,p2,p3,p4,p5,p6,p7⟩:=aB (iU.o.bO rfl);have⟨q0,q1,q2,q3,q4,q5⟩:=fD lE.o;go_wp2_with fail;refine cC (H5.o _ iU.o.1) λw6 hb=> ?_;have yT:Hd (dk w6 w1 (mP b1 b2 b3 true b5 b6)):=(hb.block _ (Qaa.1 lE.o).1).trans lE.o;have kE:=ag (iU.o.ae hb);clear hb p0 p1 p2 p3 p4 p5 p6 p7 q0 q1 q2 q3 q4 q5;have⟨p0,p1,p2,p3,p4,p5,p6,p7⟩:=aB (kE.o.bO rfl);have⟨q0,q1,q2,q3,q4,q5⟩:=fD yT.o;go_wp2_with fail;refine cC (H6.o _ kE.o.1) λw7 hb=> ?_;have mA:=ag (kE.o.ae hb);clear hb;go_wp2;go_ret;exact⟨rfl,mA.o.1⟩
def zg(x:aN)(h:YK x)(w:ax)(hT:Tb w):
 xC 108 #[.agg #[x.an,x.field,x.ai,x.more,x.type.an,x.type.of,x.cX,x.bZ]] w (cu true w):=by
 have hk:x.an=1\/x.an=2\/x.an=3\/x.an=4\/x.an=5\/x.an=6:=by have:=h.sh;simp only[nu]at this;omega
 have hF:∀(s:aY),(s=⟨#[]⟩\/∃e,eu s.data.toList=some e)->∀W,aC w W->xC 173 #[xS s,true] W (cu true W):=λs hs W hb=>by
  rcases hs with rfl|⟨e,he⟩
  .exact dQ true W
  .exact BQ s e he W (hT.ae hb)
 have hR:=λW=>qw x.type W;have hsh:=h.sh;obtain⟨k,f,n,m,⟨tk,tf⟩,e,o⟩:=x;have hfd:=h.field;have hnm:=h.ai;have hmr:=h.more;have FN:=h.type;have s1:=h.s1;have s2:=h.s2;have s3:=h.s3;have hex:=h.cX;have hot:=h.bZ;dsimp only at*;have t0:aR ⟨0,0⟩=false:=by decide
 simp only[nu,br.mk.injEq]at hsh;rcases hsh with⟨rfl,rfl,rfl,rfl⟩|⟨rfl,rfl,rfl,⟨rfl,rfl⟩,rfl,rfl⟩|⟨rfl,rfl,⟨rfl,rfl⟩,rfl,rfl⟩|⟨rfl,rfl,rfl,rfl⟩|rfl|⟨rfl,rfl,rfl,⟨rfl,rfl⟩,rfl,rfl⟩
 .exact As _ _ _ _ _ _ _ _ false true false true true false w (kP 1 (by simp)) jf (gK _ (hnm (by simp)) s2) jf (by rw[FN (by simp)]at hR;exact hR) (hF _ hex) (λW _=>dQ _ W) (by simp)
 .exact As _ _ _ _ _ _ _ _ true false false false false false w (kP 2 (by simp)) (gK _ (hfd (by simp)) s1) jf jf (by rw[t0]at hR;exact hR) (λW _=>dQ _ W) (λW _=>dQ _ W) (by simp)
 .exact As _ _ _ _ _ _ _ _ true true false false false false w (kP 3 (by simp)) (gK _ (hfd (by simp)) s1) (gK _ (hnm (by simp)) s2) jf (by rw[t0]at hR;exact hR) (λW _=>dQ _ W) (λW _=>dQ _ W) (by simp)
 .exact As _ _ _ _ _ _ _ _ true false false true true false w (kP 4 (by simp)) (gK _ (hfd (by simp)) s1) jf jf (by rw[FN (by simp)]at hR;exact hR) (hF _ hex) (λW _=>dQ _ W) (by simp)
 .exact As _ _ _ _ _ _ _ _ true true true true true true w (kP 5 (by simp)) (gK _ (hfd (by simp)) s1) (gK _ (hnm (by simp)) s2) (gK _ (hmr (by simp)) s3) (by rw[FN (by simp)]at hR;exact hR) (hF _ hex) (hF _ hot) (by simp)
 .exact As _ _ _ _ _ _ _ _ true false false false false false w (kP 6 (by simp)) (gK _ (hfd (by simp)) s1) jf jf (by rw[t0]at hR;exact hR) (λW _=>dQ _ W) (λW _=>dQ _ W) (by simp)
def atA(h:bW w i o)(x:Obj):(w.alloc x).heap[i]? =some o:=(Array.getElem?_push_lt (Qaa.1 h).1).trans ((Array.getElem?_eq_getElem _).symm.trans h)
def jg(M:aV)(c:aI)(ay:Int)(t:br)(s:aY)(w:ax)(v:aA):Prop:=
 ∃gf lb,v= .func (.func gf) #[] lb/\(∀args w,(callFunc gf args).run prog w= .ok (.enter gf args) w)/\
  (aR t=true->∀N:aV,(∀i,M i->N i)->(∀i,N i->M i\/w.heap.size<=i)->∀W,ao N w W->∀vv vs,ab N W vv vs->bA c.ah ay vs->Bd N W->Gd W->xC gf (#[vv]++lb) W (cm W λu w'=>∃x,lS c t ay s vs x/\cB N w' u x))
theorem ao.down(h:ao N w W)(k:∀i,N i->M i\/w.heap.size<=i):ao M w W:=⟨h.os,h.tape,h.output,h.size,λi hi hM=>h.block i hi λhN=>(k i hN).elim hM (by omega)⟩
def Hc(h:Below B w W)(hK:B<=K)(hB:B<=W):Below B w (((((W.setCell (K,0) a0).setCell (K,1) a1).setCell (K,2) a2).setCell (K,3) a3).alloc o):=by
 exact(dd h hK).alloc (by simpa [World.setCell]using hB) o
theorem jg.only {t:br}(h:jg M c ay t s w v)(ho:ao M w w'):jg M c ay t s w' v:=by
 obtain⟨gf,lb,h1,h2,h3⟩:=h;exact⟨gf,lb,h1,h2,λht N QB Nk W hW=>h3 ht N QB (λi hi=>(Nk i hi).imp_right λh=>Qcg ho.size h) W ((ho.mono QB).trans hW)⟩
def He(t:br)(ht:aR t=true)(M:aV)(W:ax)(vv:aA)(hM:Bd M W)(p:Nat)(hp:bW W p (FB t.an t.of)):
 xG 285 #[vv,xP p] W λu w'=>cB M w' u (kz t):=by
 have iy:p<W:=(Qaa.1 hp).1;have hne:p≠W:=by omega
 have⟨p0,p1⟩:=ak hp;obtain⟨⟨yk,yn,ys,yl⟩,hz⟩:∃z,z=kz t:=⟨_,rfl⟩;have HZ:Hd (∀w,xC 286 #[.agg #[t.an,t.of]] w (cm w λv w'=>cB (dX M W 1) w' v (aJ.mk yk yn ys yl))):=λw=>by rw[hz];exact N6 t ht (dX M W 1) w
 rw[<-hz];have cI:=ag (Bx.eI W (ej 0 0 () ()));go_enter func285,ntmps285;go_wp2_with fail;refine(HZ.o _).mono ?_;rintro e w1⟨_,rfl,hya,hb1⟩;obtain⟨ua,uc,rfl,FP⟩:=dh hya;have HY:=ag FP;have HY2:Hd (ys.size<=maxLen):=sA hya;have bz:=ag (cI.o.ae hb1);have⟨c0,c1,c2,c3⟩:=af (bz.o.bO rfl);have⟨f0,f1,f2,f3⟩:=hZ (bz.o.bO rfl);go_wp2_with fail;refine Qae (v:= .agg #[yk,yn,ys,xL ua yl.length uc]) (by simp[results,results285,go_sem,c0,c1,c2,c3]) rfl ⟨_,rfl,⟨_,rfl,kI (HY.o.ev ?_) HY2.o⟩,dd bz.o.1 bT⟩;exact((((eK w1).setCell (.inl (.inr ⟨by simp,by simp⟩)) _).setCell (.inl (.inr ⟨by simp,by simp⟩)) _).setCell (.inl (.inr ⟨by simp,by simp⟩)) _).setCell (.inl (.inr ⟨by simp,by simp⟩)) _
def Hf(c:aI)(hc:cN c)(ay:Int)(hm:ay<=100000)(e:aG)(t:br)(hx:XOk e)(ht:lH c e t)(M:aV)(W:ax)(vv fv:aA)(vs:List aJ)(hM:Bd M W)(hfs:ab M W fv c.ah)(hvs:ab M W vv vs)(hv:bA c.ah ay vs)(hg:Gd W)
 (p q:Nat)(k n:Int)(s:aY)(l:List aG)(lv:aA)(he:e= .mk k n s l)(hl:ab M W lv l)(hs:s.size<=maxLen)(hp:bW W p (DZ k n s lv))(hq:bW W q (cW c.ai fv)):
 xG 288 #[vv,xP p,xP q] W λu w'=>∃x,nA c t ay e vs x/\cB M w' u x:=by
 have iy:p<W:=(Qaa.1 hp).1;have hql:q<W:=(Qaa.1 hq).1;have hne:p≠W:=by omega
 have Zp:q≠W:=by omega
 have⟨p0,p1,p2,p3⟩:=af hp;have⟨q0,q1⟩:=ak hq;have hag:cB M W (.agg #[k,n,s,lv]) e:=⟨_,rfl,by rw[he];exact cO.iff.2 ⟨_,rfl,hl,hs⟩⟩;have HE:Hd (∀w,aC W w->W.heap.size+1<=w->_):=λw hb h1=>OV c hc ay hm e t hx ht (dX M W 1) w _ fv vv vs (dt hM h1) (hag.ev (dj hb)) (hfs.ev (dj hb)) (hvs.ev (dj hb)) hv (hg.ae hb);have cI:=ag (Bx.eI W (ej 0 0 () ()));obtain⟨la,lc,rfl,_⟩:=hl.aq;obtain⟨fa,fc,rfl,_⟩:=hfs.aq;obtain⟨va,vc,rfl,_⟩:=hvs.aq;go_enter func288,ntmps288;go_wp2_with fail;refine(HE.o _ bU (by simp)).mono ?_;rintro e1 w1⟨_,rfl,⟨_,⟨yk,yn,ys,yl⟩,rfl,XZ,hya⟩,hb1⟩;obtain⟨ua,uc,rfl,FP⟩:=dh hya;have HY:=ag FP;have SX:=ag XZ;have HY2:Hd (ys.size<=maxLen):=sA hya;have bz:=ag (cI.o.ae hb1);have hl1:W.heap.size<w1:=(Qaa.1 (bz.o.bO rfl)).1;have⟨c0,c1,c2,c3⟩:=af (bz.o.bO rfl);have⟨f0,f1,f2,f3⟩:=hZ (bz.o.bO rfl);go_wp2_with fail;refine Qae (v:= .agg #[yk,yn,ys,xL ua yl.length uc]) (by simp[results,results288,go_sem,c0,c1,c2,c3,hl1]) rfl ⟨_,rfl,⟨_,SX.o,⟨_,rfl,kI (HY.o.ev ?_) HY2.o⟩⟩,Hc bz.o.1 bT (by omega)⟩;exact(((((eK w1).setCell (.inl (.inr ⟨by simp,by simp⟩)) _).setCell (.inl (.inr ⟨by simp,by simp⟩)) _).setCell (.inl (.inr ⟨by simp,by simp⟩)) _).setCell (.inl (.inr ⟨by simp,by simp⟩)) _).alloc _
def Au(c:aI)(hc:cN c)(ay:Int)(hm:ay<=100000)(t:br)(s:aY)(ht:oO c t s)(M:aV)(w:ax)(fv:aA)(hM:Bd M w)(hfs:ab M w fv c.ah)(hT:Tb w):
 xG 261 #[.agg #[c.ai,fv],s, .agg #[t.an,t.of]] w λv w'=>jg M c ay t s w' v:=by
 have Cs:∀(fn:Fn)(au cap:Array aA)(w:ax),(Instr.makeFunc fn au cap).run prog w= .ok (.func fn au cap) w:=λ_ _ _ _=>rfl;have iD:=ag hfs;have HM:=ag hM;rcases ht with hs|⟨x,hx⟩
 .obtain rfl:=fz hs;obtain⟨fa,fc,rfl,_⟩:=hfs.aq;have cI:=ag (Bx.du w (cW c.ai (xL fa c.ah.length fc)) (FB t.an t.of));go_enter func261,ntmps261;go_wp2;go_ret;refine⟨_,rfl,⟨285,#[xP [w]],rfl,enters_of func285 (by kernel_rfl) rfl,λFN N QB Nk W hW vv vs hvv hvs hMW hgW=> ?_⟩,cI.o.1⟩;have hp:=hW.at_ (cI.o.cg rfl) (λh=>by
   have hl:=(Qaa.1 (cI.o.cg rfl)).1;rcases Nk _ h with h|h
   .have:=HM.o _ h;omega
   .exact absurd h (by simp));refine(He t FN N W vv hMW [w] hp).mono ?_;rintro e w1⟨u,rfl,hu,hb⟩;exact⟨u,rfl,⟨_,N0 rfl FN,hu⟩,hb⟩
 .have hz:=uO hx.parse;have HPT:=ag hx;have⟨T,h1,h2,h3,h4,h5,h6,h7⟩:=OW hx.parse;have HP:Hd (∀W,aC w W->xC 237 #[s] W (cm W (OM W x))):=λW hb=>Ar s x HPT.o.parse W (hT.ae hb);have Wa:Hd (∀W v,aC w W->cB M W v x->xC 287 #[v, .agg #[c.ai,fv]] W λε w'=>ε=xR (.tuple #[.agg #[t.an,t.of],xI 0])/\aC W w'):=λW v hb ha=>D5 c hc x t h7 HPT.o.ty M W v fv (HM.o.ae hb) ha (iD.o.ae hb) (hT.ae hb);have MW:=ag h7;obtain⟨fa,fc,rfl,_⟩:=hfs.aq;have cI:=ag (Bx.du w (cW c.ai (xL fa c.ah.length fc)) (FB t.an t.of));obtain⟨xk,xn,xs,xl⟩:=x;go_enter func261,ntmps261;go_wp2_with fail;refine(HP.o _ cI.o.1).mono ?_;rintro e w1⟨_,rfl,⟨u,rfl,hag⟩,hb1⟩;obtain⟨cs,rfl,hrep⟩:=hag;obtain⟨av,rfl,hsl,hss⟩:=cO.iff.1 hrep;obtain⟨xa,xc,rfl,_⟩:=hsl.aq;have bz:=ag (cI.o.ae hb1);have gO:Hd (ab M w1 (xL xa xl.length xc) xl):=hsl.ev (Ev.dL w1 λi hi=>by
   have h1:=HM.o _ hi;show i<_;simp;omega);have tg:Hd (cB M w1 (.agg #[xk,xn,xs,xL xa xl.length xc]) (aG.mk xk xn xs xl)):=⟨_,rfl,cO.iff.2 ⟨_,rfl,gO.o,hss⟩⟩;have uj:w.heap.size<w1:=(Qaa.1 (bz.o.bO rfl)).1;have hl1:w.heap.size+1<w1:=(Qaa.1 (bz.o.cg rfl)).1;have⟨a0,a1⟩:=ak (bz.o.bO rfl);go_wp2_with fail;refine cC (Wa.o _ _ (bz.o.1.alloc bz.o.1.size _) (tg.o.ev ((Ev.refl _ _).alloc _))) λw2 bE=> ?_;have eZ:=ag (boxed bE);have bg:=ag (bz.o.ae (bt bE));have QC:=ag (gO.o.ae (bt bE));have qdp:=ag (iD.o.ae bg.o.1);have⟨b0,b1⟩:=ak (bg.o.cg rfl);have hl2:w.heap.size+1<w2:=(Qaa.1 (bg.o.cg rfl)).1;go_wp2;go_ret;refine⟨_,rfl,⟨288,#[xP w1,xP w.heap.size],rfl,enters_of func288 (by kernel_rfl) rfl,λFN N QB Nk W hW vv vs hvv hvs hMW hgW=> ?_⟩,(bg.o.alloc _).1⟩;have hx1:=(Qaa.1 eZ.o).1;have hN3:∀i,N i->M i\/w2.heap.size+1<=i:=λi hi=>by simpa using Nk i hi
  have hp:=hW.at_ (atA eZ.o _) (λh=>by
   rcases hN3 _ h with h|h
   .have:=HM.o _ h;omega
   .omega);have hq:=hW.at_ (atA (bg.o.bO rfl) _) (λh=>by
   rcases hN3 _ h with h|h
   .have:=HM.o _ h;omega
   .omega);have hWM:=hW.down Nk;have qae:∀i,N i->M i\/w2.heap.size<=i:=λi hi=>(hN3 i hi).imp_right λh=>by omega
  refine(Hf c hc ay hm _ t MW.o HPT.o.ty N W vv _ vs hMW (qdp.o.ev ⟨((ao.refl _ _).alloc _).trans hWM,qae⟩) hvv hvs hgW _ _ _ _ _ _ _ rfl (QC.o.ev ⟨((ao.refl _ _).alloc _).trans hWM,qae⟩) ?_ hp hq).mono ?_
  .exact hss
  .rintro e w3⟨u,rfl,⟨x,hx,hu⟩,hb⟩;exact⟨u,rfl,⟨x,KN HPT.o.parse HPT.o.ty hx,hu⟩,hb⟩
end
section
open Go.RowKit Go.Shelf
def uP {α:Type}(ls:List (List α))(i:Nat):(ls.take i).flatten.length<=ls.flatten.length:=by
 conv=>rhs;rw[<-List.take_append_drop i ls,List.flatten_append,Qda]
 omega
def gM {α:Type}{ls:List (List α)}{l:List α}(h:ls[i]? =some l):(ls.take (i+1)).flatten=(ls.take i).flatten++l:=by
 rw[Qbb,h];simp
def vW {α:Type} [aD α]{xs:List α}(h:aS M base e W v xs)(ZT:base=w)(hb:aC w W):Ev M w (bu v M) W:=
 ⟨ao.az hb,λi hi=>by
   rcases hi with hi|hi
   .exact .inl hi
   .exact .inr (by rw[<-ZT];exact(h.cG i hi).1)⟩
def tP {α:Type} [aD α](M:aV)(w:ax)(b:Nat)(rows:List aA)(ls:List (List α)):Prop:=
 rows.length=ls.length/\b<w/\(∀i v,rows[i]? =some v->w.cell? ⟨b,i,none⟩=some v)/\∀(i:Nat)(v:aA)(l:List α),rows[i]? =some v->ls[i]? =some l->ab M w v l
theorem tP.get {α:Type} [aD α]{rows:List Value}{ls:List (List α)}(h:tP M w b rows ls)(hi:i<ls.length):
 ∃a c,∃l:List α,ls[i]? =some l/\ab M w (xL a l.length c) l/\∀W,aC w W->W.cell? (b,i)=some (xL a l.length c):=by
 obtain⟨h1,h2,h3,h4⟩:=h;have⟨l,hl⟩:=eG ls i hi;have⟨v,hv⟩:=eG rows i (by omega);have hs:=h4 i v l hv hl;obtain⟨a,c,rfl,_⟩:=hs.aq;refine⟨a,c,l,hl,hs,λW hb=> ?_⟩;rw[hb.cell h2];exact h3 i _ hv
def jh:Go.Shelf.Ren:=⟨λ|4=>373|n=>n,λ|22=>45|25=>60|3=>3|4=>4|9=>9|20=>20|0=>0|n=>n,λ|n=>n⟩
def qD:Go.Proofs.Lays8.n4 prog jh:={
 mixed:=by kernel_rfl
 f4:=⟨Tryz.f373.name,by decide,Tryz.func373.trans (by kernel_rfl)⟩
 t0:=underlying0
 a0:=isAgg0
 z0:=sizeOf0
 v0:=zeroValue0
 t3:=underlying3
 a3:=isAgg3
 z3:=sizeOf3
 v3:=zeroValue3
 t4:=underlying4
 a4:=isAgg4
 z4:=sizeOf4
 v4:=zeroValue4
 t9:=underlying9
 a9:=isAgg9
 z9:=sizeOf9
 v9:=zeroValue9
 t20:=underlying20
 a20:=isAgg20
 z20:=sizeOf20
 v20:=zeroValue20
 t22:=underlying45
 a22:=isAgg45
 z22:=sizeOf45
 v22:=zeroValue45}
def Hg:jh.f 4=373:=by kernel_rfl
def xV:jh.t 25=60:=by kernel_rfl
def BR(M:aV)(n:Nat)(hn:n<=1000)(w:ax):xG 373 #[(),n] w λv w'=>aS (α:=aH) M w 60 w' v []:=by
 have⟨i0,hi0,hz0,hz1,hz2⟩:=info_parts gu;rw[<-Hg];by_cases h0:n=0
 .subst h0;refine(Any8.slices_Grow_room qD none 0 0 0 w bT (by decide) (by decide) bT).mono ?_;rintro e w1⟨rfl,rfl⟩;exact⟨_,rfl,aS.nil _ _ _ _,dS⟩
 .refine(Any8.slices_Grow_grow qD i0 _ (by rw[xV];exact hi0) hz0 (by rw[hz1];decide) none 0 0 n [] w bT (by omega) (by rw[hz2];omega) (by omega) (by simp) (λ_=>rfl) (λa h=>by cases h)).mono ?_;rintro e w1⟨rfl,rfl⟩;rw[xV];refine⟨_,rfl,aS.made (w:=w.drew) M _ _ bT (grownCap_le_maxLen w _ _ _ (by unfold maxLen;omega)) ?_,dS.drew.alloc bT _⟩;have hge:=grownCap_ge w (0+n) 0 60;simp only[Array.size_append,size_zeroCells];show 0+(0+n-0)*4+(grownCap w (0+n) 0 60-(0+n))*4=grownCap w (0+n) 0 60*4;omega
def oZ(M:aV)(w:ax)(hM:Bd M w)(b n:Nat)(rows:List aA)(ls:List (List aH))(h:tP M w b rows ls)(hn:ls.length=n)(hl:ls.flatten.length<=40)(h3:n<=3):
 xG 332 #[xL (b,0) n n] w λv w'=>ab M w' v ls.flatten:=by
 have⟨i0,hi0,hz0,hz1,hz2⟩:=info_parts gu;have HG:=ag (BR M ls.flatten.length (by omega) w);have HR:=ag h;have hbl:b<w:=h.2.1;have Kc:=ag (λi=>uP ls i);have eJ:=ag hn;clear hn;clear h;go_enter func332,ntmps332;go_wp2_with fail;obtain⟨LL,Wl⟩:∃L,L=ls.flatten.length:=⟨_,rfl⟩;rw[<-Wl]at hl HG;have Ka:=ag Wl;clear Wl;go_loopg [3,5,11]n(λg r3 r5 iv wr=>∃i L:Nat,i<=n/\g=n-i/\iv=xI i/\r3=xI (L:Int)/\Hd (L=(ls.take i).flatten.length)/\w=wr);case atStart=>exact⟨0,0,Qbf _,rfl,rfl,rfl,(show _=_ by simp),rfl⟩
 case round=>
  obtain⟨i,L,hi,rfl,rfl,rfl,HL,rfl⟩:=hrel;by_cases bH:i<n
  .have⟨a,c,l,hx,hsl,hcell⟩:=HR.o.get (i:=i) (by rw[eJ.o];exact bH);have q0:=hcell w dS;have⟨m,hm⟩:=bY (l.length);have hk:L+m=(ls.take (i+1)).flatten.length:=by rw[gM hx,Qda,<-HL.o,hm]
   have hk1:L+m<=40:=by have:=Kc.o (i+1);have:=Ka.o;omega
   have HK:=ag hk;rw[<-hm]at q0;clear hx hsl hcell hk hm;go_wp2;go_roundg(n-(i+1));case measure=>omega
   case rel=>exact⟨i+1,L+m,by omega,rfl,by go_num,by go_num,HK,rfl⟩
  .have hii:i=n:=by omega
   subst hii;obtain rfl:L=LL:=by rw[HL.o,Ka.o,Qah (by rw[eJ.o];exact bT)]
   go_wp2_with fail;refine(HG.o).mono ?_;rintro e w1⟨_,rfl,hacc,hb1⟩;obtain⟨a0,c0,rfl,_⟩:=hacc.aq;have HA0:=ag hacc;have iW:=ag hb1;clear hacc hb1;go_wp2;go_loopg [6,8,27]i(λg r6 r8 iv wr2=>∃(k c1 K:Nat)(a1:fx),k<=i/\g=i-k/\iv=xI k/\r6=xL a1 K c1/\Hd (K=(ls.take k).flatten.length)/\Hd (aS M w 60 wr2 (xL a1 K c1) (ls.take k).flatten)/\Hd (aC w wr2));case atStart=>exact⟨0,c0,0,a0,Qbf _,rfl,rfl,rfl,(show _=_ by simp),HA0,iW⟩
   case round=>
    obtain⟨k,c1,K,a1,hk,rfl,rfl,rfl,HK,HA,HB⟩:=hrel;by_cases Qy:k<i
    .have⟨a,c,l,hx,hsl,hcell⟩:=HR.o.get (i:=k) (by rw[eJ.o];exact Qy);have⟨m,hm⟩:=bY (l.length);have hk2:K+m=(ls.take (k+1)).flatten.length:=by rw[gM hx,Qda,<-HK.o,hm]
     have hk1:K+m<=40:=by have:=Kc.o (k+1);have:=Ka.o;omega
     have nN:=ag (gM hx);have q0:=hcell _ HB.o;have gO:=ag hsl;have qj:=ag hk2;have zz:=ag hm;rw[<-hm]at q0;clear hx hsl hcell hk2 hm;have Wm:Hd ((ls.take k).flatten.length=K):=HK.o.symm;have yU:Hd (l.length=m):=zz.o.symm;go_wp2_with(at_builtin;go_loud(refine dp (α:=aH) rfl _ _ _ rfl M w 60 i0 _ 40 underlying45 hi0 hz0 hz1 hz2 rfl (by decide) (.slice a1 K c1) (ls.take k).flatten rfl HA.o (.slice a m c) l rfl (by rw[zz.o];exact gO.o.ev (vW HA.o rfl HB.o)) (by rw[Wm.o,yU.o];unfold maxLen;omega) (by rw[Wm.o,yU.o];omega) HB.o.size ?_);rw[Wm.o,yU.o,<-nN.o];intro a2 c2 w2 bD dK bE;have dr:=ag bD;have bV:=ag (HB.o.trans bE);clear bD dK bE);go_roundg(i-(k+1));case measure=>omega
     case rel=>exact⟨k+1,c2,K+m,a2,by omega,rfl,by go_num,rfl,qj,dr,bV⟩
    .go_wp2;go_ret;refine⟨_,rfl,?_,HB.o⟩;have h1:=HA.o.slice hM;rwa [Qah (by rw[eJ.o];omega)]at h1
def km:Go.Shelf.Ren:=⟨λ|4=>374|n=>n,λ|22=>42|25=>44|3=>3|4=>4|9=>9|20=>20|0=>0|n=>n,λ|n=>n⟩
def uQ:Go.Proofs.Lays8.n4 prog km:={
 mixed:=by kernel_rfl
 f4:=⟨Tryz.f374.name,by decide,Tryz.func374.trans (by kernel_rfl)⟩
 t0:=underlying0
 a0:=isAgg0
 z0:=sizeOf0
 v0:=zeroValue0
 t3:=underlying3
 a3:=isAgg3
 z3:=sizeOf3
 v3:=zeroValue3
 t4:=underlying4
 a4:=isAgg4
 z4:=sizeOf4
 v4:=zeroValue4
 t9:=underlying9
 a9:=isAgg9
 z9:=sizeOf9
 v9:=zeroValue9
 t20:=underlying20
 a20:=isAgg20
 z20:=sizeOf20
 v20:=zeroValue20
 t22:=underlying42
 a22:=isAgg42
 z22:=sizeOf42
 v22:=zeroValue42}
def OX:km.f 4=374:=by kernel_rfl
def D6:km.t 25=44:=by kernel_rfl
def Hh(M:aV)(n:Nat)(hn:n<=1000)(w:ax):xG 374 #[(),n] w λv w'=>aS (α:=aJ) M w 44 w' v []:=by
 have⟨i0,hi0,hz0,hz1,hz2⟩:=info_parts ie;rw[<-OX];by_cases h0:n=0
 .subst h0;refine(Any8.slices_Grow_room uQ none 0 0 0 w bT (by decide) (by decide) bT).mono ?_;rintro e w1⟨rfl,rfl⟩;exact⟨_,rfl,aS.nil _ _ _ _,dS⟩
 .refine(Any8.slices_Grow_grow uQ i0 _ (by rw[D6];exact hi0) hz0 (by rw[hz1];decide) none 0 0 n [] w bT (by omega) (by rw[hz2];omega) (by omega) (by simp) (λ_=>rfl) (λa h=>by cases h)).mono ?_;rintro e w1⟨rfl,rfl⟩;rw[D6];refine⟨_,rfl,aS.made (w:=w.drew) M _ _ bT (grownCap_le_maxLen w _ _ _ (by unfold maxLen;omega)) ?_,dS.drew.alloc bT _⟩;have hge:=grownCap_ge w (0+n) 0 44;simp only[Array.size_append,size_zeroCells];show 0+(0+n-0)*4+(grownCap w (0+n) 0 44-(0+n))*4=grownCap w (0+n) 0 44*4;omega
def sB(M:aV)(w:ax)(hM:Bd M w)(b n:Nat)(rows:List aA)(ls:List (List aJ))(h:tP M w b rows ls)(hn:ls.length=n)(hl:ls.flatten.length<=40)(h3:n<=3):
 xG 333 #[xL (b,0) n n] w λv w'=>ab M w' v ls.flatten:=by
 have⟨i0,hi0,hz0,hz1,hz2⟩:=info_parts ie;have HG:=ag (Hh M ls.flatten.length (by omega) w);have HR:=ag h;have hbl:b<w:=h.2.1;have Kc:=ag (λi=>uP ls i);have eJ:=ag hn;clear hn;clear h;go_enter func333,ntmps333;go_wp2_with fail;obtain⟨LL,Wl⟩:∃L,L=ls.flatten.length:=⟨_,rfl⟩;rw[<-Wl]at hl HG;have Ka:=ag Wl;clear Wl;go_loopg [3,5,11]n(λg r3 r5 iv wr=>∃i L:Nat,i<=n/\g=n-i/\iv=xI i/\r3=xI (L:Int)/\Hd (L=(ls.take i).flatten.length)/\w=wr);case atStart=>exact⟨0,0,Qbf _,rfl,rfl,rfl,(show _=_ by simp),rfl⟩
 case round=>
  obtain⟨i,L,hi,rfl,rfl,rfl,HL,rfl⟩:=hrel;by_cases bH:i<n
  .have⟨a,c,l,hx,hsl,hcell⟩:=HR.o.get (i:=i) (by rw[eJ.o];exact bH);have q0:=hcell w dS;have⟨m,hm⟩:=bY (l.length);have hk:L+m=(ls.take (i+1)).flatten.length:=by rw[gM hx,Qda,<-HL.o,hm]
   have hk1:L+m<=40:=by have:=Kc.o (i+1);have:=Ka.o;omega
   have HK:=ag hk;rw[<-hm]at q0;clear hx hsl hcell hk hm;go_wp2;go_roundg(n-(i+1));case measure=>omega
   case rel=>exact⟨i+1,L+m,by omega,rfl,by go_num,by go_num,HK,rfl⟩
  .have hii:i=n:=by omega
   subst hii;obtain rfl:L=LL:=by rw[HL.o,Ka.o,Qah (by rw[eJ.o];exact bT)]
   go_wp2_with fail;refine(HG.o).mono ?_;rintro e w1⟨_,rfl,hacc,hb1⟩;obtain⟨a0,c0,rfl,_⟩:=hacc.aq;have HA0:=ag hacc;have iW:=ag hb1;clear hacc hb1;go_wp2;go_loopg [6,8,27]i(λg r6 r8 iv wr2=>∃(k c1 K:Nat)(a1:fx),k<=i/\g=i-k/\iv=xI k/\r6=xL a1 K c1/\Hd (K=(ls.take k).flatten.length)/\Hd (aS M w 44 wr2 (xL a1 K c1) (ls.take k).flatten)/\Hd (aC w wr2));case atStart=>exact⟨0,c0,0,a0,Qbf _,rfl,rfl,rfl,(show _=_ by simp),HA0,iW⟩
   case round=>
    obtain⟨k,c1,K,a1,hk,rfl,rfl,rfl,HK,HA,HB⟩:=hrel;by_cases Qy:k<i
    .have⟨a,c,l,hx,hsl,hcell⟩:=HR.o.get (i:=k) (by rw[eJ.o];exact Qy);have⟨m,hm⟩:=bY (l.length);have hk2:K+m=(ls.take (k+1)).flatten.length:=by rw[gM hx,Qda,<-HK.o,hm]
     have hk1:K+m<=40:=by have:=Kc.o (k+1);have:=Ka.o;omega
     have nN:=ag (gM hx);have q0:=hcell _ HB.o;have gO:=ag hsl;have qj:=ag hk2;have zz:=ag hm;rw[<-hm]at q0;clear hx hsl hcell hk2 hm;have Wm:Hd ((ls.take k).flatten.length=K):=HK.o.symm;have yU:Hd (l.length=m):=zz.o.symm;go_wp2_with(at_builtin;go_loud(refine dp (α:=aJ) rfl _ _ _ rfl M w 44 i0 _ 56 underlying42 hi0 hz0 hz1 hz2 rfl (by decide) (.slice a1 K c1) (ls.take k).flatten rfl HA.o (.slice a m c) l rfl (by rw[zz.o];exact gO.o.ev (vW HA.o rfl HB.o)) (by rw[Wm.o,yU.o];unfold maxLen;omega) (by rw[Wm.o,yU.o];omega) HB.o.size ?_);rw[Wm.o,yU.o,<-nN.o];intro a2 c2 w2 bD dK bE;have dr:=ag bD;have bV:=ag (HB.o.trans bE);clear bD dK bE);go_roundg(i-(k+1));case measure=>omega
     case rel=>exact⟨k+1,c2,K+m,a2,by omega,rfl,by go_num,rfl,qj,dr,bV⟩
    .go_wp2;go_ret;refine⟨_,rfl,?_,HB.o⟩;have h1:=HA.o.slice hM;rwa [Qah (by rw[eJ.o];omega)]at h1
def zh {fr:Nat×Nat}(u:aA)(h:bW w g (.cells cur t fr)):(w.setCell (g,j) u).heap[g]? =some (.cells (cur.setIfInBounds j u) t fr):=by
 have⟨hl,h'⟩:=Qaa.1 h;show(w.heap.modify g _)[g]? =_;rw[Array.getElem?_eq_getElem (by simpa using hl),Array.getElem_modify_self,h'];rfl
def D7 {size n:Nat}{xs:List aA}(h:w.ownsRow base e size (xL (g,0) n cap) n xs)(u:aA):
 (w.setCell (g,j) u).ownsRow base e size (xL (g,0) n cap) n (xs.set j u):=by
 obtain⟨h1,h2|⟨g',cap',cur,hv,hg,hh,hn,hm,hs,hx⟩⟩:=h
 .cases h2.1
 .obtain⟨rfl,rfl⟩:g=g'/\cap=cap':=by simpa using hv
  refine⟨by simpa using h1, .inr ⟨g,cap,_,rfl,hg,zh u hh,hn,hm,by simpa using hs,?_⟩⟩;rw[<-hx];simp[List.take_set]
def D8 {css:List (List aA)}{size:Nat}(hs:∀(i:Nat)(cs:List aA),css[i]? =some cs->cs.length=size):∀(i j:Nat)(cs:List aA)(u:aA),css[i]? =some cs->j<size->css.flatten.set (i*size+j) u=(css.set i (cs.set j u)).flatten:=by
 induction css with
 |nil=>intro i j cs u h;simp at h
 |cons a r ih=>
  intro i j cs u hi hj;have ha:a.length=size:=hs 0 a rfl;cases i with
  |zero=>
   simp at hi;subst hi;simp only[Nat.zero_mul,Nat.zero_add,List.flatten_cons,List.set_cons_zero];rw[List.set_append_left _ _ (by omega)]
  |succ i=>
   have Zd:r[i]? =some cs:=by simpa using hi
   have:=ih (λk c hk=>hs (k+1) c (by simpa using hk)) i j cs u Zd hj;simp only[List.flatten_cons,List.set_cons_succ];rw[List.set_append_right _ _ (by rw[ha,Nat.succ_mul];omega),ha,<-this];congr 2;rw[Nat.succ_mul];omega
theorem aS.cell {α:Type} [aD α]{n:Nat}{xs:List α}(h:aS M base e w (xL (g,0) n cap) xs){x y:α}(hx:xs[i]? =some x)(hj:j<aD.size α)(u:aA)
 (hr:∀cs W,aD.rep (bu (xL (g,0) n cap) M) W cs x->Ev (bu (xL (g,0) n cap) M) w (bu (xL (g,0) n cap) M) W->aD.rep (bu (xL (g,0) n cap) M) W (cs.set j u) y):
 aS M base e (w.setCell (g,i*aD.size α+j) u) (xL (g,0) n cap) (xs.set i y):=by
 have hn:=h.aq;obtain⟨_,_,hn,_⟩:=hn;injection hn with _ hn _;subst hn;have hE:Ev (bu (xL (g,0) xs.length cap) M) w (bu (xL (g,0) xs.length cap) M) (w.setCell (g,i*aD.size α+j) u):=(Ev.refl _ _).setCell (.inl (.inr rfl)) u;obtain⟨css,h1,h2,h3⟩:=h;have vZ:=(Qad.1 hx).1;have⟨cs,hcs⟩:=eG css i (by omega);have hlen:∀(k:Nat)(c:List aA),css[k]? =some c->c.length=aD.size α:=λk c hc=>by
  have⟨z,hz⟩:=eG xs k (by rw[<-h2];exact(Qad.1 hc).1);exact aD.len (h3 k c z hc hz)
 refine⟨css.set i (cs.set j u),?_,by simpa using h2,λk c z hc hz=> ?_⟩
 .rw[<-D8 hlen i j cs u hcs hj,List.length_set];exact D7 h1 u
 .by_cases hki:k=i
  .subst hki;rw[List.getElem?_set_self (by omega)]at hc hz;obtain rfl:=Option.some.inj hc;obtain rfl:=Option.some.inj hz;exact hr _ _ (aD.ev (h3 k cs x hcs hx) hE) hE
  .rw[List.getElem?_set_ne (by omega)]at hc hz;exact aD.ev (h3 k c z hc hz) hE
def jU(M:aV)(w:ax)(v:aA)(l:List aH)(h:ab M w v l)(hl:l.length<=40):
 xG 330 #[v] w λv w'=>aS M w 60 w' v l:=by
 have⟨i0,hi0,hz0,hz1,hz2⟩:=info_parts gu;have HS:=ag h;obtain⟨a,c,rfl,cY,hmx,ho⟩:=h.aq;have HE:Hd (aS (α:=aH) M w 60 (w.alloc (xK #[] 60)) (xL (w,0) 0 0) []):=aS.made M #[] 0 bT (by unfold maxLen;omega) rfl;have q89:∀(w:ax)(a:fx)(n c n' c':Nat),(binOp .eql 45 (.slice a n c) (.slice none n' c')).run prog w= .ok (.bool a.isNone) w:=λw a n c n' c'=>Lib.run_eql_slice_nil w _ _ a n c n' c' underlying45;have⟨n,hn⟩:=jN (l.length);have HO:Hd (a=none->l=[]):=λha=>by
  by_cases hp:0<l.length
  .have⟨b,off,h1,_⟩:=ho hp;rw[ha]at h1;cases h1
  .exact List.length_eq_zero_iff.1 (by omega)
 rw[hn]at hl cY⊢;have gn:=ag (show ab M w (xL a n c) l by rw[<-hn];exact HS.o);have HN:=ag hn;cases a with
 |none=>
  obtain rfl:=HO.o rfl;go_enter func330,ntmps330;go_wp2;go_ret;exact⟨_,rfl,aS.nil _ _ _ _,dS⟩
 |some adr=>
 go_enter func330,ntmps330;go_wp2_with(at_builtin;go_loud(refine dp (α:=aH) rfl _ _ _ rfl M w 60 i0 _ 40 underlying45 hi0 hz0 hz1 hz2 rfl (by decide) (.slice (w,0) 0 0) [] rfl HE.o (.slice (some adr) n c) l rfl (gn.o.ev (vW HE.o rfl bU)) (by rw[HN.o];simp;unfold maxLen;omega) (by rw[HN.o];simp;omega) (by simp) ?_);rw[HN.o];simp only[Qcd,Nat.zero_add,List.nil_append];intro a2 c2 w2 bD dK bE;have dr:=ag bD;have bV:Hd (aC w w2):=bU.trans bE;clear bD dK bE);go_ret;exact⟨_,rfl,dr.o,bV.o⟩
def qE(nm:aY)(fv:aA)(x:aN)(a:Int)(b:Bool)(g1 g2:aA):Obj:=
 xK #[nm,fv,x.an,x.field,x.ai,x.more,x.type.an,x.type.of,x.cX,x.bZ,a,b,g1,g2] 341
structure WkC(W:ax)(p:Nat)(nm:aY)(fv:aA)(x:aN)(a:Int)(b:Bool)(g1 g2:aA):Prop where
 c0:W.cell? (p,0)=some (xS nm)
 c1:W.cell? (p,1)=some fv
 c2:W.cell? (p,2)=some (xI x.an)
 c3:W.cell? (p,3)=some (xS x.field)
 c4:W.cell? (p,4)=some (xS x.ai)
 c5:W.cell? (p,5)=some (xS x.more)
 c6:W.cell? (p,6)=some (xI x.type.an)
 c7:W.cell? (p,7)=some (xI x.type.of)
 c8:W.cell? (p,8)=some (xS x.cX)
 c9:W.cell? (p,9)=some (xS x.bZ)
 ca:W.cell? (p,10)=some (xI a)
 cb:W.cell? (p,11)=some (xB b)
 cc:W.cell? (p,12)=some g1
 cd:W.cell? (p,13)=some g2
def cU {a:Int}{b:Bool}{g1 g2:Value}(h:W.heap[p]? =some (qE nm fv x a b g1 g2)):WkC W p nm fv x a b g1 g2:=by
 have g:∀(j:Nat)(u:Value),(#[nm,fv,x.an,x.field,x.ai,x.more,x.type.an,x.type.of,x.cX,x.bZ,a,b,g1,g2]:Array Value)[j]? =some u->W.cell? ⟨p,j,none⟩=some u:=λj u hj=>by
  simp only[World.cell?,h,qE];exact hj
 exact⟨g 0 _ rfl,g 1 _ rfl,g 2 _ rfl,g 3 _ rfl,g 4 _ rfl,g 5 _ rfl,g 6 _ rfl,g 7 _ rfl,g 8 _ rfl,g 9 _ rfl,g 10 _ rfl,g 11 _ rfl,g 12 _ rfl,g 13 _ rfl⟩
theorem WkC.ae {a:Int}{b:Bool}{g1 g2:aA}(h:WkC W p nm fv x a b g1 g2)(hp:p<W)(hb:aC W W'):WkC W' p nm fv x a b g1 g2:=by
 have e:∀j,W'.cell? ⟨p,j,none⟩=W.cell? ⟨p,j,none⟩:=λj=>hb.cell hp;exact⟨(e _).trans h.c0,(e _).trans h.c1,(e _).trans h.c2,(e _).trans h.c3,(e _).trans h.c4,(e _).trans h.c5,(e _).trans h.c6,(e _).trans h.c7,(e _).trans h.c8,(e _).trans h.c9,(e _).trans h.ca,(e _).trans h.cb,(e _).trans h.cc,(e _).trans h.cd⟩
def tQ {n:Nat}{xs:List aH}(h:aS M base e w (xL a n cap) xs)(hx:xs[i]? =some f):
 ∃g,a=some ⟨g,0,none⟩/\base<=g/\g<w.heap.size/\(w.cell? (g,i*4)=some (xS f.ai)/\w.cell? (g,i*4+1)=some (xI f.type.an)/\w.cell? (g,i*4+2)=some (xI f.type.of)/\w.cell? (g,i*4+3)=some (xB f.indexed))/\∀j,w.frozen? ⟨g,j,none⟩=false:=by
 obtain⟨css,h1,h2,h3⟩:=h;have vZ:=(Qad.1 hx).1;have⟨cs,hcs⟩:=eG css i (by omega);have hlen:∀(k:Nat)(c:List Value),css[k]? =some c->c.length=4:=λk c hc=>by
  have⟨z,hz⟩:=eG xs k (by rw[<-h2];exact(Qad.1 hc).1);exact aD.len (h3 k c z hc hz)
 obtain⟨hl,hv|⟨g,cap',cur,hv,hg,hh,hn,hm,hs,SQ⟩⟩:=h1
 .have:=hv.2;omega
 .injection hv with ha hn' hc';have hgl:=(Qaa.1 hh).1;have G:∀(j:Nat)(u:Value),cs[j]? =some u->w.cell? (g,i*4+j)=some u:=λj u hj=>by
   have h4:=iF hlen i cs j u hcs hj;rw[<-SQ]at h4;have h5:cur.toList[i*4+j]? =some u:=by
    rw[List.getElem?_take]at h4;split at h4
    .exact h4
    .cases h4
   simp only[World.cell?,hh];simpa using h5
  have hr:=(h3 i cs f hcs hx).1;subst hr;refine⟨g,ha,hg,hgl,⟨G 0 _ rfl,G 1 _ rfl,G 2 _ rfl,G 3 _ rfl⟩,λj=>aj hh j⟩
theorem ab.OY {α:Type} [aD α]{xs:List α}(h:ab M w v xs):ab M w.drew v xs:=h.ae dS.drew
def Lx(M:Nat->Prop)(w:World)(hM:Bd M w)(c:aI)(fv:Value)(x:aN)(b:Bool)(g1 g2:Value)(p:Nat)(pre post:List aH)(f:aH)(ha:iI c x.field pre f post)(hk:x.an=3)(MG:x.ai.size<=maxLen)(h8:c.ah.length<=8)
 (hp:bW w p (qE c.ai fv x pre.length b g1 g2))(hfs:ab M w fv c.ah):
 xG 297 #[xP p] w λv w'=>ab M w' v (cw c x).ah:=by
 have iy:p<w:=(Qaa.1 hp).1;have HW:=ag (cU hp);have q1:=HW.o.c1;have HC:=ag (jU M w fv c.ah hfs (by omega));have hat:c.ah[pre.length]? =some f:=by rw[ha.eq];simp
 have bH:pre.length<c.ah.length:=(Qad.1 hat).1;have pL:=ag (show(cw c x).ah=c.ah.set pre.length ⟨x.ai,f.type,f.indexed⟩by
  rw[fA ha (by omega),ha.eq];simp[jb,hk]);have uh:=ag hat;have eZ:Hd (x.ai.size<=maxLen):=MG;have⟨n,hn⟩:=jN (c.ah.length);have⟨i,hi⟩:=jN (pre.length);have HN:=ag hn;rw[hi]at bH HW pL uh;rw[hn]at bH;go_enter func297,ntmps297;go_wp2_with fail;refine(HC.o).mono ?_;rintro e w1⟨_,rfl,hacc,hb⟩;have HA:=ag hacc;obtain⟨a1,c1,rfl,cY,hmx⟩:=hacc.aq;obtain⟨g,rfl,hg,hgl,⟨z0,z1,z2,z3⟩,hfr⟩:=tQ hacc uh.o;rw[hn]at HA cY⊢;have HB:=ag hb;have nP:=ag (HW.o.ae iy hb);have q2:=nP.o.ca;have q3:=nP.o.c4;have f0:=hfr (i*4);go_wp2_with fail;go_region;all_goals
  go_wp2;go_ret;refine⟨_,rfl,?_,(HB.o.setCell (p:=⟨g,i*4,none⟩) hg _).drew⟩;rw[pL.o];exact((aS.cell HA.o uh.o (j:=0) (by decide) _ (λcs W hr _=>by obtain⟨rfl,_⟩:=hr;exact⟨rfl,eZ.o⟩)).slice hM).OY
def Ly(M:aV)(w:ax)(hM:Bd M w)(c:aI)(fv:aA)(x:aN)(b:Bool)(g1 g2:aA)(p:Nat)(pre post:List aH)(f:aH)(ha:iI c x.field pre f post)(hk:x.an=6)(h8:c.ah.length<=8)
 (hp:bW w p (qE c.ai fv x pre.length b g1 g2))(hfs:ab M w fv c.ah):
 xG 306 #[xP p] w λv w'=>ab M w' v (cw c x).ah:=by
 have iy:p<w:=(Qaa.1 hp).1;have HW:=ag (cU hp);have q1:=HW.o.c1;have HC:=ag (jU M w fv c.ah hfs (by omega));have hat:c.ah[pre.length]? =some f:=by rw[ha.eq];simp
 have bH:pre.length<c.ah.length:=(Qad.1 hat).1;have pL:=ag (show(cw c x).ah=c.ah.set pre.length ⟨f.ai,f.type,!f.indexed⟩by
  rw[fA ha (by omega),ha.eq];simp[jb,hk]);have uh:=ag hat;have⟨n,hn⟩:=jN (c.ah.length);have⟨i,hi⟩:=jN (pre.length);have HN:=ag hn;rw[hi]at bH HW pL uh;rw[hn]at bH;go_enter func306,ntmps306;go_wp2_with fail;refine(HC.o).mono ?_;rintro e w1⟨_,rfl,hacc,hb⟩;have HA:=ag hacc;obtain⟨a1,c1,rfl,cY,hmx⟩:=hacc.aq;obtain⟨g,rfl,hg,hgl,⟨z0,z1,z2,z3⟩,hfr⟩:=tQ hacc uh.o;rw[hn]at HA cY⊢;have HB:=ag hb;have nP:=ag (HW.o.ae iy hb);have q2:=nP.o.ca;have f0:=hfr (i*4+3);go_wp2_with fail;go_region;all_goals
  go_wp2;go_ret;refine⟨_,rfl,?_,(HB.o.setCell (p:=⟨g,i*4+3,none⟩) hg _).drew⟩;rw[pL.o];exact((aS.cell HA.o uh.o (j:=3) (by decide) _ (λcs W hr _=>by obtain⟨rfl,hs⟩:=hr;exact⟨rfl,hs⟩)).slice hM).OY
def OZ(M:aV)(w:ax)(hM:Bd M w)(c:aI)(fv:aA)(x:aN)(b:Bool)(g1 g2:aA)(p:Nat)(pre post:List aH)(f:aH)(ha:iI c x.field pre f post)(hk:x.an=4)(h8:c.ah.length<=8)
 (hp:bW w p (qE c.ai fv x pre.length b g1 g2))(hfs:ab M w fv c.ah):
 xG 300 #[xP p] w λv w'=>ab M w' v (cw c x).ah:=by
 have iy:p<w:=(Qaa.1 hp).1;have HW:=ag (cU hp);have q1:=HW.o.c1;have HC:=ag (jU M w fv c.ah hfs (by omega));have hat:c.ah[pre.length]? =some f:=by rw[ha.eq];simp
 have bH:pre.length<c.ah.length:=(Qad.1 hat).1;have pL:=ag (show(cw c x).ah=c.ah.set pre.length ⟨f.ai,x.type,false⟩by
  rw[fA ha (by omega),ha.eq];simp[jb,hk]);have uh:=ag hat;have⟨n,hn⟩:=jN (c.ah.length);have⟨i,hi⟩:=jN (pre.length);have HN:=ag hn;rw[hi]at bH HW pL uh;rw[hn]at bH;go_enter func300,ntmps300;go_wp2_with fail;refine(HC.o).mono ?_;rintro e w1⟨_,rfl,hacc,hb⟩;have HA:=ag hacc;obtain⟨a1,c1,rfl,cY,hmx⟩:=hacc.aq;obtain⟨g,rfl,hg,hgl,⟨z0,z1,z2,z3⟩,hfr⟩:=tQ hacc uh.o;rw[hn]at HA cY⊢;have HB:=ag hb;have nP:=ag (HW.o.ae iy hb);have q2:=nP.o.ca;have q3:=nP.o.c6;have q4:=nP.o.c7;have f0:=hfr (i*4+1);have f1:=hfr (i*4+2);have f2:=hfr (i*4+3);go_wp2_with fail;go_region;all_goals
  go_wp2;go_ret;refine⟨_,rfl,?_,(((HB.o.setCell (p:=⟨g,i*4+1,none⟩) hg _).setCell (p:=⟨g,i*4+1+1,none⟩) hg _).setCell (p:=⟨g,i*4+3,none⟩) hg _).drew⟩;rw[pL.o];have Ba:∀y:aH,(c.ah.set i y)[i]? =some y:=λy=>List.getElem?_set_self (by rw[HN.o];exact bH);have A1:=aS.cell HA.o uh.o (j:=1) (by decide) x.type.an (y:=⟨f.ai,⟨x.type.an,f.type.of⟩,f.indexed⟩) (λcs W hr _=>by obtain⟨rfl,hs⟩:=hr;exact⟨rfl,hs⟩);have A2:=aS.cell A1 (Ba _) (j:=2) (by decide) x.type.of (y:=⟨f.ai,x.type,f.indexed⟩) (λcs W hr _=>by obtain⟨rfl,hs⟩:=hr;exact⟨rfl,hs⟩);rw[List.set_set]at A2;have A3:=aS.cell A2 (Ba _) (j:=3) (by decide) false (y:=⟨f.ai,x.type,false⟩) (λcs W hr _=>by obtain⟨rfl,hs⟩:=hr;exact⟨rfl,hs⟩);rw[List.set_set]at A3;exact(A3.slice hM).OY
def Lz(d:Nat)(w:ax)(f:Fn)(x y:Array aA):(Op.equalIn (d+1) 339 (.func f x y) .nilFunc).run prog w= .ok false w:=by
 simp[Op.equalIn,run_underlying underlying339]
def nH(w:ax)(f:Fn)(x y:Array aA):(binOp .neq 339 (.func f x y) .nilFunc).run prog w= .ok true w:=by
 simp only[binOp];simp[Op.equal,Op.maxDepth,Lz 9999]
def vX(M:aV)(w:ax)(c:aI)(fv:aA)(x:aN)(a:Int)(b:Bool)(g1 g2:aA)(p:Nat)(s u:aY)(hcn:c.ai.size<=maxLen)
 (hp:bW w p (qE c.ai fv x a b g1 g2))(hfs:ab M w fv c.ah)(hs:hasB c s=false\/s=u):
 xC 329 #[xP p,s,u] w (cu true w):=by
 have iy:p<w:=(Qaa.1 hp).1;have q0:=(cU hp).c0;have q1:=(cU hp).c1;have HF:=ag (show xC 107 #[.agg #[c.ai,fv],s] w λe w'=>∃at_,e=xR (.tuple #[xI at_,xB (hasB c s)])/\aC w w' by
  refine cC (mC M fv w c s _ _ hfs hcn rfl rfl) λw1 hb=> ?_;exact⟨_,rfl,hb⟩);obtain⟨a0,c0,rfl,cY,hmx,ho⟩:=hfs.aq;go_enter func329,ntmps329;go_wp2_with fail;refine(HF.o).mono ?_;rintro e w1⟨at_,rfl,hb⟩;have HB:=ag hb;rcases hs with hs|rfl
 .rw[hs];go_wp2;go_ret;exact⟨rfl,HB.o⟩
 .cases hq:hasB c s
  .go_wp2;go_ret;exact⟨rfl,HB.o⟩
  .go_wp2;go_ret;exact⟨by simp,HB.o⟩
def Hi(w:ax)(nm:aY)(fv:aA)(x:aN)(a:Int)(b:Bool)(g1 g2:aA)(p:Nat)(hp:bW w p (qE nm fv x a b g1 g2)):
 xC 293 #[xP p] w (cu b w):=by
 have q1:=(cU hp).cb;go_enter func293,ntmps293;go_wp2;go_ret;exact⟨rfl,dS⟩
def Hj(w:ax)(nm:aY)(fv:aA)(x:aN)(a:Int)(f1:Nat)(b1:Array aA)(g2:aA)(p:Nat)(hp:bW w p (qE nm fv x a true (.func (.func f1) #[] b1) g2)):
 xC 299 #[xP p] w (cu true w):=by
 have q1:=(cU hp).cb;have q2:=(cU hp).cc;have q3:=nH;go_enter func299,ntmps299;go_wp2;go_ret;exact⟨rfl,dS⟩
def BS(M:aV)(w:ax)(c:aI)(fv:aA)(x:aN)(a:Int)(g1 g2:aA)(p:Nat)(hcn:c.ai.size<=maxLen)(hp:bW w p (qE c.ai fv x a true g1 g2))(hfs:ab M w fv c.ah)(hs:hasB c x.ai=false):
 xC 296 #[xP p] w (cu true w):=by
 have HF:=ag (vX M w c fv x a true g1 g2 p x.ai () hcn hp hfs (.inl hs));have q1:=(cU hp).cb;have q2:=(cU hp).c4;go_enter func296,ntmps296;go_wp2_with fail;refine cC (HF.o) λw1 hb=> ?_;have HB:=ag hb;go_wp2;go_ret;exact⟨rfl,HB.o⟩
def LA(M:aV)(w:ax)(c:aI)(fv:aA)(x:aN)(a:Int)(b:Bool)(f1:Nat)(b1:Array aA)(g2:aA)(p:Nat)(hcn:c.ai.size<=maxLen)(h8:c.ah.length<8)(hp:bW w p (qE c.ai fv x a b (.func (.func f1) #[] b1) g2))(hfs:ab M w fv c.ah)(hs:hasB c x.ai=false):
 xC 290 #[xP p] w (cu true w):=by
 have iy:p<w:=(Qaa.1 hp).1;have HW:=ag (cU hp);have HF:=ag (vX M w c fv x a b _ g2 p x.ai () hcn hp hfs (.inl hs));have q1:=HW.o.c1;have q2:=HW.o.c4;have s0:((c.ah.length:Nat):Int)<8:=by omega
 obtain⟨a0,c0,rfl,cY,hmx,ho⟩:=hfs.aq;have⟨n,hn⟩:=jN (c.ah.length);rw[hn]at q1 s0 HW;have q4:=nH;go_enter func290,ntmps290;go_wp2_with fail;refine cC (HF.o) λw1 hb=> ?_;have HB:=ag hb;have q3:=(HW.o.ae iy hb).cc;go_wp2;go_ret;exact⟨rfl,HB.o⟩
abbrev dO(i:Int):aA:=xI i
def eO(e:Bool)(x:Int)(w:ax):(Instr.checkKey e 10000 3 (dO x)).run prog w= .ok () w:=by
 show(Instr.checkKey e (9999+1) 3 x).run prog w= .ok () w;rw[Instr.checkKey];simp only[Sem.run_bind,run_underlying underlying3,Result.andThen_ok];rfl
def iV(f p:Nat):aA:= .func (.func f) #[xP p] #[]
def jx(p f g h:Nat):aA:= .agg #[iV f p,iV g p,iV h p]
def mQ {es:List (Int×aA×Nat)}(h:bP dO w b es clk)(x:Int)(v:aA)(hv:bB es x=none):∃w',(Instr.mapUpdate 343 (.map (some b)) x v).run prog w= .ok () w'/\bP dO w' b (es++[(x,v,clk)]) (clk+1)/\ao (λi=>i=b) w w':=by
 have⟨h1,h2⟩:=bP.insert dO (.int .i64) oX (P:=prog) underlying343 underlying3 eO h x v hv;exact⟨_,h1,h2,(ao.refl (λi=>i=b) w).putObj (.inl rfl) _⟩
def pZ(w:ax)(b p:Nat):Prop:=∃es clk,bP dO w b es clk/\
 bB es 1=some (jx p 290 291 292)/\
 bB es 2=some (jx p 293 294 295)/\
 bB es 3=some (jx p 296 297 298)/\
 bB es 4=some (jx p 299 300 301)/\
 bB es 5=some (jx p 302 303 304)/\
 bB es 6=some (jx p 305 306 298)
def kQ {es:List (Int×aA×Nat)}(h:bP dO w b es clk)(x:Int)(v:aA)(hv:bB es x=some v):(Instr.lookup 343 (.map (some b)) x false).run prog w= .ok v w:=
 bP.lookup dO (.int .i64) oX (P:=prog) underlying343 underlying3 eO h x v hv
def O0(w:ax)(p:Nat):xC 262 #[xP p] w λe w'=>∃b,e=xR (.map (some b))/\pZ w' b p/\w.heap.size<=b/\aC w w':=by
 have h0:bP dO (w.alloc (.map #[] 0)) w [] 0:=(MapKept.heap_alloc w _).1;have t0:w.heap.size<(w.alloc (.map #[] 0)).heap.size:=by simp
 have⟨w0,hw0⟩:=bY (w.alloc (.map #[] 0));rw[<-hw0]at h0 t0;have⟨w1,e1,h1,o1⟩:=mQ h0 1 (jx p 290 291 292) rfl;have⟨w2,e2,h2,o2⟩:=mQ h1 2 (jx p 293 294 295) rfl;have⟨w3,e3,h3,o3⟩:=mQ h2 3 (jx p 296 297 298) rfl;have⟨w4,e4,h4,o4⟩:=mQ h3 4 (jx p 299 300 301) rfl;have⟨w5,e5,h5,o5⟩:=mQ h4 5 (jx p 302 303 304) rfl;have⟨w6,e6,h6,o6⟩:=mQ h5 6 (jx p 305 306 298) rfl;have HO:Hd (aC w w6):=((((ao.refl xF w).alloc (.map #[] 0)).cV (hw0▸(((((o1.trans o2).trans o3).trans o4).trans o5).trans o6)) (λi hi bH=>by subst hi;omega)).ae);have HM:Hd (pZ w6 w p):=⟨_,_,h6,rfl,rfl,rfl,rfl,rfl,rfl⟩;clear h0 h1 h2 h3 h4 h5 h6 o1 o2 o3 o4 o5 o6 t0;unfold jx iV at e1 e2 e3 e4 e5 e6;have Cs:∀(fn:Fn)(au cap:Array aA)(w:ax),(Instr.makeFunc fn au cap).run prog w= .ok (.func fn au cap) w:=λ_ _ _ _=>rfl;have hmk:=eM 343 w;rw[<-hw0]at hmk;clear hw0;go_enter func262,ntmps262;go_wp2;go_ret;exact⟨_,rfl,HM.o,bT,HO.o⟩
def LateR(x:aW)(i:Nat)(o:bF):Prop:=∃(o0:bF)(k v:Nat)(l:aQ)(us:List aJ),x.aP[i]? =some o0/\iR x.aK x.aP.length o0 k v l/\j5 (aT l v) (l.aw.drop v) x.aP.length o0.aZ us/\o=⟨o0.id,(k:Int),(l.aw.length:Int),us⟩
theorem LateR.aZ {x:aW}(h:xj x){o:bF}(hl:LateR x i o):∃fs,bA fs x.aP.length o.aZ/\o.aZ.length<=8:=by
 obtain⟨o0,k,v,l,us,h1,h2,h3,rfl⟩:=hl;have hc:=((h.jR.aK l (Qaf h2.line)).from_ v).kA (l.aw.drop v).length;have e:aT (eD l v) (l.aw.drop v).length=nW (aT l v) (l.aw.drop v):=by
  show nW (aT l v) ((l.aw.drop v).take _)=_;rw[List.take_length]
 rw[e]at hc;have h8:=((bC _).1 hc.right).2.1;exact⟨_,h3.1,by show us.length<=8;rw[h3.1.1];exact h8⟩
structure GrR(x:aW)(M:aV)(w:ax)(lv:aA)(pm:Nat):Prop where
 late:∃ls:List bF,ab M w lv ls/\ls.length=x.aP.length/\∀(i:Nat)o,ls[i]? =some o->LateR x i o
 place:∃es clk,bP dO w pm es clk/\∀i:Nat,i<x.aP.length->bB es ((i:Int)+1)=some (xI i)
theorem GrR.ae {x:aW}{pm:Nat}(h:GrR x M w lv pm)(hb:aC w W):GrR x M W lv pm:=by
 obtain⟨⟨ls,h1,h2⟩,es,clk,h3,h4⟩:=h;exact⟨⟨ls,h1.ae hb,h2⟩,es,clk,(hb.block _ (Qaa.1 h3).1).trans h3,h4⟩
theorem xj.qb8 {x:aW}(h:xj x){v:Nat}{o:bF}{l:aQ}(ho:x.aP[i]? =some o)(hk:iR x.aK x.aP.length o k v l):GC x.aP.length o:=by
 have h1:=(h.aP i o ho).1;have h2:=(Qad.1 ho).1;have h3:=h.len;have h4:=(Qad.1 hk.line).1;have h5:=h.jR.len;have h6:=h.jR.aK l (Qaf hk.line);have h7:=h6.len;have h8:=((bC (aT l v)).1 (h6.kA v).right).2.1;have h9:=hk.aZ.1;have h10:=hk.le;exact⟨by omega,by omega,by rw[hk.cL];omega,by rw[hk.cL];omega,by rw[hk.cQ];omega,by rw[hk.cQ];omega,⟨_,hk.aZ⟩,by omega⟩
theorem lJ.mny {k m n:Int}(h:m<=n){v:aJ}(hv:lJ k m v):lJ k n v:=by
 rcases hv with hv|hv|⟨hk,hv|⟨j,e,h1,h2⟩⟩
 .exact .inl hv
 .exact .inr (.inl hv)
 .exact .inr (.inr ⟨hk, .inl hv⟩)
 .exact .inr (.inr ⟨hk, .inr ⟨j,e,h1,Int.le_trans h2 h⟩⟩)
theorem dI.mny {t:br}{m n:Int}(h:m<=n){v:aJ}(hv:dI t m v):dI t n v:=by
 rcases hv with⟨h5,l,e,hl,ha⟩|⟨h5,h1⟩
 .exact .inl ⟨h5,l,e,hl,λx hx=>(ha x hx).mny h⟩
 .exact .inr ⟨h5,h1.mny h⟩
theorem bA.mny {fs:List aH}{m n:Int}(h:m<=n)(hv:bA fs m vs):bA fs n vs:=⟨hv.1,λi f v hf hx=>(hv.2 i f v hf hx).mny h⟩
theorem iR.mny {m n:Int}(h:m<=n){o:bF}{v:Nat}{l:aQ}(ho:iR ls m o k v l):iR ls n o k v l:=⟨ho.cL,ho.cQ,ho.line,ho.le,ho.aZ.mny h⟩
def cA(l:List bF):List Int:=l.map bF.id
def iS(l:List bF)(id:Int):Option bF:=l.find? (λo=>decide (o.id=id))
def de(x:aW)(id:Int):List Int:=match iS x.aP id with
 |none=>[]
 |some o=>match x.aK[o.cL.toNat]? with
  |none=>[]
  |some l=>refsOf l o.cQ.toNat o.aZ
structure gx(x:aW):Prop where
 jR:dF x.aK
 len:x.aP.length<=500
 aP:∀(i:Nat)(o:bF),x.aP[i]? =some o->1<=o.id/\o.id<x.next/\∃k v l,iR x.aK 100000 o k v l
 nI:(cA x.aP).Pairwise (·< ·)
 refs:∀n,∀y∈de x n,y∈cA x.aP
 rlen:x.aF.length<=500
 aF:∀r∈x.aF,r.id∈cA x.aP
 mL:∀r∈x.aF,aM r.ai=true/\r.ai.size<=20
 uK:∀(i:Nat)(r s:bj),x.aF[i]? =some r->x.aF[i+1]? =some s->(Op.bytesLess s.ai.toList r.ai.toList||s.ai.toList==r.ai.toList)=false
 next:1<=x.next/\x.next<=100001
def jJ {l:List bF}(h:(cA l).Pairwise (·< ·)){o p:bF}(hi:l[i]? =some o)(hj:l[j]? =some p)(he:o.id=p.id):i=j:=by
 have e1:(cA l)[i]? =some o.id:=by unfold cA;rw[List.getElem?_map,hi];rfl
 have e2:(cA l)[j]? =some p.id:=by unfold cA;rw[List.getElem?_map,hj];rfl
 have⟨l1,g1⟩:=Qad.1 e1;have⟨l2,g2⟩:=Qad.1 e2;rcases Nat.lt_trichotomy i j with hl|hl|hl
 .have:=List.pairwise_iff_getElem.1 h i j l1 l2 hl;rw[g1,g2,he]at this;omega
 .exact hl
 .have:=List.pairwise_iff_getElem.1 h j i l2 l1 hl;rw[g1,g2,he]at this;omega
def xW {l:List bF}(h:(cA l).Pairwise (·< ·)){o:bF}(hi:l[i]? =some o):iS l o.id=some o:=by
 unfold iS;cases hf:l.find? (λp=>decide (p.id=o.id))with
 |none=>
  have:=List.find?_eq_none.1 hf o (Qaf hi);simp at this
 |some p=>
  have h1:p.id=o.id:=by simpa using List.find?_some hf
  have⟨j,hj⟩:=Qdg (List.mem_of_find?_eq_some hf);obtain rfl:=jJ h hj hi h1;rw[hi]at hj;exact hj.symm
def Hk {l:List bF}(h:id∉cA l):iS l id=none:=by
 unfold iS;refine List.find?_eq_none.2 λo ho=> ?_;have:o.id≠id:=λe=>h (e▸List.mem_map_of_mem ho);simpa using this
theorem gx.ref {x:aW}(h:gx x){o:bF}(ho:x.aP[i]? =some o){m:Int}{v:Nat}{l:aQ}(hk:iR x.aK m o k v l):de x o.id=refsOf l v o.aZ:=by
 unfold de;rw[xW h.nI ho];simp only;rw[hk.cL,show((k:Int)).toNat=k by omega,hk.line];simp only;rw[hk.cQ,show((v:Int)).toNat=v by omega]
def il(x:aW)(i:Nat)(o:bF):Prop:=∃(o0:bF)(k v:Nat)(l:aQ)(us:List aJ),x.aP[i]? =some o0/\iR x.aK 100000 o0 k v l/\j5 (aT l v) (l.aw.drop v) 100000 o0.aZ us/\o=⟨o0.id,(k:Int),(l.aw.length:Int),us⟩
theorem il.refs {x:aW}(h:gx x){o:bF}(hl:il x i o):o.aZ.flatMap (cr 3)=de x o.id:=by
 obtain⟨o0,k,v,l,us,h1,h2,h3,rfl⟩:=hl;show us.flatMap (cr 3)=de x o0.id;rw[h.ref h1 h2];exact h3.refs
theorem il.aZ {x:aW}(h:gx x){o:bF}(hl:il x i o):∃fs,bA fs 100000 o.aZ/\o.aZ.length<=8:=by
 obtain⟨o0,k,v,l,us,h1,h2,h3,rfl⟩:=hl;have hc:=((h.jR.aK l (Qaf h2.line)).from_ v).kA (l.aw.drop v).length;have e:aT (eD l v) (l.aw.drop v).length=nW (aT l v) (l.aw.drop v):=by
  show nW (aT l v) ((l.aw.drop v).take _)=_;rw[List.take_length]
 rw[e]at hc;have h8:=((bC _).1 hc.right).2.1;exact⟨_,h3.1,by show us.length<=8;rw[h3.1.1];exact h8⟩
theorem il.idn {x:aW}{o:bF}(hl:il x i o):∃o0,x.aP[i]? =some o0/\o.id=o0.id:=by
 obtain⟨o0,k,v,l,us,h1,h2,h3,rfl⟩:=hl;exact⟨o0,h1,rfl⟩
theorem il.inside {x:aW}(h:gx x){o:bF}(hl:il x i o):∀n∈o.aZ.flatMap (cr 3),n∈cA x.aP:=by
 rw[hl.refs h];exact h.refs _
def Hl {x:aW}(h:gx x){o:bF}(hl:il x i o):(de x o.id).length<=96:=by
 rw[<-hl.refs h];have⟨fs,h1,h8⟩:=hl.aZ h;have key:∀l:List aJ,(∀v∈l,(cr 3 v).length<=12)->(l.flatMap (cr 3)).length<=12*l.length:=by
  intro l;induction l with
  |nil=>intro _;simp
  |cons a l ih=>
   intro hh;have h1:=hh a (by simp);have h2:=ih (λv hv=>hh v (List.mem_cons_of_mem _ hv));simp only[List.flatMap_cons,Qda,Qcc];omega
 have:=key o.aZ (λv hv=>by
  have⟨f,_,hf⟩:=fj h1 v hv;exact tL hf 3);omega
structure Cz(x:aW)(M:aV)(w:ax)(lv:aA)(pm:Nat):Prop where
 late:∃ls:List bF,ab M w lv ls/\ls.length=x.aP.length/\∀(i:Nat)o,ls[i]? =some o->il x i o
 place:∃es clk,bP dO w pm es clk/\∀n:Int,bB es n=(x.aP.findIdx? (λo=>decide (o.id=n))).map (λi=>xI (i:Int))
theorem Cz.ae {x:aW}{pm:Nat}(h:Cz x M w lv pm)(hb:aC w W):Cz x M W lv pm:=by
 obtain⟨⟨ls,h1,h2⟩,es,clk,h3,h4⟩:=h;exact⟨⟨ls,h1.ae hb,h2⟩,es,clk,(hb.block _ (Qaa.1 h3).1).trans h3,h4⟩
theorem Cz.only {x:aW}{pm:Nat}{S:aV}(h:Cz x M w lv pm)(ho:ao S w W)(hS:∀i,S i->M i)(hp:¬S pm):Cz x M W lv pm:=by
 obtain⟨⟨ls,h1,h2⟩,es,clk,h3,h4⟩:=h;exact⟨⟨ls,h1.ev ⟨ho.mono hS,λi hi=> .inl hi⟩,h2⟩,es,clk,(ho.block _ (Qaa.1 h3).1 hp).trans h3,h4⟩
def LC {l:List bF}(h:(cA l).Pairwise (·< ·)){o:bF}(hi:l[i]? =some o):l.findIdx? (λp=>decide (p.id=o.id))=some i:=by
 refine List.findIdx?_eq_some_iff_getElem.2 ⟨(Qad.1 hi).1,?_,λj hj=> ?_⟩
 .have:=(Qad.1 hi).2;simp[this]
 .have Ck:j<l.length:=Nat.lt_trans hj (Qad.1 hi).1;have:=jJ h (Qac Ck) hi;simp only[decide_eq_true_eq];intro e;have:=this e;omega
theorem Cz.at_ {x:aW}(h:gx x){es:List (Int×aA×Nat)}(hp:∀n:Int,bB es n=(x.aP.findIdx? (λo=>decide (o.id=n))).map (λi=>xI (i:Int))){o:bF}(ho:x.aP[i]? =some o):bB es o.id=some (xI (i:Int)):=by
 rw[hp,LC h.nI ho];rfl
theorem gx.qb8 {x:aW}(h:gx x){v:Nat}{o:bF}{l:aQ}(ho:x.aP[i]? =some o)(hk:iR x.aK 100000 o k v l):GC 100000 o:=by
 have⟨h1,h2,_⟩:=h.aP i o ho;have h3:=h.next;have h4:=(Qad.1 hk.line).1;have h5:=h.jR.len;have h6:=h.jR.aK l (Qaf hk.line);have h7:=h6.len;have h8:=((bC (aT l v)).1 (h6.kA v).right).2.1;have h9:=hk.aZ.1;have h10:=hk.le;exact⟨by omega,by omega,by rw[hk.cL];omega,by rw[hk.cL];omega,by rw[hk.cQ];omega,by rw[hk.cQ];omega,⟨_,hk.aZ⟩,by omega⟩
structure BU(D:List Int)(aF:List Int)(R:Int->List Int):Prop where
 aF:∀x∈aF,x∈D
 refs:∀x∈D,∀y∈R x,y∈D
theorem BU.RW {D aF:List Int}{R:Int->List Int}(h:BU D aF R){x:Int}(hx:Mk.D9 aF R x):x∈D:=by
 induction hx with
 |root x hx=>exact h.aF x hx
 |step x y _ hy ih=>exact h.refs x ih y hy
theorem im:∀(D xs:List Int),xs.Nodup->(∀x∈xs,x∈D)->xs.length<=D.length
 |[],xs,_,h=>by
  cases xs with
  |nil=>simp
  |cons a r=>have:=h a (by simp);simp at this
 |d::D,xs,hn,h=>by
  have h1:=im D (xs.erase d) (hn.erase _) λx hx=>by
   have h2:=h x (List.mem_of_mem_erase hx);have h3:x≠d:=λe=>by
    subst e;exact(List.Nodup.not_mem_erase hn) hx
   simpa [h3]using h2
  have h4:=List.length_erase (a:=d) (l:=xs);simp only[Qcc];split at h4<;>omega
theorem gx.closed {x:aW}(h:gx x):BU (cA x.aP) (cE x) (de x):=by
 refine⟨λn hn=> ?_,λn _ y hy=>h.refs n y hy⟩;obtain⟨r,hr,rfl⟩:=Qdh.1 hn;exact h.aF r hr
theorem xj.wr {x:aW}(h:xj x):gx x:=by
 have h10:=h.len;have re:=h.next;have hr:(cA x.aP).Pairwise (·< ·):=by
  refine List.pairwise_iff_getElem.2 λi j hi hj bH=> ?_;unfold cA at hi hj⊢;rw[Qdc]at hi hj;rw[List.getElem_map,List.getElem_map];have h1:=(h.aP i _ (Qac hi)).1;have h2:=(h.aP j _ (Qac hj)).1;omega
 have kx:∀n:Int,1<=n->n<=x.aP.length->n∈cA x.aP:=λn h1 h2=>by
  have hi:(n-1).toNat<x.aP.length:=by omega
  have h3:=(h.aP _ _ (Qac hi)).1;exact Qdh.2 ⟨_,Qaf (Qac hi),by omega⟩
 refine⟨h.jR,by omega,λi o ho=> ?_,hr,λn y hy=> ?_,by have:=h.rlen;omega,λr QV=> ?_,λr QV=> ?_,λi r s h1 h2=>h.uK h1 h2,by omega⟩
 .have⟨h1,k,v,l,hk⟩:=h.aP i o ho;have:=(Qad.1 ho).1;exact⟨by omega,by omega,k,v,l,hk.mny (by omega)⟩
 .unfold de at hy;cases hf:iS x.aP n with
  |none=>rw[hf]at hy;simp at hy
  |some o=>
   have⟨i,hi⟩:=Qdg (List.mem_of_find?_eq_some hf);have⟨h1,k,v,l,hk⟩:=h.aP i o hi;rw[hf]at hy;simp only at hy;rw[hk.cL,show((k:Int)).toNat=k by omega,hk.line]at hy;simp only at hy;rw[hk.cQ,show((v:Int)).toNat=v by omega]at hy;have⟨h2,h3⟩:=BH hk.aZ y hy;exact kx y h2 h3
 .have⟨h1,h2⟩:=h.aF r QV;exact kx _ h1 h2
 .have⟨i,hi⟩:=Qdg QV;exact h.mL hi
structure ec where
 an:Int
 kD:bF
 id:Int
 cQ:Int
 ai:aY
 cL:aI
 pI:aN
instance:aD ec where
 size:=18
 rep:=λM w cs x=>∃vv fv,cs=[xI x.an,xI x.kD.id,xI x.kD.cL,xI x.kD.cQ,vv,xI x.id,xI x.cQ,xS x.ai,xS x.cL.ai,fv,xI x.pI.an,xS x.pI.field,xS x.pI.ai,xS x.pI.more,xI x.pI.type.an,xI x.pI.type.of,xS x.pI.cX,xS x.pI.bZ]/\ab M w vv x.kD.aZ/\ab M w fv x.cL.ah/\x.ai.size<=maxLen/\x.cL.ai.size<=maxLen
 len:=λ⟨_,_,h,_⟩=>by rw[h];rfl
 flat:=λ⟨_,_,h,h1,h2,_⟩u hu=>by
  rw[h]at hu;simp at hu;rcases hu with rfl|rfl|rfl|rfl|rfl|rfl|rfl|rfl|rfl|rfl|rfl|rfl|rfl|rfl|rfl|rfl|rfl|rfl;all_goals first|rfl|exact eT h1|exact eT h2
 ev:=λ⟨vv,fv,h,h1,h2,h3⟩k=>⟨vv,fv,h,h1.ev k,h2.ev k,h3⟩
theorem Ay {β:Type}(f:β->Int):∀{l m:List β},l.Perm m->(l.map f).Pairwise (·< ·)->(m.map f).Pairwise (·< ·)->l=m
 |[],m,h,_,_=>by rw[List.nil_perm.1 h]
 |a::l,[],h,_,_=>by have:=h.length_eq;simp at this
 |a::l,b::m,h,h1,h2=>by
  rw[List.map_cons,List.pairwise_cons]at h1 h2;have ha:a∈b::m:=h.mem_iff.1 List.mem_cons_self;have hb:b∈a::l:=h.mem_iff.2 List.mem_cons_self;have e:a=b:=by
   rcases Qdf.1 ha with e|ha
   .exact e
   .rcases Qdf.1 hb with e|hb
    .exact e.symm
    .have k1:=h2.1 (f a) (List.mem_map_of_mem ha);have k2:=h1.1 (f b) (List.mem_map_of_mem hb);omega
  subst e;rw[Ay f (List.perm_cons a|>.1 h) h1.2 h2.2]
def mg(l:List bF)(o:bF):List bF:=l.filter (λp=>decide (p.id<o.id))++o::l.filter (λp=>decide (o.id<p.id))
def sC {l:List bF}{o p:bF}:p∈mg l o↔(p∈l/\p.id≠o.id)\/p=o:=by
 unfold mg;simp only[Qch,List.mem_filter,Qdf,decide_eq_true_eq];constructor
 .rintro(⟨h,k⟩|rfl|⟨h,k⟩)
  .exact .inl ⟨h,by omega⟩
  .exact .inr rfl
  .exact .inl ⟨h,by omega⟩
 .rintro(⟨h,k⟩|rfl)
  .rcases Int.lt_trichotomy p.id o.id with e|e|e
   .exact .inl ⟨h,e⟩
   .exact absurd e k
   .exact .inr (.inr ⟨h,e⟩)
  .exact .inr (.inl rfl)
def LH {l:List bF}(h:(cA l).Pairwise (·< ·)){o:bF}:iS l id=some o↔o∈l/\o.id=id:=by
 constructor
 .intro hf;unfold iS at hf;exact⟨List.mem_of_find?_eq_some hf,by simpa using List.find?_some hf⟩
 .rintro⟨hm,rfl⟩;have⟨i,hi⟩:=Qdg hm;exact xW h hi
def O1 {l m:List bF}(hl:(cA l).Pairwise (·< ·))(hm:(cA m).Pairwise (·< ·))(h:∀o,o∈l↔o∈m):l=m:=by
 have nd:∀{l:List bF},(cA l).Pairwise (·< ·)->l.Nodup:=λ{l}h=>by
  unfold cA at h;rw[List.pairwise_map]at h;exact h.imp (λhab e=>by subst e;omega)
 exact Ay bF.id ((List.perm_ext_iff_of_nodup (nd hl) (nd hm)).2 h) hl hm
def eP(a b:aY):Bool:=Op.bytesLess a.toList b.toList
def mU {a b:aY}:eP a b=true↔a.data.toList<b.data.toList:=by
 unfold eP;rw[Go.Proofs.bytesLess_eq,ByteArray.toList_eq,ByteArray.toList_eq];simp
def cZ(a:aY):eP a a=false:=by
 cases h:eP a a with
 |false=>rfl
 |true=>exact absurd (mU.1 h) (List.lt_irrefl _)
def gy {a b c:aY}(h:eP a b=true)(k:eP b c=true):eP a c=true:=mU.2 (List.lt_trans (mU.1 h) (mU.1 k))
def xY {a b:aY}(h:a.data.toList=b.data.toList):a=b:=by
 cases a with|mk a=>cases b with|mk b=>simp at h;rw[h]
def mV(a b:aY):eP a b=true\/a=b\/eP b a=true:=by
 rw[mU,mU];by_cases h:a.data.toList<b.data.toList
 .exact .inl h
 .rcases(List.le_iff_lt_or_eq (l₁:=b.data.toList) (l₂:=a.data.toList)).1 (List.not_lt.1 h)with k|k
  .exact .inr (.inr k)
  .exact .inr (.inl (xY k.symm))
def eN(l:List bj):Prop:=(l.map bj.ai).Pairwise (λa b=>eP a b=true)
theorem x8:∀{l m:List bj},l.Perm m->eN l->eN m->l=m
 |[],m,h,_,_=>by rw[List.nil_perm.1 h]
 |a::l,[],h,_,_=>by have:=h.length_eq;simp at this
 |a::l,b::m,h,h1,h2=>by
  unfold eN at h1 h2;rw[List.map_cons,List.pairwise_cons]at h1 h2;have ha:a∈b::m:=h.mem_iff.1 List.mem_cons_self;have hb:b∈a::l:=h.mem_iff.2 List.mem_cons_self;have e:a=b:=by
   rcases Qdf.1 ha with e|ha
   .exact e
   .rcases Qdf.1 hb with e|hb
    .exact e.symm
    .have k1:=h2.1 _ (List.mem_map_of_mem ha);have k2:=h1.1 _ (List.mem_map_of_mem hb);have:=gy k1 k2;rw[cZ]at this;cases this
  subst e;rw[x8 (List.perm_cons a|>.1 h) h1.2 h2.2]
theorem gx.x9 {x:aW}(h:gx x):eN x.aF:=by
 have key:∀(i d:Nat)(r s:bj),x.aF[i]? =some r->x.aF[i+(d+1)]? =some s->eP r.ai s.ai=true:=by
  intro i d;induction d with
  |zero=>
   intro r s hr hs;have:=h.uK i r s hr hs;obtain⟨k1,k2⟩:eP s.ai r.ai=false/\(s.ai.toList==r.ai.toList)=false:=by simpa [eP,Bool.or_eq_false_iff]using this
   rcases mV r.ai s.ai with e|e|e
   .exact e
   .rw[e]at k2;simp at k2
   .rw[e]at k1;cases k1
  |succ d ih=>
   intro r s hr hs;have hl:=(Qad.1 hs).1;have⟨q,hq⟩:=eG x.aF (i+(d+1)) (by omega);have k1:=ih r q hr hq;have:=h.uK (i+(d+1)) q s hq hs;obtain⟨k2,k3⟩:eP s.ai q.ai=false/\(s.ai.toList==q.ai.toList)=false:=by simpa [eP,Bool.or_eq_false_iff]using this
   rcases mV q.ai s.ai with e|e|e
   .exact gy k1 e
   .rw[e]at k3;simp at k3
   .rw[e]at k2;cases k2
 unfold eN;refine List.pairwise_iff_getElem.2 λi j hi hj bH=> ?_;rw[Qdc]at hi hj;rw[List.getElem_map,List.getElem_map];exact key i (j-i-1) _ _ (Qac hi) (by rw[show i+(j-i-1+1)=j by omega];exact Qac hj)
theorem eN.less {l:List bj}(h:eN l){r s:bj}(hr:l[i]? =some r)(hs:l[i+1]? =some s):(Op.bytesLess s.ai.toList r.ai.toList||s.ai.toList==r.ai.toList)=false:=by
 have e1:(l.map bj.ai)[i]? =some r.ai:=by rw[List.getElem?_map,hr];rfl
 have e2:(l.map bj.ai)[i+1]? =some s.ai:=by rw[List.getElem?_map,hs];rfl
 have⟨l1,g1⟩:=Qad.1 e1;have⟨l2,g2⟩:=Qad.1 e2;have k:=List.pairwise_iff_getElem.1 h i (i+1) l1 l2 (by omega);rw[g1,g2]at k;rw[Bool.or_eq_false_iff];refine⟨?_,?_⟩
 .cases hq:Op.bytesLess s.ai.toList r.ai.toList with
  |false=>rfl
  |true=>have:=gy k (b:=s.ai) (c:=r.ai) hq;rw[cZ]at this;cases this
 .rw[beq_eq_false_iff_ne];intro e;rw[ByteArray.toList_eq,ByteArray.toList_eq]at e;rw[xY e,cZ]at k;cases k
def mh(l:List bj)(r:bj):List bj:=l.filter (λp=>eP p.ai r.ai)++r::l.filter (λp=>eP r.ai p.ai)
def sD {l:List bj}(h:eN l)(q:bj->Bool):eN (l.filter q):=by
 unfold eN at h⊢;rw[List.pairwise_map]at h⊢;exact h.filter q
def LI {l:List bj}(h:eN l)(r:bj):eN (mh l r):=by
 have h1:=sD h (λp=>eP p.ai r.ai);have h2:=sD h (λp=>eP r.ai p.ai);unfold eN at h1 h2;unfold eN mh;rw[List.map_append,List.map_cons,List.pairwise_append,List.pairwise_cons];refine⟨h1,⟨λy hy=> ?_,h2⟩,λy hy z hz=> ?_⟩
 .obtain⟨p,hp,rfl⟩:=Qdh.1 hy;exact(List.mem_filter.1 hp).2
 .obtain⟨p,hp,rfl⟩:=Qdh.1 hy;have k1:=(List.mem_filter.1 hp).2;rcases Qdf.1 hz with rfl|hz
  .exact k1
  .obtain⟨q,hq,rfl⟩:=Qdh.1 hz;exact gy k1 (List.mem_filter.1 hq).2
def ji {l:List bj}{r p:bj}:p∈mh l r↔(p∈l/\p.ai≠r.ai)\/p=r:=by
 unfold mh;simp only[Qch,List.mem_filter,Qdf];constructor
 .rintro(⟨h,k⟩|rfl|⟨h,k⟩)
  .exact .inl ⟨h,λe=>by rw[e,cZ]at k;cases k⟩
  .exact .inr rfl
  .exact .inl ⟨h,λe=>by rw[e,cZ]at k;cases k⟩
 .rintro(⟨h,k⟩|rfl)
  .rcases mV p.ai r.ai with e|e|e
   .exact .inl ⟨h,e⟩
   .exact absurd e k
   .exact .inr (.inr ⟨h,e⟩)
  .exact .inr (.inl rfl)
def LJ {l m:List bj}(hl:eN l)(hm:eN m)(h:∀o,o∈l↔o∈m):l=m:=by
 have nd:∀{l:List bj},eN l->l.Nodup:=λ{l}h=>by
  unfold eN at h;rw[List.pairwise_map]at h;exact h.imp (λhab e=>by subst e;rw[cZ]at hab;cases hab)
 exact x8 ((List.perm_ext_iff_of_nodup (nd hl) (nd hm)).2 h) hl hm
theorem aS.le {α:Type} [aD α]{base':Nat}{xs:List α}(h:aS M base e w v xs)(hb:base'<=base):aS M base' e w v xs:=by
 obtain⟨css,⟨h1,h2⟩,h3,h4⟩:=h;refine⟨css,⟨h1,?_⟩,h3,h4⟩;rcases h2 with h2|⟨g,cap,cur,h5,h6,h7⟩
 .exact .inl h2
 .exact .inr ⟨g,cap,cur,h5,by omega,h7⟩
def UW {size:Nat}{cs:Array aA}(h:bW w g (.cells cs t (0,0)))(hs:cs.size=size)(hF:F g):ct F w size (xL (g,0) 1 1) 1 cs.toList:=by
 refine⟨by simp[hs],some ⟨g,0,none⟩,1,rfl,bT,by unfold maxLen;omega,λ_=>⟨g,0,rfl,hF,(Qaa.1 h).1,λj u hu=> ?_⟩⟩;simp only[World.cell?,h,Nat.zero_add];simpa using hu
def Hq(hb:Below w.drew.heap.size w.drew w'):aC w w':=(Qbg _ w).drew.trans hb
def YM(hb:Below (w.drew.alloc o).heap.size (w.drew.alloc o) w'):aC w w':=((Qbg _ w).drew.alloc bT o).trans (hb.mono (by show w.heap.size<=(w.alloc o).heap.size;simp))
def YN(hb:Below (w.alloc o).drew.heap.size (w.alloc o).drew w'):aC w w':=((Qbg _ w).alloc bT o).drew.trans (hb.mono (by show w.heap.size<=(w.alloc o).heap.size;simp))
def oX2(hb:Below (w.drew.alloc o).heap.size (w.drew.alloc o) w'):w'.heap[w.heap.size]? =some o:=(hb.block w (by show w.heap.size<(w.alloc o).heap.size;simp)).trans (Qbh w.drew o)
def oX3(hb:Below (w.alloc o).drew.heap.size (w.alloc o).drew w'):w'.heap[w.heap.size]? =some o:=(hb.block w (by show w.heap.size<(w.alloc o).heap.size;simp)).trans (Qbh w o)
def UX(M:aV)(w:ax)(hM:Bd M w)(c:aI)(fv:aA)(x:aN)(a:Int)(b:Bool)(g1 g2:aA)(p:Nat)(hk:x.an=1)(MG:x.ai.size<=maxLen)(h8:c.ah.length<=8)
 (hp:bW w p (qE c.ai fv x a b g1 g2))(hfs:ab M w fv c.ah):
 xG 291 #[xP p] w λv w'=>ab M w' v (cw c x).ah:=by
 have⟨i0,hi0,hz0,hz1,hz2⟩:=info_parts gu;have iy:p<w:=(Qaa.1 hp).1;have HW:=ag (cU hp);have q1:=HW.o.c1;have q4:=HW.o.c4;have q6:=HW.o.c6;have q7:=HW.o.c7;have HC:Hd (∀W,aC w W->xC 330 #[fv] W (cm W λv w'=>aS M w 60 w' v c.ah)):=λW hb=>(jU M W fv c.ah (hfs.ae hb) (by omega)).mono λe w' h=>by
  obtain⟨v,h1,h2,h3⟩:=h;exact⟨v,h1,h2.le hb.size,h3⟩
 have pL:=ag (show(cw c x).ah=c.ah++[⟨x.ai,x.type,false⟩]by rw[pR hk]);have eZ:Hd (x.ai.size<=maxLen):=MG;obtain⟨a0,c0,rfl,cY,hmx,ho⟩:=hfs.aq;have⟨n,hn⟩:=jN (c.ah.length);rw[hn]at q1 cY HC h8 HW;have HN:=ag hn;clear hn;clear hfs hp ho;go_enter func291,ntmps291;go_wp2_with fail;go_upto_region 1 with fail;have dD:Hd (∀W,aC w W->bJ W p 1 (xL a0 n c0)/\bJ W p 4 x.ai/\bJ W p 6 x.type.an/\bJ W p 7 x.type.of):=λW hb=>by
  have h:=HW.o.ae iy hb;exact⟨h.c1,h.c4,h.c6,h.c7⟩
 have HJ:Hd (aC w w):=dS;go_cut [2](λs2 wx=>Hd (ab M wx s2 (cw c x).ah)/\Hd (aC w wx));case first=>
  go_region_held3(λw'=>w'.cell? (p,1)=some (xL a0 n c0)/\w'.cell? (p,4)=some (xS x.ai)/\w'.cell? (p,6)=some (xI x.type.an)/\w'.cell? (p,7)=some (xI x.type.of))
   (with_reducible first|exact dD.o _ rh.o|exact dD.o _ rh.o.drew|exact dD.o _ HJ.o|exact dD.o _ HJ.o.drew|exact dD.o _ (HJ.o.alloc HJ.o.size _)|exact dD.o _ ((HJ.o.alloc HJ.o.size _).drew)|exact dD.o _ (HJ.o.drew.alloc HJ.o.size _)|exact dD.o _ dP.o|exact dD.o _ dP.o.drew|exact dD.o _ (dP.o.alloc dP.o.size _)|exact dD.o _ ((dP.o.alloc dP.o.size _).drew))
   (first
     |(go_at_call 330;refine(HC.o _ (by with_reducible first|exact HJ.o.drew|exact HJ.o.drew.alloc HJ.o.size _|exact(HJ.o.alloc HJ.o.size _).drew)).mono ?_;rintro e w1⟨_,rfl,hacc,hb⟩;obtain⟨a1,c1,rfl,_⟩:=hacc.aq;have HA:=ag hacc;try(with_reducible(have HX:=ag (oX2 hb)))
       try(with_reducible(have HX:=ag (oX3 hb)))
       have dP:Hd (aC w w1):=(by with_reducible first|exact ag (Hq hb)|exact ag (YM hb)|exact ag (YN hb));clear hb hacc)
     |(refine dT (α:=aH) rfl _ _ _ rfl M w 60 i0 _ 40 underlying45 hi0 hz0 hz1 hz2 rfl (by decide) (.slice a1 c.ah.length c1) c.ah rfl (HA.o.alloc _) (λ_=>True) _ _ (⟨x.ai,x.type,false⟩:aH) rfl (cF _ _ _ _ rfl trivial) ⟨rfl,eZ.o⟩ (by rw[HN.o];unfold maxLen;omega) (by rw[HN.o];omega) (by have:=dP.o.size;simp;omega) ?_;intro a2 c2 w2 bD dK bE;have dr:=ag bD;have rh:Hd (aC w w2):=(dP.o.alloc dP.o.size _).trans bE;clear bD dK bE)
     |(refine dT (α:=aH) rfl _ _ _ rfl M w 60 i0 _ 40 underlying45 hi0 hz0 hz1 hz2 rfl (by decide) (.slice a1 c.ah.length c1) c.ah rfl HA.o (λ_=>True) _ _ (⟨x.ai,x.type,false⟩:aH) rfl (UW HX.o rfl trivial) ⟨rfl,eZ.o⟩ (by rw[HN.o];unfold maxLen;omega) (by rw[HN.o];omega) dP.o.size ?_;intro a2 c2 w2 bD dK bE;have dr:=ag bD;have rh:Hd (aC w w2):=dP.o.trans bE;clear bD dK bE));all_goals(go_wp2;go_meet)
  all_goals exact⟨ag (by rw[pL.o];exact dr.o.slice hM),rh⟩
 case rest=>
  obtain⟨HS,HB⟩:=hcut;have hs:=HS.o.aq;obtain⟨sa,sc,rfl,_⟩:=hs;go_wp2;go_ret;exact⟨_,rfl,HS.o,HB.o⟩
def Ee(M:aV)(w:ax)(c:aI)(fv:aA)(x:aN)(a:Int)(f1 f2:Nat)(b1 b2:Array aA)(p:Nat)(hcn:c.ai.size<=maxLen)(h8:c.ah.length<8)
 (hp:bW w p (qE c.ai fv x a true (.func (.func f1) #[] b1) (.func (.func f2) #[] b2)))(hfs:ab M w fv c.ah)(hne:(x.ai.toList==x.more.toList)=false)(hs:hasB c x.ai=false\/x.ai=x.field)(hs2:hasB c x.more=false\/x.more=x.field):
 xC 302 #[xP p] w (cu true w):=by
 have iy:p<w:=(Qaa.1 hp).1;have HW:=ag (cU hp);have HFa:=gQ (w:=w) (λW hb=>vX M W c fv x a true _ _ p x.ai x.field hcn ((hb.block p iy).trans hp) (hfs.ae hb) hs);have HFb:=gQ (w:=w) (λW hb=>vX M W c fv x a true _ _ p x.more x.field hcn ((hb.block p iy).trans hp) (hfs.ae hb) hs2);have q0:=HW.o.cb;have q1:=HW.o.c1;have q3:=HW.o.c3;have q4:=HW.o.c4;have q5:=HW.o.c5;have q6:=HW.o.cc;have q7:=HW.o.cd;have qf:=nH;have s0:decide (((c.ah.length:Nat):Int)≥8)=false:=by simp;omega
 obtain⟨a0,c0,rfl,cY,hmx,ho⟩:=hfs.aq;have⟨n,hn⟩:=jN (c.ah.length);rw[hn]at q1 s0;have dD:Hd (∀W,aC w W->bJ W p 3 x.field/\bJ W p 4 x.ai/\bJ W p 5 x.more/\bJ W p 12 (.func (.func f1) #[] b1)/\bJ W p 13 (.func (.func f2) #[] b2)):=λW hb=>by
  have h:=HW.o.ae iy hb;exact⟨h.c3,h.c4,h.c5,h.cc,h.cd⟩
 have HJ:Hd (aC w w):=dS;clear hfs hp ho hs hs2;go_enter func302,ntmps302;go_wp2_with fail;go_quiet(fail);have⟨w2,hw2⟩:=bY (w.drewN nq);have HJ:=ag (show aC w w2 by rw[hw2];exact⟨rfl,rfl,rfl,bT,λ_ _=>rfl⟩);rw[<-hw2];have q3:=(dD.o _ HJ.o).1;have q4:=(dD.o _ HJ.o).2.1;have q5:=(dD.o _ HJ.o).2.2.1;have q6:=(dD.o _ HJ.o).2.2.2.1;have q7:=(dD.o _ HJ.o).2.2.2.2;clear hw2;go_upto_region 3 with fail;have HJ2:Hd (aC w w2):=HJ;go_cut [2](λs2 wx=>s2=xB true/\Hd (aC w wx));case first=>
  go_region_held3(λw'=>w'.cell? (p,3)=some (xS x.field)/\w'.cell? (p,4)=some (xS x.ai)/\w'.cell? (p,5)=some (xS x.more)/\w'.cell? (p,12)=some (.func (.func f1) #[] b1)/\w'.cell? (p,13)=some (.func (.func f2) #[] b2))
   (with_reducible first|exact dD.o _ HJ.o|exact dD.o _ HJ.o.drew|exact dD.o _ fI.o|exact dD.o _ fI.o.drew|exact dD.o _ dP.o|exact dD.o _ dP.o.drew)
   (first
     |(go_at_call 329;with_reducible refine cC (HFa.o _ (by with_reducible first|exact HJ.o|exact HJ.o.drew)) λw3 hb=> ?_
       have fI:=ag (show aC w w3 by first|with_reducible exact HJ.o.trans (hb.mono HJ.o.size)|exact HJ.o.drew.trans (hb.mono HJ.o.size));clear hb)
     |(go_at_call 329;with_reducible refine cC (HFb.o _ (by with_reducible first|exact fI.o|exact fI.o.drew)) λw4 hb=> ?_
       have dP:=ag (show aC w w4 by first|with_reducible exact fI.o.trans (hb.mono fI.o.size)|exact fI.o.drew.trans (hb.mono fI.o.size));clear hb));all_goals(go_wp2;go_meet)
  all_goals exact⟨rfl,dP⟩
 case rest=>
  obtain⟨rfl,HB⟩:=hcut;go_wp2;go_ret;exact⟨rfl,HB.o⟩
def Ef {n:Nat}{xs:List aH}(h:ab M w (xL a n cap) xs)(hx:xs[i]? =some f):
 ∃g off,a=some ⟨g,off,none⟩/\g<w.heap.size/\bJ w g (off+i*4) f.ai/\bJ w g (off+i*4+1) f.type.an/\bJ w g (off+i*4+2) f.type.of/\bJ w g (off+i*4+3) (xB f.indexed):=by
 have hl:=(Qad.1 hx).1;have⟨a',cap',hv,_,_,ho⟩:=h.aq;have⟨b,off,h1,_,h3,h4⟩:=ho (by omega);obtain⟨cs,⟨rfl,_⟩,h5⟩:=h4 i f hx;injection hv with ha _ _;exact⟨b,off,ha.trans h1,h3,h5 0 _ rfl,h5 1 _ rfl,h5 2 _ rfl,h5 3 _ rfl⟩
def Eg(M:aV)(w:ax)(c:aI)(fv:aA)(x:aN)(i:Nat)(f:aH)(g1 g2:aA)(p:Nat)(h8:c.ah.length<=8)(hi:c.ah[i]? =some f)(h3:f.type.an<=3)
 (hp:bW w p (qE c.ai fv x i true g1 g2))(hfs:ab M w fv c.ah):
 xC 305 #[xP p] w (cu true w):=by
 have q0:=(cU hp).cb;have q1:=(cU hp).c1;have q2:=(cU hp).ca;have hl:=(Qad.1 hi).1;obtain⟨a0,c0,rfl,cY,hmx,_⟩:=hfs.aq;obtain⟨g,off,rfl,hg,z0,z1,z2,z3⟩:=Ef hfs hi;have⟨n,hn⟩:=jN (c.ah.length);rw[hn]at hl cY q1 h8;go_enter func305,ntmps305;go_wp2_with fail;go_region;all_goals
  go_wp2;go_ret;exact⟨rfl,by first|exact Qbg _ _|exact dS.drew⟩
def RZ(hc:cN c)(hp:qA c x)(hb:jo c x=true):YK x:=by
 have hE:∀s:aY,rK c x.type s->s=⟨#[]⟩\/∃e,eu s.data.toList=some e:=λs h=>by
  rcases h with h|⟨e,h,_⟩
  .exact .inl (fz h)
  .exact .inr ⟨e,h⟩
 refine⟨hp.sh,λhk=> ?_,hp.ai,hp.more,hp.type,hE _ hp.cX,hE _ hp.bZ,hp.s1,hp.s2,hp.s3⟩;have hh:hasB c x.field=true:=by
  unfold jo at hb;have hsh:=hp.sh;simp only[nu]at hsh;rw[if_neg hk]at hb;repeat'(split at hb)
  all_goals simp_all
 exact C4 hc.right hh
def zm(k:Int):Nat:=if k=1 then 290 else if k=2 then 293 else if k=3 then 296 else if k=4 then 299 else if k=5 then 302 else 305
def qq(c:aI)(x:aN):Int:=if fieldAt c x.field<0 then 0 else fieldAt c x.field
def JJ {u:aY}(h:(!hasB c s||s.toList==u.toList)=true):hasB c s=false\/s=u:=by
 rw[Bool.or_eq_true]at h;rcases h with h|h
 .exact .inl (by simpa using h)
 .exact .inr (qP h)
def R3(M:aV)(w:ax)(c:aI)(hc:cN c)(fv:aA)(x:aN)(hx:qA c x)(hb:jo c x=true)(f1 f2:Nat)(b1 b2:Array aA)(p:Nat)
 (hp:bW w p (qE c.ai fv x (qq c x) (hasB c x.field) (.func (.func f1) #[] b1) (.func (.func f2) #[] b2)))(hfs:ab M w fv c.ah):
 xC (zm x.an) #[xP p] w (cu true w):=by
 have hcn:=cM hc.small;have h8:=((bC c).1 hc.right).2.1;have hk:x.an=1\/x.an=2\/x.an=3\/x.an=4\/x.an=5\/x.an=6:=by have:=hx.sh;simp only[nu]at this;omega
 unfold jo at hb;rcases hk with hk|hk|hk|hk|hk|hk<;>rw[hk]at hb⊢
 .simp only[if_true,Qce,decide_eq_true_eq,Bool.not_eq_true']at hb;exact LA M w c fv x _ _ f1 b1 _ p hcn (by omega) hp hfs hb.2
 .have hh:hasB c x.field=true:=by simpa using hb
  rw[hh]at hp;exact Hi w c.ai fv x _ true _ _ p hp
 .have hh:hasB c x.field=true/\hasB c x.ai=false:=by simpa using hb
  rw[hh.1]at hp;exact BS M w c fv x _ _ _ p hcn hp hfs hh.2
 .have hh:hasB c x.field=true:=by simpa using hb
  rw[hh]at hp;exact Hj w c.ai fv x _ f1 b1 _ p hp
 .simp only[show¬((5:Int)=1)by decide,show¬((5:Int)=2)by decide,show¬((5:Int)=3)by decide,show¬((5:Int)=4)by decide,if_false,if_true]at hb;rw[Qce,Qce,Qce,Qce]at hb;obtain⟨⟨⟨⟨h1,h2⟩,h3⟩,h4⟩,h5⟩:=hb;rw[h1]at hp;have h2:=of_decide_eq_true h2;exact Ee M w c fv x _ f1 f2 b1 b2 p hcn (by omega) hp hfs (by simpa using h3) (JJ h4) (JJ h5)
 .simp only[show¬((6:Int)=1)by decide,show¬((6:Int)=2)by decide,show¬((6:Int)=3)by decide,show¬((6:Int)=4)by decide,show¬((6:Int)=5)by decide,if_false]at hb;rw[Qce]at hb;have⟨i,f,h1,h2,h3⟩:=Bq hb.1;have h4:=of_decide_eq_true hb.2;rw[hb.1,show qq c x=(i:Int)by unfold qq;rw[h1,if_neg (by omega)]]at hp;exact Eg M w c fv x i f _ _ p (by omega) h2 (by
   unfold wO at h4;rw[h1]at h4;simpa [h2]using h4) hp hfs
def eo:mf dO prog 3:=Aw dO (.int .i64) oX underlying3
def yf {es:List (Int×aA×Nat)}(h:bP dO w b es clk)(n:Int)(v:aA)(hv:bB es n=some v):(Instr.lookup 87 (.map (some b)) n true).run prog w= .ok (.tuple #[v,true]) w:=
 bP.Eb dO underlying87 eo eO h n v hv
def H8(w:ax)(K b:Nat)(es:List (Int×aA×Nat))(clk:Nat)(n v:Int)(hK:bJ w K 1 (.map (some b)))(hm:bP dO w b es clk)(hv:bB es n=some (xI v)):
 xC 127 #[n,xP K] w (cu false w):=by
 have hl:=yf hm n _ hv;have hl2:=yf (w:=w.drew) hm n _ hv;go_enter func127,ntmps127;go_wp2;go_ret;exact⟨rfl,dS⟩
def jl(lv:aA)(pm:Nat):Obj:=xK #[lv, .map (some pm)] 89
def LW(x:aW)(h:gx x)(M:aV)(w:ax)(hM:Bd M w)(hT:Tb w)(lv rv:aA)(pm:Nat)(hgr:Cz x M w lv pm)(iM:ab M w rv x.aF):
 xC 57 #[.agg #[lv, .map (some pm)],rv] w (cu true w):=by
 obtain⟨⟨ls,zJ,hlen,ki⟩,es,clk,MZ,hes⟩:=hgr;have eg:∀args w,(callFunc 127 args).run prog w= .ok (.enter 127 args) w:=enters_of func127 (by kernel_rfl) rfl;have oF:∀W(n:Int),aC w W->dk W w (jl lv pm)->n∈cA x.aP->xC 127 #[xI n,xP w.heap.size] W (cu false W):=λW n hb hc h1=>by
  obtain⟨oo,hoo,rfl⟩:=Qdh.1 h1;have⟨ii,hii⟩:=Qdg hoo;have hv:=Cz.at_ h hes hii;exact H8 W w pm es clk _ _ (ak hc).2 ((hb.block _ (Qaa.1 MZ).1).trans MZ) hv
 have HM:=ag oF;have HR:Hd (∀i r,x.aF[i]? =some r->_):=λi r hr=>gw iM hr;have Rh:Hd (∀(i:Nat)r,x.aF[i]? =some r->r.id∈cA x.aP):=λi r hr=>h.aF r (Qaf hr);have HO:Hd (∀i o,ls[i]? =some o->_):=λi o ho=>iJ zJ ho;have Kh:Hd (∀(i:Nat)o,ls[i]? =some o->∀W u,aC w W->ab M W u o.aZ->xC 62 #[.agg #[xI o.id,xI o.cL,xI o.cQ,u]] W (cm W λv w'=>ab M w' v (o.aZ.flatMap (cr 3)))):=λi o ho W u hb hu=>by
  have⟨fs,h1,h8⟩:=(ki i o ho).aZ h;exact Jw o 100000 (Int.le_refl _) fs h1 h8 M W (hM.ae hb) u hu (hT.ae hb)
 have CI:Hd (∀(i:Nat)o,ls[i]? =some o->∀W u,aC w W->dk W w (jl lv pm)->ab M W u (o.aZ.flatMap (cr 3))->_):=λi o ho W u hb hc hu=>nF 127 #[xP w.heap.size] eg _ M u W hu (λn hn W' hb'=>oF W' n (hb.trans (hb'.mono hb.size)) ((hb'.block _ (Qaa.1 hc).1).trans hc) ((ki i o ho).inside h n hn));have h10:=h.len;have h5:=h.rlen;obtain⟨la,lc,rfl,hlc,hlm,_⟩:=zJ.aq;obtain⟨ra,rc,rfl,Qh,V0,_⟩:=iM.aq;clear zJ iM h oF MZ hes ki hM hT;generalize hn:ls.length=n at*;generalize hmr:x.aF.length=m at*;have qd4:n<=500:=by omega
 clear hlen h10;have HN:=ag hn;clear hn;have Bf:=ag hmr;clear hmr;have HEG:=ag eg;go_enter func57,ntmps57;go_wp2;go_loopg [4,7,13]m(λg r4 _ iv wr=>∃j:Nat,j<=m/\g=m-j/\iv=xI j/\r4=xB false/\Hd (Bx w [jl (xL la n lc) pm] wr));case atStart=>exact⟨0,Qbf _,rfl,rfl,rfl,(Bx.eI w _)⟩
 case round=>
  obtain⟨j,hj,rfl,rfl,rfl,HB⟩:=hrel;by_cases bH:j<m
  .have⟨r,hr⟩:=eG x.aF j (by rw[Bf.o];exact bH);have⟨b,off,cap,hv,hbl,_,hcells⟩:=HR.o j r hr;obtain⟨rfl,rfl⟩:=iY hv;have⟨g0,g1⟩:=hcells wr HB.o.1;have HRX:=ag (Rh.o j r hr);clear hv hcells hr;go_wp2_with fail;refine cC (HM.o _ r.id (HB.o.alloc _).1 ((HB.o.alloc _).bO rfl) HRX.o) λw1 hb1=> ?_;have bz:Hd (Bx w [jl (xL la n lc) pm] w1):=(HB.o.alloc _).ae hb1;clear hb1 g0 g1;go_wp2;go_roundg(m-(j+1));case measure=>omega
   case rel=>exact⟨j+1,by omega,rfl,by go_num,rfl,bz⟩
  .obtain rfl:j=m:=by omega
   have⟨c0,c1⟩:=ak (HB.o.bO rfl);go_wp2;go_loopg [4,9,25]n(λg r4 _ iv wr=>∃i:Nat,i<=n/\g=n-i/\iv=xI i/\r4=xB false/\Hd (Bx w [jl (xL la n lc) pm] wr));case atStart=>exact⟨0,Qbf _,rfl,rfl,rfl,HB⟩
   case round=>
    obtain⟨i,hi,rfl,rfl,rfl,HX⟩:=hrel;clear c0 c1;by_cases I3:i<n
    .have⟨o,ho⟩:=eG ls i (by rw[HN.o];exact I3);have⟨b,off,cap,va,vc,hv,hbl,hvs,hcells⟩:=HO.o i o ho;obtain⟨rfl,rfl⟩:=iY hv;have⟨g0,g1,g2,g3⟩:=hcells wr HX.o.1;have bI:=ag (λo'=>Kh.o i o ho (wr.alloc o') _ (HX.o.alloc o').1 (hvs.ae (HX.o.alloc o').1));have qau:=ag (CI.o i o ho);have⟨nl,hnl⟩:=bY (o.aZ.flatMap (cr 3));rw[<-hnl]at bI qau;clear hnl;obtain⟨oi,oc,ov,os⟩:=o;clear hv hcells ho hvs;go_wp2_with fail;refine(bI.o _).mono ?_;rintro e w1⟨u,rfl,hu,hb1⟩;have hu':=hu;obtain⟨ua,uc,rfl,_⟩:=hu'.aq;have HU:=ag hu;have bz:Hd (Bx w [jl (xL (b,off) n lc) pm] w1):=(HX.o.alloc _).ae hb1;clear hb1 hu g0 g1 g2 g3;go_wp2_with fail;refine cC (qau.o _ _ bz.o.1 (bz.o.bO rfl) HU.o) λw2 bE=> ?_;have bg:Hd (Bx w [jl (xL (b,off) n lc) pm] w2):=bz.o.ae bE;clear bE;go_wp2;go_roundg(n-(i+1));case measure=>omega
     case rel=>exact⟨i+1,by omega,rfl,by go_num,rfl,bg⟩
    .obtain rfl:i=n:=by omega
     go_wp2;go_ret;exact⟨rfl,HX.o.1⟩
def JT(b:Nat):Obj:=xK #[.map (some b)] 96
def vd(v:aA):Obj:=xK #[v] 27
def sP(w0:ax):Nat->Prop:=λi=>i=[w0]\/i=[w0,w0,w0]
structure iw(w0 w:ax)(g:Obj)(v:aA)(S wk:List Int):Prop where
 b0:w.heap[w0.heap.size]? =some g
 b5:w.heap[w0.heap.size+1+1]? =some (JT [w0])
 b6:w.heap[w0.heap.size+1+1+1]? =some (vd v)
 set:Mk.jy w [w0] S
 acc:aS (α:=Int) (sP w0) (↑w0+4) 3 w v wk
 low:aC w0 w
 short:wk.length<=S.length
section
variable {w0 w w2 w4 W:ax}{g:Obj}{v v2:aA}{S wk:List Int}{x:Int}
theorem iw.lt(h:iw w0 w g v S wk):w0.heap.size+4<=w:=(Qaa.1 h.b6).1
theorem iw.ae(h:iw w0 w g v S wk)(hb:aC w W):iw w0 W g v S wk:=
 ⟨(hb.block _ (by have:=h.lt;omega)).trans h.b0,(hb.block _ (by have:=h.lt;omega)).trans h.b5,(hb.block _ (by have:=h.lt;omega)).trans h.b6,h.set.same (hb.block _ (by have:=h.lt;omega)),h.acc.ae hb,h.low.trans (hb.mono h.low.size),h.short⟩
theorem iw.bd(h:iw w0 w g v S wk):Bd (bu v (sP w0)) w:=λi hi=>by
 have hl:=h.lt;rcases hi with(hi|hi)|hi
 .omega
 .omega
 .exact(h.acc.cG i hi).2
theorem iw.next(h:iw w0 w g v S wk)(hs:Mk.jy w2 [w0] (S++[x]))(ho:ao (λi=>i=[w0]) w w2)(o:Obj)(hacc:aS (α:=Int) (sP w0) (↑w0+4) 3 w4 v2 (wk++[x]))(vK:Ev (bu v (sP w0)) (w2.alloc o) (bu v2 (sP w0)) w4)(hb:Below (↑w0+4) (w2.alloc o) w4):
 iw w0 (w4.setCell ([w0,w0,w0],0) v2) g v2 (S++[x]) (wk++[x])/\Ev (bu v (sP w0)) w (bu v2 (sP w0)) (w4.setCell ([w0,w0,w0],0) v2):=by
 have hl:=h.lt;have hz:=ho.size;have e1:∀i,i<w0.heap.size+4->w4.heap[i]? =w2.heap[i]? :=λi hi=>(hb.block i hi).trans (((Qbg _ w2).alloc bT o).block i (by omega));have e2:∀i,i≠w0.heap.size+1+1+1->i<w0.heap.size+4->(w4.setCell ([w0,w0,w0],0) v2).heap[i]? =w2.heap[i]? :=λi hn hi=>(Qag _ _ _ _ hn).trans (e1 i hi);refine⟨⟨?_,?_,?_,?_,?_,?_,?_⟩,⟨?_,λi hi=> ?_⟩⟩
 .exact(e2 _ (by omega) (by omega)).trans (ho.at_ h.b0 (by omega))
 .exact(e2 _ (by omega) (by omega)).trans (ho.at_ h.b5 (by omega))
 .have:=Qca w4 [w0,w0,w0] 0 _ _ v2 ((e1 _ (by omega)).trans (ho.at_ h.b6 (by omega)));simpa [vd]using this
 .exact hs.same (e2 _ (by omega) (by omega))
 .exact hacc.rC (p:=⟨[w0,w0,w0],0,none⟩) (.inr rfl) (by show w0.heap.size+1+1+1<_;omega) _
 .exact(((bq h.low h.low.size ho (λi hi=>by subst hi;omega)).alloc (by have:=h.low.size;omega) o).trans (hb.mono (by omega))).setCell (p:=⟨[w0,w0,w0],0,none⟩) (by show w0.heap.size<=[w0,w0,w0];omega) _
 .have:=h.short;simp;omega
 .refine ao.setCell ?_ (p:=⟨[w0,w0,w0],0,none⟩) (.inl (.inl (.inr rfl))) _;exact((ho.mono (λi hi=> .inl (.inl hi))).alloc o).trans vK.only
 .rcases vK.sub i hi with h1|h1
  .exact .inl h1
  .right;have:(w2.alloc o).heap.size=[w2]:=by simp
   omega
end
theorem sQ:∀(ids S wk:List Int),((Mk.dZ (S,wk) ids).1).length<=S.length+ids.length
 |[],S,wk=>by simp[Mk.dZ]
 |a::r,S,wk=>by
  have e:Mk.dZ (S,wk) (a::r)=Mk.dZ (if a∈S then(S,wk)else(S++[a],wk++[a])) r:=rfl;rw[e];split
  .have:=sQ r S wk;simp;omega
  .have:=sQ r (S++[a]) (wk++[a]);simp at this⊢;omega
def PH(w0 w:ax)(g:Obj)(v:aA)(S wk ids:List Int)(hS:S.length+ids.length<=1000)(h:iw w0 w g v S wk)(iv:aA)(hi:ab (α:=Int) (bu v (sP w0)) w iv ids):
 xC 61 #[iv,xP [w0,w0],xP [w0,w0,w0]] w λe w'=>e=xR (.tuple #[])/\∃v',iw w0 w' g v' (Mk.dZ (S,wk) ids).1 (Mk.dZ (S,wk) ids).2/\Ev (bu v (sP w0)) w (bu v' (sP w0)) w':=by
 have⟨i0,hi0,hz0,hz1,hz2⟩:=info_parts rQ;have gO:Hd (∀k,((Mk.dZ (S,wk) (ids.take k)).1).length<=1000):=λk=>by
  have h2:=sQ (ids.take k) S wk;have h3:(ids.take k).length<=ids.length:=by rw[Qdb];omega
  omega
 have Fx:Hd (iw w0 w g v (Mk.dZ (S,wk) (ids.take 0)).1 (Mk.dZ (S,wk) (ids.take 0)).2/\Ev (bu v (sP w0)) w (bu v (sP w0)) w/\ab (α:=Int) (bu v (sP w0)) w iv ids):=⟨h,Ev.refl _ _,hi⟩;obtain⟨a,cap,rfl,cY,hm,_⟩:=hi.aq;clear h hi hS;generalize hn:ids.length=n at*;have HN:=ag hn;clear hn;go_enter func61,ntmps61;go_wp2;go_loopg [5,8]n(λgg _ kv wr=>∃(k:Nat)(v1:aA),k<=n/\gg=n-k/\kv=xI k/\Hd (iw w0 wr g v1 (Mk.dZ (S,wk) (ids.take k)).1 (Mk.dZ (S,wk) (ids.take k)).2/\Ev (bu v (sP w0)) w (bu v1 (sP w0)) wr/\ab (α:=Int) (bu v1 (sP w0)) wr (xL a n cap) ids));case atStart=>exact⟨0,v,Qbf _,rfl,rfl,Fx⟩
 case round=>
  obtain⟨k,v1,hk,rfl,rfl,HX⟩:=hrel;by_cases bH:k<n
  .have⟨x,hx⟩:=eG ids k (by rw[HN.o];exact bH);have⟨b,off,cap',hv,hb,hcells⟩:=pW HX.o.2.2 hx;obtain⟨rfl,rfl⟩:a=some ⟨b,off,none⟩/\cap=cap':=by rw[HN.o]at hv;simpa using hv
   have hcx:=hcells wr dS;have c5:=one_cell HX.o.1.b5;have pM:=HX.o.1.set.lookup x;have HKX:=ag hx;clear hv hcells hx hb;by_cases kx:x∈(Mk.dZ (S,wk) (ids.take k)).1
   .rw[decide_eq_true kx]at pM;have ia:=ag (show iw w0 wr g v1 (Mk.dZ (S,wk) (ids.take (k+1))).1 (Mk.dZ (S,wk) (ids.take (k+1))).2 by
     rw[Mk.Av HKX.o,if_pos kx];exact HX.o.1);clear kx;go_wp2;go_roundg(n-(k+1));case measure=>omega
    case rel=>exact⟨k+1,v1,by omega,rfl,by go_num,(show _/\_/\_ from⟨ia.o,HX.o.2.1,HX.o.2.2⟩)⟩
   .rw[decide_eq_false kx]at pM;have⟨w2,hup,hset,honly⟩:=HX.o.1.set.store x kx;have vw:=Mk.Av (p:=(S,wk)) HKX.o;rw[if_neg kx]at vw;have Um:=ag vw;have hlen:=gO.o k;clear vw kx;have⟨S1,hS1⟩:=jN ((Mk.dZ (S,wk) (ids.take k)).1);have⟨K1,hK1⟩:=jN ((Mk.dZ (S,wk) (ids.take k)).2);rw[hS1]at hset hlen;have fp:=ag (show iw w0 wr g v1 S1 K1/\Ev (bu v (sP w0)) w (bu v1 (sP w0)) wr/\ab (α:=Int) (bu v1 (sP w0)) wr (xL (b,off) n cap) ids by rw[<-hS1,<-hK1];exact HX.o);have qem:=ag (show Mk.dZ (S,wk) (ids.take (k+1))=(S1++[x],K1++[x])by rw[Um.o,hS1,hK1]);clear HX Um hS1 hK1;have hl:=fp.o.1.lt;have hsh:=fp.o.1.short;have c6:=one_cell (honly.at_ fp.o.1.b6 (by omega));have yV:=ag honly.size;have qen:=ag hset;have lI:=ag honly;have hac:=fp.o.1.acc;obtain⟨a1,c1,rfl,_,_⟩:=hac.aq;have HAC:Hd (aS (α:=Int) (sP w0) (↑w0+4) 3 w2 (xL a1 K1.length c1) K1):=hac.only lI.o (λi hi=>⟨.inl hi,by have h:i=[w0]:=hi;omega⟩);have kE:Hd (bW w2 [w0,w0,w0] (vd (xL a1 K1.length c1))):=honly.at_ fp.o.1.b6 (by omega);have qgv:w0.heap.size+4<=w2:=Qcg hl yV.o;clear hset honly hac;go_wp2_with(at_builtin;refine bo (α:=Int) rfl _ _ _ rfl (sP w0) (↑w0+4) 3 i0 _ 8 underlying27 hi0 hz0 hz1 hz2 rfl (by decide) (.slice a1 K1.length c1) K1 rfl (HAC.o.alloc _) (λ_=>True) _ _ x rfl (cF _ _ _ _ rfl trivial) rfl (by unfold maxLen;omega) (by omega) (by simp;omega) ?_;intro a2 c2 w4 bD dK bE;have tj:=ag (fp.o.1.next qen.o lI.o _ bD dK bE);have jn:bW w4 [w0,w0,w0] (vd (xL a1 K1.length c1)):=(bE.block _ (by omega)).trans ((bU.block _ (by omega)).trans kE.o);have p6:=one_cell jn;have f6:=aj jn 0;clear bD dK bE jn);go_roundg(n-(k+1));case measure=>omega
    case rel=>
     refine⟨k+1,_,by omega,rfl,by go_num,(show _/\_/\_ from⟨?_,fp.o.2.1.trans tj.o.2,fp.o.2.2.ev tj.o.2⟩)⟩;rw[qem.o];exact tj.o.1
  .obtain rfl:k=n:=by omega
   go_wp2_with fail;have hh:=HX.o;rw[Qah (by rw[HN.o];omega)]at hh;refine bodyPost_end (results_none rfl _ _ _) rfl ?_;exact⟨rfl,v1,hh.1,hh.2.1⟩
def Sb {wk:List Int}(h:aS (α:=Int) M base 3 w v (wk++[id]))(hM:∀i,M i->i<base):
 ∃g c,v=xL (some ⟨g,0,none⟩) (wk.length+1) c/\wk.length+1<=c/\bJ w g wk.length id/\aS (α:=Int) M base 3 w (xL (g,0) wk.length c) wk:=by
 have hsl:=h.slice hM;obtain⟨css,h1,h2,h3⟩:=h;have e:css=(wk++[id]).map (λx=>[Value.int .i64 x]):=by
  refine List.ext_getElem (by simpa using h2) (λi p q=> ?_);rw[List.getElem_map];exact h3 i _ _ (Qac p) (Qac (by simpa using q))
 subst e;have fl:∀l:List Int,(l.map (λx=>[Value.int .i64 x])).flatten=l.map (Value.int .i64):=λl=>by
  induction l with
  |nil=>rfl
  |cons a r ih=>simp only[List.map_cons,List.flatten_cons,ih];rfl
 rw[fl,List.map_append,show(wk++[id]).length=wk.length+1 by simp]at h1;have h1':=h1;obtain⟨_,⟨_,h0⟩|⟨g,c,cur,rfl,_,_,hc,_⟩⟩:=h1'
 .omega
 have hp:=ownsRow_pop (size:=1) (n:=wk.length) (by simp) h1;have⟨b,off,cap,hv,_,hcell⟩:=xO hsl (k:=wk.length) (x:=id) (by simp);have hv2:g=b/\0=off:=by
  have:=hv;simp at this;exact⟨this.1.1,this.1.2⟩
 obtain⟨rfl,rfl⟩:=hv2;refine⟨g,c,rfl,hc,by simpa using hcell w dS,⟨wk.map (λx=>[Value.int .i64 x]),?_,by simp,λi cs x hcs hx=> ?_⟩⟩
 .rw[fl];exact hp
 .rw[List.getElem?_map,hx]at hcs;simp at hcs;exact hcs.symm
theorem iw.pop {g:Obj}{wk:List Int}(h:iw w0 w g v S (wk++[id])):
 ∃q c,v=xL (some ⟨q,0,none⟩) (wk.length+1) c/\wk.length+1<=c/\bJ w q wk.length id/\iw w0 (w.setCell ([w0,w0,w0],0) (xL (q,0) wk.length c)) g (xL (q,0) wk.length c) S wk:=by
 have hN:∀i,sP w0 i->i<w0.heap.size+4:=λi hi=>by rcases hi with hi|hi<;>omega
 obtain⟨q,c,rfl,hc,hcell,hacc⟩:=Sb h.acc hN;have ho:=λi(hn:i≠w0.heap.size+1+1+1)=>Qag w ⟨[w0,w0,w0],0,none⟩ i (xL (q,0) wk.length c) hn;refine⟨q,c,rfl,hc,hcell,⟨(ho _ (by omega)).trans h.b0,(ho _ (by omega)).trans h.b5,?_,h.set.same (ho _ (by omega)),?_,?_,?_⟩⟩
 .have:=Qca w [w0,w0,w0] 0 _ _ (xL (q,0) wk.length c) h.b6;simpa [vd]using this
 .exact hacc.rC (p:=⟨[w0,w0,w0],0,none⟩) (.inr rfl) (by show w0.heap.size+1+1+1<_;omega) _
 .exact h.low.setCell (p:=⟨[w0,w0,w0],0,none⟩) (by show w0.heap.size<=[w0,w0,w0];omega) _
 .have:=h.short;simp at this;omega
def yz {es:List (Int×aA×Nat)}(h:bP dO w b es clk)(n:Int)(v:aA)(hv:bB es n=some v):(Instr.lookup 87 (.map (some b)) n false).run prog w= .ok v w:=
 bP.xX dO underlying87 eo eO h n v hv
def AU(x:aW)(h:gx x)(M:aV)(w:ax)(hM:Bd M w)(hT:Tb w)(lv rv:aA)(pm:Nat)(hgr:Cz x M w lv pm)(iM:ab M w rv x.aF):
 xC 24 #[.agg #[lv, .map (some pm)],rv] w λe w'=>∃S sb,e=xR (.map (some sb))/\Mk.jy w' sb S/\(∀n,n∈S↔Mk.D9 (cE x) (de x) n)/\aC w w':=by
 obtain⟨⟨ls,zJ,hlen,ki⟩,es,clk,MZ,hes⟩:=hgr;have Bc:∀j,(Mk.dZ ([],[]) ((cE x).take j)).1.length<=500:=λj=>by
  have h1:=sQ ((cE x).take j) [] [];have h2:=h.rlen;have h3:((cE x).take j).length<=500:=by rw[Qdb];unfold cE;rw[Qdc];omega
  have h4:([]:List Int).length=0:=rfl;omega
 have Ue:=ag Bc;have HR:Hd (∀i r,x.aF[i]? =some r->_):=λi r hr=>gw iM hr;have WO:Hd (∀(i:Nat)r,x.aF[i]? =some r->Mk.dZ ([],[]) ((cE x).take (i+1))=Mk.dZ (Mk.dZ ([],[]) ((cE x).take i)) [r.id]):=λi r hr=>by
  have e:(cE x)[i]? =some r.id:=by unfold cE;rw[List.getElem?_map,hr];rfl
  rw[Qbb,e];show(List.foldl _ _ (_++[r.id]))=_;rw[List.foldl_append];rfl
 have ML:=ag (show(cE x).take x.aF.length=cE x by unfold cE;rw[Qah (by rw[Qdc];exact bT)]);have HIV:Hd (∀S wk(W:ax)g v,iw w W g v S wk->Mk.nZ (cE x) (de x) S wk->S.length<=x.aP.length/\S.length<=500):=λS wk W g v h1 h2=>by
  have h3:=im (cA x.aP) S h1.set.nodup (λy hy=>h.closed.RW (h2.reached y hy));unfold cA at h3;rw[Qdc]at h3;have:=h.len;exact⟨h3,by omega⟩
 have Ua:Hd (∀(n:Int),Mk.D9 (cE x) (de x) n->∃(i:Nat)(o:bF),n=o.id/\ls[i]? =some o):=λn hn=>by
  obtain⟨o0,ho0,rfl⟩:=Qdh.1 (h.closed.RW hn);have⟨i,hi⟩:=Qdg ho0;have vZ:=(Qad.1 hi).1;have hg:ls[i]? =some ls[i]:=Qac (by omega);have⟨o1,h1,h2⟩:=(ki i _ hg).idn;rw[hi]at h1;cases h1;exact⟨i,_,h2.symm,hg⟩
 have HO:Hd (∀i o,ls[i]? =some o->_):=λi o ho=>iJ zJ ho;have CJ:Hd (∀(i:Nat)o W,ls[i]? =some o->aC w W->_):=λi o W ho hb=>yz (w:=W) ((hb.block _ (Qaa.1 MZ).1).trans MZ) o.id _ (by have⟨o1,h1,h2⟩:=(ki i o ho).idn;rw[h2];exact Cz.at_ h hes h1);have Kh:Hd (∀(i:Nat)o,ls[i]? =some o->∀W g v S wk u,iw w W g v S wk->ab M w u o.aZ->xC 62 #[.agg #[xI o.id,xI o.cL,xI o.cQ,u]] W (cm W λr w'=>ab (bu v (sP w)) w' r (de x o.id))):=λi o ho W g v S wk u hst hu=>by
  have⟨fs,h1,h8⟩:=(ki i o ho).aZ h;have sU:Bd (λi=>M i\/bu v (sP w) i) W:=λi hi=>by
   rcases hi with hi|hi
   .exact hM.ae hst.low i hi
   .exact hst.bd i hi
  have vK:Ev M w (λi=>M i\/bu v (sP w) i) W:=⟨ao.az hst.low,λi hi=>by
   rcases hi with hi|(hi|hi)|hi
   .exact .inl hi
   .right;omega
   .right;omega
   .right;have:=(hst.acc.cG i hi).1;omega⟩;have hr:=Jw o 100000 (Int.le_refl _) fs h1 h8 (λi=>M i\/bu v (sP w) i) W sU u (hu.ev vK) (hT.ae hst.low);rw[(ki i o ho).refs h]at hr;refine hr.mono ?_;rintro e w'⟨r,rfl,hs,hb⟩;exact⟨r,rfl,hs.ev (Ev.dL _ λi hi=> .inr hi),hb⟩
 have FM:Hd (∀(i:Nat)o,ls[i]? =some o->(de x o.id).length<=96):=λi o ho=>Hl h (ki i o ho);have h5:=h.rlen;obtain⟨la,lc,rfl,hlc,hlm,_⟩:=zJ.aq;obtain⟨ra,rc,rfl,Qh,V0,_⟩:=iM.aq;have qeo:Hd (Mk.nZ (cE x) (de x) (Mk.dZ ([],[]) (cE x)).1 (Mk.dZ ([],[]) (cE x)).2):=Mk.nZ.start _ _;have Ka:=ag (show ls.length<=500 by rw[hlen];exact h.len);clear zJ iM h MZ hes ki hM hT Bc;generalize hn:ls.length=n at*;generalize hmr:x.aF.length=m at*;have HN:=ag hn;clear hn;have Bf:=ag hmr;clear hmr;have ku:=ag hlen;clear hlen;have qep:Hd (∀(wr:ax)v1 S wk(id:Int)(o:Obj),iw w wr (jl (xL la n lc) pm) v1 S wk->S.length<=900->xC 61 #[xL ([wr],0) 1 1,xP [w,w],xP [w,w,w]] ((wr.alloc o).alloc (xK #[xI id] 3)) λe w'=>e=xR (.tuple #[])/\∃v',iw w w' (jl (xL la n lc) pm) v' (Mk.dZ (S,wk) [id]).1 (Mk.dZ (S,wk) [id]).2):=λwr v1 S wk id o h hS=>by
  have h1:iw w (wr.alloc o) (jl (xL la n lc) pm) v1 S wk:=h.ae (dS.alloc bT o);have h2:iw w ((wr.alloc o).alloc (xK #[id] 3)) (jl (xL la n lc) pm) v1 S wk:=h1.ae bU;have hz:(wr.alloc o).heap.size=[wr]:=by simp
  have hs:ab (α:=Int) (bu v1 (sP w)) ((wr.alloc o).alloc (xK #[id] 3)) (xL ([wr],0) 1 1) [id]:=by
   rw[<-hz];refine⟨[[xI id]],cF (F:=λi=>¬bu v1 (sP w) i) (wr.alloc o) #[id] _ 1 rfl (λhh=>by have:=h1.bd _ hh;omega),rfl,λi cs y hc hy=> ?_⟩;match i,hc,hy with
   |0,hc,hy=>cases hc;cases hy;rfl
   |i+1,hc,hy=>simp at hc
  refine(PH w _ _ v1 S wk [id] (by simp;omega) h2 _ hs).mono ?_;rintro e w'⟨rfl,v',k1,k2⟩;exact⟨rfl,v',k1⟩
 have qeq:Hd (∀(W:ax)v S wk ids u,iw w W (jl (xL la n lc) pm) v S wk->S.length+ids.length<=1000->ab (α:=Int) (bu v (sP w)) W u ids->_):=λW v S wk ids u h1 h2 h3=>PH w W _ v S wk ids h2 h1 u h3;have hmk:=λw=>eM 96 w;go_enter func24,ntmps24;go_upto_region 4 with fail;have⟨W0,hW0⟩:=bY ((((w.alloc (jl (xL la n lc) pm)).alloc (.map #[] 0)).alloc (JT [w])).alloc (vd ()));have Fx:=ag (show iw w W0 (jl (xL la n lc) pm) () (Mk.dZ ([],[]) ((cE x).take 0)).1 (Mk.dZ ([],[]) ((cE x).take 0)).2 by
  have hX:=Bx.KE w (jl (xL la n lc) pm) (.map #[] 0) (JT [w]) (vd ());rw[<-hW0]at hX;exact⟨hX.bO rfl,hX.fB rfl,hX.Bv rfl,⟨[],0,⟨hX.cg rfl,by simp,by simp,by simp⟩,rfl⟩,aS.nil _ _ _ _,hX.1,bT⟩);unfold jl JT vd at hW0;rw[<-hW0];clear hW0;go_wp2;go_loopg [9,15]m(λgg _ jv wr=>∃(j:Nat)(v1:aA),j<=m/\gg=m-j/\jv=xI j/\Hd (iw w wr (jl (xL la n lc) pm) v1 (Mk.dZ ([],[]) ((cE x).take j)).1 (Mk.dZ ([],[]) ((cE x).take j)).2));case atStart=>exact⟨0,_,Qbf _,rfl,rfl,Fx⟩
 case round=>
  obtain⟨j,v1,hj,rfl,rfl,HX⟩:=hrel;by_cases bH:j<m
  .have⟨r,hr⟩:=eG x.aF j (by rw[Bf.o];exact bH);have⟨b,off,cap,hv,hbl,_,hcells⟩:=HR.o j r hr;obtain⟨rfl,rfl⟩:=iY hv;have⟨g0,g1⟩:=hcells wr HX.o.low;have ia:=ag (WO.o j r hr);have bI:=ag (λo=>qep.o wr v1 _ _ r.id o HX.o (by have:=Ue.o j;omega));clear hv hcells hr;go_wp2_with fail;refine(bI.o _).mono ?_;rintro e w1⟨rfl,v2,hst⟩;have HY:=ag hst;clear hst g0 g1;go_wp2;go_roundg(m-(j+1));case measure=>omega
   case rel=>exact⟨j+1,v2,by omega,rfl,by go_num,(show iw _ _ _ _ _ _ from by rw[ia.o];exact HY.o)⟩
  .obtain rfl:j=m:=by omega
   have ui:=ag (show iw w wr (jl (xL la n lc) pm) v1 (Mk.dZ ([],[]) (cE x)).1 (Mk.dZ ([],[]) (cE x)).2 by have:=HX.o;rw[ML.o]at this;exact this);clear HX;go_wp2;go_loopg [10](Mk.pf x.aP.length (Mk.dZ ([],[]) (cE x)).1 (Mk.dZ ([],[]) (cE x)).2)(λgg _ wr=>∃(S wk:List Int)(v1:aA),gg=Mk.pf x.aP.length S wk/\Hd (iw w wr (jl (xL la n lc) pm) v1 S wk/\Mk.nZ (cE x) (de x) S wk));case atStart=>exact⟨_,_,_,rfl,(show _/\_ from⟨ui.o,qeo.o⟩)⟩
   case round=>
    obtain⟨S,wk,v2,rfl,HZ⟩:=hrel;have c5:=one_cell HZ.o.1.b5;rcases List.eq_nil_or_concat wk with rfl|⟨Kd,id,rfl⟩
    .have hop:=HZ.o.1.acc.aq;obtain⟨za,zc,rfl,_⟩:=hop;have c6:=one_cell HZ.o.1.b6;rw[Qcd]at c6;go_wp2;go_ret;exact⟨S,_,rfl,HZ.o.1.set,HZ.o.2.done,HZ.o.1.low⟩
    .rw[List.concat_eq_append]at HZ;have hpp:=HZ.o.1.pop;obtain⟨q,c,hv2,hc,hcell,qbk⟩:=hpp;subst hv2;have hsh:=HZ.o.1.short;have qbl:=HIV.o _ _ _ _ _ HZ.o.1 HZ.o.2;have c6:=one_cell HZ.o.1.b6;have f6:=aj HZ.o.1.b6 0;have Fy:=ag qbk;have hob:=Ua.o id (HZ.o.2.reached id (HZ.o.2.sub id (by simp)));obtain⟨i,o,hid,ho⟩:=hob;subst hid;have qer:Kd.length+1<=500:=by simp at hsh;omega
     have⟨k,hk⟩:=jN (Kd.length);rw[hk]at c6 hcell hc qer;have Fy:=ag (show iw w (wr.setCell ([w,w,w],0) (xL (q,0) k c)) (jl (xL la n lc) pm) (xL (q,0) k c) S Kd by rw[<-hk];exact Fy.o);have Wy:=ag qbl;have Yk:=ag ho;have P9:(0:Int)<=(k:Int):=Qba _;have hiw:IntKind.i64.wrap (((k+1:Nat):Int)-1)=(k:Int):=by rw[show((k+1:Nat):Int)-1=(k:Int)from by omega];exact Qbe _ (by omega)
     have ZY:decide ((0:Int)<((k+1:Nat):Int))=true:=by simp
     have hkc:(k:Int)<=(c:Int):=by omega
     have qgw:k<=c:=by omega
     clear qbk hsh qbl hk ho hc;go_upto_region 12 with fail;have⟨W,hW⟩:=bY (wr.setCell ([w,w,w],0) (xL (q,0) k c));rw[<-hW]at Fy⊢;clear hW f6 c6 c5 hcell;have⟨g0,g1⟩:=ak Fy.o.b0;have⟨b,off,cap,va,vc,hv,hbl,hvs,hcells⟩:=HO.o i o Yk.o;obtain⟨rfl,rfl⟩:=iY hv;have⟨q0,q1,q2,q3⟩:=hcells W Fy.o.low;have pM:=CJ.o i o W Yk.o Fy.o.low;have TG:=ag (Kh.o i o Yk.o W _ _ _ _ _ Fy.o hvs);have qbm:=ag (FM.o i o Yk.o);have kx:i<n:=by have:=(Qad.1 Yk.o).1;have:=HN.o;omega
     have qc4:(0:Int)<=(i:Int):=Qba _;have qgx:(i:Int)<(n:Int):=by omega
     have⟨nl,hnl⟩:=bY (de x o.id);rw[<-hnl]at TG qbm;have HNL:=ag hnl;clear hnl hcells hv hvs hbl Yk;obtain⟨oi,oc,ov,os⟩:=o;dsimp only at*;go_wp2_with fail;refine(TG.o).mono ?_;rintro e w5⟨u5,rfl,hs5,iL⟩;have qes:=hs5;obtain⟨ua,uc,rfl,_⟩:=qes.aq;have vH:=ag (Fy.o.ae iL);have om:=ag (qeq.o w5 _ S Kd nl _ vH.o (by have:=qbm.o;have:=Wy.o.2;omega) hs5);clear hs5 iL pM q0 q1 q2 q3 g0 g1;go_wp2_with fail;refine(om.o).mono ?_;rintro e w6⟨rfl,v',k1,k2⟩;have oy:=ag k1;clear k1 k2;go_wp2_with fail;have CK:=ag (show Mk.nZ (cE x) (de x) (Mk.dZ (S,Kd) nl).1 (Mk.dZ (S,Kd) nl).2 by rw[HNL.o];exact HZ.o.2.step);have qbn:Mk.pf x.aP.length (Mk.dZ (S,Kd) nl).1 (Mk.dZ (S,Kd) nl).2<Mk.pf x.aP.length S (Kd++[oi]):=by
      refine Mk.Ea (R:=de x) (by rw[<-HNL.o]) (HIV.o _ _ _ _ _ oy.o CK.o).1
     go_roundg(Mk.pf x.aP.length (Mk.dZ (S,Kd) nl).1 (Mk.dZ (S,Kd) nl).2);case measure=>rw[List.concat_eq_append];exact qbn
     case rel=>exact⟨_,_,v',rfl,(show _/\_ from⟨oy.o,CK.o⟩)⟩
end
end Go.Proofs.YtepaofffbkfodaaGreatDoor
