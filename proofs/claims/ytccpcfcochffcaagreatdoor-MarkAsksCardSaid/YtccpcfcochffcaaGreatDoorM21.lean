/- A part of MarkAsks's proof; no condition. -/
import Derived.Test.YtccpcfcochffcaaGreatDoorM19
import Derived.Test.YtccpcfcochffcaaGreatDoorM20
import Derived.BigGuardPart
set_option linter.all false
set_option maxHeartbeats 8000000
set_option maxRecDepth 100000
namespace Go.Proofs.YtccpcfcochffcaaGreatDoor
open Tryz
variable{s:aT}{t:TypeId}{c0 c1 c2 c3 a0 a1 a2 a3 v:an}{g i B K:Nat}{W w w':aj}{o:Obj}{M N:aS}{many:Int}{c:az}{x:aB}
section
open Go.RowKit
def PC {x:ax}(h:ed s.data.toList=some x):∃T,l6 s 0 T/\qS T/\(∀t∈T,1<=t.kind/\t.kind<=4)/\T.length<=200/\ji 60 1 T=some (x,[])/\s.size<=200/\XOk x:=by
 unfold ed at h;cases hL:eJ 200 s.data.toList 0 with
 |none=>rw[hL]at h;cases h
 |some T=>
  rw[hL]at h;simp only at h;split at h
  .rename_i e hq;split at h
   .rename_i hc;cases h;obtain⟨h1,h2,h3,h4⟩:=hc;obtain⟨k1,k2,k3⟩:=kp 200 _ 0 T h1 hL;exact⟨T,⟨200,by simpa using hL⟩,k1,k2,by omega,hq,by rw[bh]at h1;exact h1,h2,h3,h4⟩
   .cases h
  .cases h
def BJ(s:aT)(x:ax)(h:ed s.data.toList=some x)(w:aj)(hT:Tb w):xG 237 #[xS s] w (Pt w x):=by
 obtain⟨T,h1,h2,h3,h4,h5,h6,h7⟩:=PC h;exact Mr s x T h6 h1 h2 h3 h4 h5 h7.nodes h7.deep h7.size w hT
def vS {x:ax}(h:ed s.data.toList=some x):(s.toList==[])=false:=by
 rw[ByteArray.toList_eq];cases hq:s.data.toList with
 |nil=>rw[hq,rG]at h;cases h
 |cons a r=>rfl
def gM(s:aT)(h:aE s=true)(hs:s.size<=maxLen)(w:aj):xC 233 #[xS s,xB true] w (cN (xB true) w):=by
 have HR:=af (show xC 185 #[.agg #[xS s,xL none 0 0]] w (cN (xB true) w)by
  have h1:=fW xF (xL none 0 0) w ⟨s,[]⟩ (ab.nil _ _) hs;rw[yQ h]at h1;exact h1);clear h;go_enter func233,ntmps233;go_wp2_with fail;refine cG (HR.o) λw1 aC=> ?_;have HB:=af aC;clear aC;go_wp2;go_ret;exact⟨rfl,HB.o⟩
def iY(w:aj):xC 233 #[xS ⟨#[]⟩,xB false] w (cN (xB true) w):=by
 go_enter func233,ntmps233;go_wp2;go_ret;exact⟨rfl,dK⟩
def dy(b:Bool)(w:aj):xC 234 #[xS ⟨#[]⟩,xB b] w (cN (xB true) w):=by
 go_enter func234,ntmps234;go_wp2;go_ret;exact⟨rfl,dK⟩
def CQ(s:aT)(x:ax)(h:ed s.data.toList=some x)(w:aj)(hT:Tb w):xC 234 #[xS s,xB true] w (cN (xB true) w):=by
 have hz:=vS h;have HP:=af (BJ s x h w hT);obtain⟨xk,xn,xs,xl⟩:=x;clear h hT;go_enter func234,ntmps234;go_wp2_with fail;refine(HP.o).mono ?_;rintro e w1⟨_,rfl,⟨u,rfl,gz⟩,aC⟩;obtain⟨a,cap,rfl,_⟩:=eA gz;have HB:=af aC;clear aC gz;go_wp2;go_ret;exact⟨rfl,HB.o.alloc HB.o.size _⟩
def ZN(k:Int):Array an:=
 if k=1 then#[xB false,xB true,xB false,xB true,xB true,xB false]
 else if k=2\/k=6 then#[xB true,xB false,xB false,xB false,xB false,xB false]
 else if k=3 then#[xB true,xB true,xB false,xB false,xB false,xB false]
 else if k=4 then#[xB true,xB false,xB false,xB true,xB true,xB false]
 else#[xB true,xB true,xB true,xB true,xB true,xB true]
def kK(k:Int)(h:k=1\/k=2\/k=3\/k=4\/k=5\/k=6)(w:aj):xC 232 #[xI k] w (cN (.tuple #[.agg (ZN k),xB true]) w):=by
 rcases h with rfl|rfl|rfl|rfl|rfl|rfl;all_goals
  go_enter func232,ntmps232;go_wp2_with fail;refine Qae (v:= .tuple #[.agg _,xB true]) (by simp[results,results232,go_sem];rfl) rfl ⟨rfl,?_⟩;exact bO
structure ZO(x:aB):Prop where
 sh:nB x
 field:x.kind≠1->aE x.field=true
 name:(x.kind=1\/x.kind=3\/x.kind=5)->aE x.name=true
 more:x.kind=5->aE x.more=true
 type:(x.kind=1\/x.kind=4\/x.kind=5)->aF x.type=true
 expr:x.expr=⟨#[]⟩\/∃e,ed x.expr.data.toList=some e
 other:x.other=⟨#[]⟩\/∃e,ed x.other.data.toList=some e
 s1:x.field.size<=maxLen
 s2:x.name.size<=maxLen
 s3:x.more.size<=maxLen
def mV(a b c d e f:Bool):Obj:=xK #[xB a,xB b,xB c,xB d,xB e,xB f] 325
def fj {c4 c5:Value}(h:W.heap[g]? =some (xK #[c0,c1,c2,c3,c4,c5] t)):
 W.cell? ⟨g,0,none⟩=some c0/\W.cell? ⟨g,1,none⟩=some c1/\W.cell? ⟨g,2,none⟩=some c2/\W.cell? ⟨g,3,none⟩=some c3/\W.cell? ⟨g,4,none⟩=some c4/\W.cell? ⟨g,5,none⟩=some c5:=by simp[World.cell?,h]
def BK(k:Int)(f n m:aT)(tk tf:Int)(e o:aT)(b1 b2 b3 b4 b5 b6:Bool)(w:aj)
 (hn:∀W,xC 232 #[xI k] W (cN (.tuple #[.agg #[xB b1,xB b2,xB b3,xB b4,xB b5,xB b6],xB true]) W))
 (h1:∀W,xC 233 #[xS f,xB b1] W (cN (xB true) W))
 (h2:∀W,xC 233 #[xS n,xB b2] W (cN (xB true) W))
 (h3:∀W,xC 233 #[xS m,xB b3] W (cN (xB true) W))
 (h4:∀W,xC 223 #[.agg #[xI tk,xI tf]] W (cN (xB b4) W))
 (h5:∀W,aq w W->xC 234 #[xS e,xB b5] W (cN (xB true) W))
 (h6:∀W,aq w W->xC 234 #[xS o,xB b6] W (cN (xB true) W))(h0:b4=false->tk=0/\tf=0):
 xC 219 #[.agg #[xI k,xS f,xS n,xS m,xI tk,xI tf,xS e,xS o]] w (cN (xB true) w):=by
 have H1:=af h1;have H2:=af h2;have H3:=af h3;have H4:=af h4;have H5:=af h5;have H6:=af h6;have HN:=af hn;have H0:=af h0;clear h1 h2 h3 h4 h5 h6 hn h0;go_enter func219,ntmps219;go_wp2_with fail;refine cG (HN.o _) λw1 aC=> ?_;have aO:=af (((Bx.dR w (tV ⟨k,f,n,m,⟨tk,tf⟩,e,o⟩)).below aC).alloc (mV b1 b2 b3 b4 b5 b6));have fI:Hd ((w1.alloc (mV b1 b2 b3 b4 b5 b6)).heap[w1.heap.size]? =some (mV b1 b2 b3 b4 b5 b6)):=Qbh w1 _;clear aC;obtain⟨p0,p1,p2,p3,p4,p5,p6,p7⟩:=ak (aO.o.bJ rfl);obtain⟨q0,q1,q2,q3,q4,q5⟩:=fj fI.o;unfold mV at p0 p1 p2 p3 p4 p5 p6 p7 q0 q1 q2 q3 q4 q5;go_wp2_with fail;refine cG (H1.o _) λw2 hb=> ?_;have jT:Hd (dY w2 w1 (mV b1 b2 b3 b4 b5 b6)):=(hb.block _ (Qaa.1 fI.o).1).trans fI.o;have aL:=af (aO.o.below hb);clear hb p0 p1 p2 p3 p4 p5 p6 p7 q0 q1 q2 q3 q4 q5;obtain⟨p0,p1,p2,p3,p4,p5,p6,p7⟩:=ak (aL.o.bJ rfl);obtain⟨q0,q1,q2,q3,q4,q5⟩:=fj jT.o;go_wp2_with fail;refine cG (H2.o _) λw3 hb=> ?_;have Rl:Hd (dY w3 w1 (mV b1 b2 b3 b4 b5 b6)):=(hb.block _ (Qaa.1 jT.o).1).trans jT.o;have bI:=af (aL.o.below hb);clear hb p0 p1 p2 p3 p4 p5 p6 p7 q0 q1 q2 q3 q4 q5;obtain⟨p0,p1,p2,p3,p4,p5,p6,p7⟩:=ak (bI.o.bJ rfl);obtain⟨q0,q1,q2,q3,q4,q5⟩:=fj Rl.o;go_wp2_with fail;refine cG (H3.o _) λw4 hb=> ?_;have Nv:Hd (dY w4 w1 (mV b1 b2 b3 b4 b5 b6)):=(hb.block _ (Qaa.1 Rl.o).1).trans Rl.o;have eH:=af (bI.o.below hb);clear hb p0 p1 p2 p3 p4 p5 p6 p7 q0 q1 q2 q3 q4 q5;obtain⟨p0,p1,p2,p3,p4,p5,p6,p7⟩:=ak (eH.o.bJ rfl);obtain⟨q0,q1,q2,q3,q4,q5⟩:=fj Nv.o;have H00:Hd (b4=false->tk=0/\tf=0):=H0.o;go_upto_region 4 with fail;cases b4
 .obtain⟨rfl,rfl⟩:=H00.o rfl;have H4D:=af (H4.o w4.drew);go_region_law(first
   |(go_simp;go_at_call 223;refine cG (H4D.o) λw5 hb=> ?_;have Ab:Hd (dY w5 w1 (mV b1 b2 b3 false b5 b6)):=(hb.block _ (Qaa.1 Nv.o).1).trans Nv.o;have j7:=af (eH.o.drew.below hb);clear hb;have p4:=(ak (j7.o.bJ rfl)).2.2.2.2.1;have p5:=(ak (j7.o.bJ rfl)).2.2.2.2.2.1;have p6:=(ak (j7.o.bJ rfl)).2.2.2.2.2.2.1;have p7:=(ak (j7.o.bJ rfl)).2.2.2.2.2.2.2;have q3:=(fj Ab.o).2.2.2.1;have q4:=(fj Ab.o).2.2.2.2.1;have q5:=(fj Ab.o).2.2.2.2.2));all_goals
   go_wp2_with fail;refine cG (H5.o _ j7.o.1) λw6 hb=> ?_;have Y8:Hd (dY w6 w1 (mV b1 b2 b3 false b5 b6)):=(hb.block _ (Qaa.1 Ab.o).1).trans Ab.o;have nt:=af (j7.o.below hb);clear hb p4 p5 p6 p7 q3 q4 q5;obtain⟨p0,p1,p2,p3,p4,p5,p6,p7⟩:=ak (nt.o.bJ rfl);obtain⟨q0,q1,q2,q3,q4,q5⟩:=fj Y8.o;go_wp2_with fail;refine cG (H6.o _ nt.o.1) λw7 hb=> ?_;have rB:=af (nt.o.below hb);clear hb;go_wp2;go_ret;exact⟨rfl,rB.o.1⟩
 .go_cut [53](λs53 wx=>s53=xB false/\Hd (Bx w [tV ⟨k,f,n,m,⟨tk,tf⟩,e,o⟩] wx/\dY wx w1 (mV b1 b2 b3 true b5 b6)));case first=>
   first
    |(go_region_law(first
       |(go_simp;go_at_call 223;refine cG (H4.o _) λw5 hb=> ?_;have Ab:Hd (dY w5 w1 (mV b1 b2 b3 true b5 b6)):=(hb.block _ (Qaa.1 Nv.o).1).trans Nv.o;have j7:=af (eH.o.drew.below hb);have p4:=(ak (j7.o.bJ rfl)).2.2.2.2.1;have p5:=(ak (j7.o.bJ rfl)).2.2.2.2.2.1;have q3:=(fj Ab.o).2.2.2.1;clear hb)))
    |fail
   all_goals(go_wp2;go_meet)
   all_goals exact⟨rfl,(show _/\_ from⟨j7.o,Ab.o⟩)⟩
  case rest=>
   obtain⟨rfl,HR⟩:=hcut;obtain⟨w5,TT⟩:=cM (wc);subst TT;have j7:Hd (Bx w [tV ⟨k,f,n,m,⟨tk,tf⟩,e,o⟩] w5):=HR.o.1;have Ab:Hd (dY w5 w1 (mV b1 b2 b3 true b5 b6)):=HR.o.2;clear HR p0 p1 p2 p3 p4 p5 p6 p7 q0 q1 q2 q3 q4 q5;obtain⟨p0,p1,p2,p3,p4,p5,p6,p7⟩:=ak (j7.o.bJ rfl);obtain⟨q0,q1,q2,q3,q4,q5⟩:=fj Ab.o;go_wp2_with fail;refine cG (H5.o _ j7.o.1) λw6 hb=> ?_;have Y8:Hd (dY w6 w1 (mV b1 b2 b3 true b5 b6)):=(hb.block _ (Qaa.1 Ab.o).1).trans Ab.o;have nt:=af (j7.o.below hb);clear hb p0 p1 p2 p3 p4 p5 p6 p7 q0 q1 q2 q3 q4 q5;obtain⟨p0,p1,p2,p3,p4,p5,p6,p7⟩:=ak (nt.o.bJ rfl);obtain⟨q0,q1,q2,q3,q4,q5⟩:=fj Y8.o;go_wp2_with fail;refine cG (H6.o _ nt.o.1) λw7 hb=> ?_;have rB:=af (nt.o.below hb);clear hb;go_wp2;go_ret;exact⟨rfl,rB.o.1⟩
def AE(x:aB)(h:ZO x)(w:aj)(hT:Tb w):
 xC 219 #[.agg #[xI x.kind,xS x.field,xS x.name,xS x.more,xI x.type.kind,xI x.type.of,xS x.expr,xS x.other]] w (cN (xB true) w):=by
 have hk:x.kind=1\/x.kind=2\/x.kind=3\/x.kind=4\/x.kind=5\/x.kind=6:=by have:=h.sh;simp only[nB]at this;omega
 have hF:∀(s:aT),(s=⟨#[]⟩\/∃e,ed s.data.toList=some e)->∀W,aq w W->xC 234 #[xS s,xB true] W (cN (xB true) W):=λs hs W hb=>by
  rcases hs with rfl|⟨e,he⟩
  .exact dy true W
  .exact CQ s e he W (hT.below hb)
 have hR:=λW=>qP x.type W;have oO:=h.sh;obtain⟨k,f,n,m,⟨tk,tf⟩,e,o⟩:=x;have AX:=h.field;have lH:=h.name;have JZ:=h.more;have GZ:=h.type;have s1:=h.s1;have s2:=h.s2;have s3:=h.s3;have hex:=h.expr;have hot:=h.other;dsimp only at*;have t0:aF ⟨0,0⟩=false:=by decide
 simp only[nB,aR.mk.injEq]at oO;rcases oO with⟨rfl,rfl,rfl,rfl⟩|⟨rfl,rfl,rfl,⟨rfl,rfl⟩,rfl,rfl⟩|⟨rfl,rfl,⟨rfl,rfl⟩,rfl,rfl⟩|⟨rfl,rfl,rfl,rfl⟩|rfl|⟨rfl,rfl,rfl,⟨rfl,rfl⟩,rfl,rfl⟩
 .exact BK _ _ _ _ _ _ _ _ false true false true true false w (kK 1 (by simp)) iY (gM _ (lH (by simp)) s2) iY (by rw[GZ (by simp)]at hR;exact hR) (hF _ hex) (λW _=>dy _ W) (by simp)
 .exact BK _ _ _ _ _ _ _ _ true false false false false false w (kK 2 (by simp)) (gM _ (AX (by simp)) s1) iY iY (by rw[t0]at hR;exact hR) (λW _=>dy _ W) (λW _=>dy _ W) (by simp)
 .exact BK _ _ _ _ _ _ _ _ true true false false false false w (kK 3 (by simp)) (gM _ (AX (by simp)) s1) (gM _ (lH (by simp)) s2) iY (by rw[t0]at hR;exact hR) (λW _=>dy _ W) (λW _=>dy _ W) (by simp)
 .exact BK _ _ _ _ _ _ _ _ true false false true true false w (kK 4 (by simp)) (gM _ (AX (by simp)) s1) iY iY (by rw[GZ (by simp)]at hR;exact hR) (hF _ hex) (λW _=>dy _ W) (by simp)
 .exact BK _ _ _ _ _ _ _ _ true true true true true true w (kK 5 (by simp)) (gM _ (AX (by simp)) s1) (gM _ (lH (by simp)) s2) (gM _ (JZ (by simp)) s3) (by rw[GZ (by simp)]at hR;exact hR) (hF _ hex) (hF _ hot) (by simp)
 .exact BK _ _ _ _ _ _ _ _ true false false false false false w (kK 6 (by simp)) (gM _ (AX (by simp)) s1) iY iY (by rw[t0]at hR;exact hR) (λW _=>dy _ W) (λW _=>dy _ W) (by simp)
def atA(h:cI w i o)(x:Obj):(w.alloc x).heap[i]? =some o:=(Array.getElem?_push_lt (Qaa.1 h).1).trans ((Array.getElem?_eq_getElem _).symm.trans h)
def iZ(M:aS)(c:az)(many:Int)(t:aR)(s:aT)(w:aj)(v:an):Prop:=
 ∃gf lb,v= .func (.func gf) #[] lb/\(∀args w,(callFunc gf args).run prog w= .ok (.enter gf args) w)/\
  (aF t=true->∀N:aS,(∀i,M i->N i)->(∀i,N i->M i\/w.heap.size<=i)->∀W,ai N w W->∀vv vs,ab N W vv vs->aW c.fields many vs->Bd N W->Gd W->xC gf (#[vv]++lb) W (bW W λu w'=>∃x,lW c t many s vs x/\bS N w' u x))
theorem ai.down(h:ai N w W)(k:∀i,N i->M i\/w.heap.size<=i):ai M w W:=⟨h.os,h.tape,h.output,h.size,λi hi hM=>h.block i hi λhN=>(k i hN).elim hM (by omega)⟩
def IV(h:Below B w W)(hK:B<=K)(hB:B<=W.heap.size):Below B w (((((W.setCell ⟨K,0,none⟩ a0).setCell ⟨K,1,none⟩ a1).setCell ⟨K,2,none⟩ a2).setCell ⟨K,3,none⟩ a3).alloc o):=by
 exact(da h hK).alloc (by simpa [World.setCell]using hB) o
theorem iZ.only {t:aR}(h:iZ M c many t s w v)(ho:ai M w w'):iZ M c many t s w' v:=by
 obtain⟨gf,lb,h1,h2,h3⟩:=h;exact⟨gf,lb,h1,h2,λht N Rm NY W hW=>h3 ht N Rm (λi hi=>(NY i hi).imp_right λh=>Qcg ho.size h) W ((ho.mono Rm).trans hW)⟩
def IW(t:aR)(ht:aF t=true)(M:aS)(W:aj)(vv:an)(hM:Bd M W)(p:Nat)(hp:cI W p (GK t.kind t.of)):
 xG 235 #[vv,xP p] W λu w'=>bS M w' u (j9 t):=by
 have gO:p<W.heap.size:=(Qaa.1 hp).1;have iG:p≠W.heap.size:=by omega
 obtain⟨p0,p1⟩:=ah hp;obtain⟨⟨yk,yn,ys,yl⟩,hz⟩:∃z,z=j9 t:=⟨_,rfl⟩;have HZ:Hd (∀w,xC 236 #[.agg #[xI t.kind,xI t.of]] w (bW w λv w'=>bS (dP M W 1) w' v (au.mk yk yn ys yl))):=λw=>by rw[hz];exact OM t ht (dP M W 1) w
 rw[<-hz];have bN:=af (Bx.dR W (fZ 0 0 ⟨#[]⟩ (xL none 0 0)));go_enter func235,ntmps235;go_wp2_with fail;refine(HZ.o _).mono ?_;rintro e w1⟨_,rfl,GQ,aC⟩;obtain⟨ua,uc,rfl,Dy⟩:=cQ GQ;have HY:=af Dy;have HY2:Hd (ys.size<=maxLen):=tm GQ;have aO:=af (bN.o.below aC);obtain⟨c0,c1,c2,c3⟩:=ae (aO.o.bJ rfl);obtain⟨f0,f1,f2,f3⟩:=ic (aO.o.bJ rfl);go_wp2_with fail;refine Qae (v:= .agg #[xI yk,xI yn,xS ys,xL ua yl.length uc]) (by simp[results,results235,go_sem,c0,c1,c2,c3]) rfl ⟨_,rfl,⟨_,rfl,kr (HY.o.ev ?_) HY2.o⟩,da aO.o.1 bq⟩;exact((((ep w1).setCell (.inl (.inr ⟨by simp,by simp⟩)) _).setCell (.inl (.inr ⟨by simp,by simp⟩)) _).setCell (.inl (.inr ⟨by simp,by simp⟩)) _).setCell (.inl (.inr ⟨by simp,by simp⟩)) _
def IX(c:az)(hc:cA c)(many:Int)(hm:many<=100000)(e:ax)(t:aR)(hx:XOk e)(ht:lN c e t)(M:aS)(W:aj)(vv fv:an)(vs:List au)(hM:Bd M W)(bR:ab M W fv c.fields)(dt:ab M W vv vs)(hv:aW c.fields many vs)(hg:Gd W)
 (p q:Nat)(k n:Int)(s:aT)(l:List ax)(lv:an)(he:e= .mk k n s l)(hl:ab M W lv l)(hs:s.size<=maxLen)(hp:cI W p (E7 k n s lv))(hq:cI W q (cS c.name fv)):
 xG 239 #[vv,xP p,xP q] W λu w'=>∃x,nG c t many e vs x/\bS M w' u x:=by
 have gO:p<W.heap.size:=(Qaa.1 hp).1;have hql:q<W.heap.size:=(Qaa.1 hq).1;have iG:p≠W.heap.size:=by omega
 have Gn:q≠W.heap.size:=by omega
 obtain⟨p0,p1,p2,p3⟩:=ae hp;obtain⟨q0,q1⟩:=ah hq;have gz:bS M W (.agg #[xI k,xI n,xS s,lv]) e:=⟨_,rfl,by rw[he];exact cC.iff.2 ⟨_,rfl,hl,hs⟩⟩;have HE:Hd (∀w,aq W w->W.heap.size+1<=w.heap.size->_):=λw hb h1=>PB c hc many hm e t hx ht (dP M W 1) w _ fv vv vs (dp hM h1) (gz.ev (cW hb)) (bR.ev (cW hb)) (dt.ev (cW hb)) hv (hg.below hb);have bN:=af (Bx.dR W (fZ 0 0 ⟨#[]⟩ (xL none 0 0)));obtain⟨la,lc,rfl,_⟩:=hl.open_;obtain⟨fa,fc,rfl,_⟩:=bR.open_;obtain⟨va,vc,rfl,_⟩:=dt.open_;go_enter func239,ntmps239;go_wp2_with fail;refine(HE.o _ bO (by simp)).mono ?_;rintro e1 w1⟨_,rfl,⟨_,⟨yk,yn,ys,yl⟩,rfl,Ug,GQ⟩,aC⟩;obtain⟨ua,uc,rfl,Dy⟩:=cQ GQ;have HY:=af Dy;have wY:=af Ug;have HY2:Hd (ys.size<=maxLen):=tm GQ;have aO:=af (bN.o.below aC);have vi:W.heap.size<w1.heap.size:=(Qaa.1 (aO.o.bJ rfl)).1;obtain⟨c0,c1,c2,c3⟩:=ae (aO.o.bJ rfl);obtain⟨f0,f1,f2,f3⟩:=ic (aO.o.bJ rfl);go_wp2_with fail;refine Qae (v:= .agg #[xI yk,xI yn,xS ys,xL ua yl.length uc]) (by simp[results,results239,go_sem,c0,c1,c2,c3,vi]) rfl ⟨_,rfl,⟨_,wY.o,⟨_,rfl,kr (HY.o.ev ?_) HY2.o⟩⟩,IV aO.o.1 bq (by omega)⟩;exact(((((ep w1).setCell (.inl (.inr ⟨by simp,by simp⟩)) _).setCell (.inl (.inr ⟨by simp,by simp⟩)) _).setCell (.inl (.inr ⟨by simp,by simp⟩)) _).setCell (.inl (.inr ⟨by simp,by simp⟩)) _).alloc _
def BL(c:az)(hc:cA c)(many:Int)(hm:many<=100000)(t:aR)(s:aT)(ht:pB c t s)(M:aS)(w:aj)(fv:an)(hM:Bd M w)(bR:ab M w fv c.fields)(hT:Tb w):
 xG 220 #[.agg #[xS c.name,fv],xS s, .agg #[xI t.kind,xI t.of]] w λv w'=>iZ M c many t s w' v:=by
 have DK:∀(fn:Fn)(first cap:Array an)(w:aj),(Instr.makeFunc fn first cap).run prog w= .ok (.func fn first cap) w:=λ_ _ _ _=>rfl;have im:=af bR;have HM:=af hM;rcases ht with hs|⟨x,hx⟩
 .obtain rfl:=ff hs;obtain⟨fa,fc,rfl,_⟩:=bR.open_;have bN:=af (Bx.dh w (cS c.name (xL fa c.fields.length fc)) (GK t.kind t.of));go_enter func220,ntmps220;go_wp2;go_ret;refine⟨_,rfl,⟨235,#[xP (w.heap.size+1)],rfl,enters_of func235 (by kernel_rfl) rfl,λGZ N Rm NY W hW vv vs wX dt hMW hgW=> ?_⟩,bN.o.1⟩;have hp:=hW.at_ (bN.o.cE rfl) (λh=>by
   have hl:=(Qaa.1 (bN.o.cE rfl)).1;rcases NY _ h with h|h
   .have:=HM.o _ h;omega
   .exact absurd h (by simp));refine(IW t GZ N W vv hMW (w.heap.size+1) hp).mono ?_;rintro e w1⟨u,rfl,hu,hb⟩;exact⟨u,rfl,⟨_,OH rfl GZ,hu⟩,hb⟩
 .have hz:=vS hx.parse;have HPT:=af hx;obtain⟨T,h1,h2,h3,h4,h5,h6,h7⟩:=PC hx.parse;have HP:Hd (∀W,aq w W->xC 237 #[xS s] W (bW W (Pt W x))):=λW hb=>BJ s x HPT.o.parse W (hT.below hb);have NX:Hd (∀W v,aq w W->bS M W v x->xC 238 #[v, .agg #[xS c.name,fv]] W λε w'=>ε=xR (.tuple #[.agg #[xI t.kind,xI t.of],xI 0])/\aq W w'):=λW v hb ha=>Fc c hc x t h7 HPT.o.ty M W v fv (HM.o.below hb) ha (im.o.below hb) (hT.below hb);have HX7:=af h7;obtain⟨fa,fc,rfl,_⟩:=bR.open_;have bN:=af (Bx.dh w (cS c.name (xL fa c.fields.length fc)) (GK t.kind t.of));obtain⟨xk,xn,xs,xl⟩:=x;go_enter func220,ntmps220;go_wp2_with fail;refine(HP.o _ bN.o.1).mono ?_;rintro e w1⟨_,rfl,⟨u,rfl,gz⟩,aC⟩;obtain⟨cs,rfl,bU⟩:=gz;obtain⟨av,rfl,bo,j6⟩:=cC.iff.1 bU;obtain⟨xa,xc,rfl,_⟩:=bo.open_;have aO:=af (bN.o.below aC);have eE:Hd (ab M w1 (xL xa xl.length xc) xl):=bo.ev (Ev.eG w1 λi hi=>by
   have h1:=HM.o _ hi;show i<_;simp;omega);have uf:Hd (bS M w1 (.agg #[xI xk,xI xn,xS xs,xL xa xl.length xc]) (ax.mk xk xn xs xl)):=⟨_,rfl,cC.iff.2 ⟨_,rfl,eE.o,j6⟩⟩;have wC:w.heap.size<w1.heap.size:=(Qaa.1 (aO.o.bJ rfl)).1;have vi:w.heap.size+1<w1.heap.size:=(Qaa.1 (aO.o.cE rfl)).1;obtain⟨a0,a1⟩:=ah (aO.o.bJ rfl);go_wp2_with fail;refine cG (NX.o _ _ (aO.o.1.alloc aO.o.1.size _) (uf.o.ev ((Ev.refl _ _).alloc _))) λw2 aY=> ?_;have jT:=af (boxed aY);have aL:=af (aO.o.below (aQ aY));have Rn:=af (eE.o.below (aQ aY));have qeh:=af (im.o.below aL.o.1);obtain⟨b0,b1⟩:=ah (aL.o.cE rfl);have zU:w.heap.size+1<w2.heap.size:=(Qaa.1 (aL.o.cE rfl)).1;go_wp2;go_ret;refine⟨_,rfl,⟨239,#[xP w1.heap.size,xP w.heap.size],rfl,enters_of func239 (by kernel_rfl) rfl,λGZ N Rm NY W hW vv vs wX dt hMW hgW=> ?_⟩,(aL.o.alloc _).1⟩;have rZ:=(Qaa.1 jT.o).1;have hN3:∀i,N i->M i\/w2.heap.size+1<=i:=λi hi=>by simpa using NY i hi
  have hp:=hW.at_ (atA jT.o _) (λh=>by
   rcases hN3 _ h with h|h
   .have:=HM.o _ h;omega
   .omega);have hq:=hW.at_ (atA (aL.o.bJ rfl) _) (λh=>by
   rcases hN3 _ h with h|h
   .have:=HM.o _ h;omega
   .omega);have hWM:=hW.down NY;have hsub:∀i,N i->M i\/w2.heap.size<=i:=λi hi=>(hN3 i hi).imp_right λh=>by omega
  refine(IX c hc many hm _ t HX7.o HPT.o.ty N W vv _ vs hMW (qeh.o.ev ⟨((ai.refl _ _).alloc _).trans hWM,hsub⟩) wX dt hgW _ _ _ _ _ _ _ rfl (Rn.o.ev ⟨((ai.refl _ _).alloc _).trans hWM,hsub⟩) ?_ hp hq).mono ?_
  .exact j6
  .rintro e w3⟨u,rfl,⟨x,hx,hu⟩,hb⟩;exact⟨u,rfl,⟨x,LO HPT.o.parse HPT.o.ty hx,hu⟩,hb⟩
end
section
open Go.RowKit Go.Shelf
def Ts(hc:cA c)(hp:qT c x)(hb:jf c x=true):ZO x:=by
 have hE:∀s:aT,sH c x.type s->s=⟨#[]⟩\/∃e,ed s.data.toList=some e:=λs h=>by
  rcases h with h|⟨e,h,_⟩
  .exact .inl (ff h)
  .exact .inr ⟨e,h⟩
 refine⟨hp.sh,λhk=> ?_,hp.name,hp.more,hp.type,hE _ hp.expr,hE _ hp.other,hp.s1,hp.s2,hp.s3⟩;have hh:hasB c x.field=true:=by
  unfold jf at hb;have oO:=hp.sh;simp only[nB]at oO;rw[if_neg hk]at hb;repeat'(split at hb)
  all_goals simp_all
 exact Eb hc.right hh
end
end Go.Proofs.YtccpcfcochffcaaGreatDoor
