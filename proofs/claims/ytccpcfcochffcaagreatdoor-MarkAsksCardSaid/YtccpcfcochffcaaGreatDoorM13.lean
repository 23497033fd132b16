/- A part of MarkAsks's proof; no condition. -/
import Derived.Test.YtccpcfcochffcaaGreatDoorM11
import Derived.Test.YtccpcfcochffcaaGreatDoorM12
import Derived.LoopIn
import Derived.OwnWalkIn
import Derived.Test.YtccpcfcochffcaaGreatDoorRows
set_option linter.all false
set_option maxHeartbeats 8000000
set_option maxRecDepth 100000
namespace Go.Proofs.YtccpcfcochffcaaGreatDoor
open Go.Proofs.Tryz
variable{i B k:Nat}{v u:an}{w w0 A w2 W w' w3:aj}{M M':aS}{many:Int}{c:az}{cs:List an}{xs:List Int}{e t:TypeId}
section
open Go.RowKit Go.Shelf
attribute [local go_sem]Oper.semAt_some
def iF {l:List Int}(h:ab M w v l){x:Int}(hx:l[i]? =some x):∃b off cap,v=xL (some ⟨b,off,none⟩) l.length cap/\b<w.heap.size/\∀W,aq w W->aU W b (off+i) (xI x):=by
 obtain⟨a,cap,rfl,hl,_,hc⟩:=h.open_;have hk:=(Qad.1 hx).1;obtain⟨b,off,rfl,_,hb,aG⟩:=hc (by omega);obtain⟨cs,rfl,bD⟩:=aG i _ hx;refine⟨b,off,cap,rfl,hb,λW hB=> ?_⟩;have:=(hB.cell (p:=⟨b,off+i*1+0,none⟩) hb).trans (bD 0 _ rfl);simpa using this
def L5(gf:Nat)(lb:Array an)(eg:∀args w,(callFunc gf args).run prog w= .ok (.enter gf args) w)(l:List Int)(M:aS)(v:an)(w:aj)(h:ab M w v l)
 (hf:∀x∈l,∀W,aq w W->xC gf (#[xI x]++lb) W (cN (xB false) W)):
 xC 149 #[v, .func (.func gf) #[] lb] w (cN (xI (-1)) w):=by
 have HC:Hd (∀(i:Nat)(x:Int),l[i]? =some x->_):=λi x hx=>iF h hx;have HN:=af hf;obtain⟨a,bQ,rfl,cK,qE,_⟩:=h.open_;generalize hn:l.length=n at*;have ek:=af hn;go_enter func149,ntmps149;go_wp2;go_loopg [5,8]n(λg _ iv wr=>∃k:Nat,k<=n/\g=n-k/\iv=xI k/\Hd (aq w wr));case atStart=>exact⟨0,Qbf _,rfl,rfl,dK⟩
 case round=>
  obtain⟨i,hi,rfl,rfl,HB⟩:=hrel;by_cases aX:i<n
  .obtain⟨x,hx⟩:=dQ l i (by rw[ek.o];exact aX);obtain⟨b,off,cap,hv,hb,aw⟩:=HC.o i x hx;obtain⟨rfl,rfl⟩:=gY hv;have g0:=aw wr HB.o;have pX:=af (HN.o x (Qaf hx) wr HB.o);go_wp2_with fail;refine pX.o.mono ?_;rintro e w1⟨rfl,aC⟩;have aO:Hd (aq w w1):=HB.o.trans (aC.mono HB.o.size);go_wp2;go_roundg(n-(i+1));case measure=>omega
   case rel=>exact⟨i+1,by omega,rfl,by go_num,aO⟩
  .go_wp2;go_ret;exact⟨rfl,HB.o⟩
def nK(gf:Nat)(lb:Array an)(eg:∀args w,(callFunc gf args).run prog w= .ok (.enter gf args) w)(l:List Int)(M:aS)(v:an)(w:aj)(h:ab M w v l)
 (hf:∀x∈l,∀W,aq w W->xC gf (#[xI x]++lb) W (cN (xB false) W)):
 xC 145 #[v, .func (.func gf) #[] lb] w (cN (xB false) w):=by
 have HI:=af (L5 gf lb eg l M v w h hf);go_enter func145,ntmps145;go_wp2_with fail;refine HI.o.mono ?_;rintro e w1⟨rfl,aC⟩;have HB:=af aC;go_wp2;go_ret;exact⟨rfl,HB.o⟩
def Bt(x:Int)(hx:0<=x)(w:aj):xC 179 #[xI x] w (cN (xB false) w):=by
 have h0:decide (x<0)=false:=by simp;omega
 go_enter func179,ntmps179;go_wp2;go_ret;exact⟨by first|rfl|simp[h0],dK⟩
def OQ {t:aR}{v:au}(h:db t many v)(hm:many<=100000)(hM:Bd M w)(hu:bS M w u v)(hT:Tb w):
 xC 138 #[u] w (cN (xB false) w):=by
 have HR:=fV (w:=w) (λW hb=>Eo h hm (hM.below hb) (hu.below hb) (hT.below hb));have HW:=fV (w:=w) (λW hb=>Br h hm (hM.below hb) (hu.below hb) (hT.below hb));have eg:∀args w,(callFunc 179 args).run prog w= .ok (.enter 179 args) w:=enters_of func179 (by kernel_rfl) rfl;have n3:=nF h (j:=3) (.inl rfl);have n4:=nF h (j:=4) (.inr rfl);have HC3:Hd (∀W r,ab M W r (bw 3 v)->_):=λW r hs=>nK 179 #[] eg _ M r W hs λx hx W' _=>Bt x (by have:=(n3 x hx).1;omega) W';have GS:Hd (∀W r,ab M W r (bw 4 v)->_):=λW r hs=>nK 179 #[] eg _ M r W hs λx hx W' _=>Bt x (by have:=(n4 x hx).1;omega) W';obtain⟨k,n,s,l⟩:=v;obtain⟨a,cap,rfl,_⟩:=cQ hu;go_enter func138,ntmps138;go_wp2_with fail;refine(HR.o _ bO).mono ?_;rintro e w1⟨r1,rfl,dB,aC⟩;obtain⟨x1,y1,rfl,_⟩:=dB.open_;have fI:=af (boxed aC);have aO:=af (aQ aC);have rC:=af dB;go_wp2_with fail;refine cG (HC3.o _ _ rC.o) λw2 aY=> ?_;have jT:Hd (w2.heap[w.heap.size]? =_):=(aY.block _ (Qaa.1 fI.o).1).trans fI.o;have aL:Hd (aq w w2):=aO.o.trans (aY.mono aO.o.size);obtain⟨c0,c1,c2,c3⟩:=ae jT.o;go_wp2_with fail;refine(HW.o _ aL.o).mono ?_;rintro e w3⟨r2,rfl,rS,bG⟩;obtain⟨x2,y2,rfl,_⟩:=rS.open_;have bI:Hd (aq w w3):=aL.o.trans (bG.mono aL.o.size);have iq:=af rS;go_wp2_with fail;refine cG (GS.o _ _ iq.o) λw4 dT=> ?_;have eH:Hd (aq w w4):=bI.o.trans (dT.mono bI.o.size);go_wp2;go_ret;exact⟨by first|rfl|simp,eH.o⟩
end
section
open Go.RowKit Go.Shelf
attribute [local go_sem]Oper.semAt_some
def Kw(a:dC)(n c:Nat)(w:aj):xC 88 #[xL a n c] w λe w'=>e=xR (.func (.func 140) #[] #[xP w.heap.size])/\w.alloc (xK #[xL a n c] 28)=w':=by
 have DK:∀(fn:Fn)(first cap:Array an)(w:aj),(Instr.makeFunc fn first cap).run prog w= .ok (.func fn first cap) w:=λ_ _ _ _=>rfl;go_enter func88,ntmps88;go_wp2;go_ret;exact⟨rfl,rfl⟩
def CE(M:aS)(w0:aj):Nat->Prop:=λi=>M i\/w0.heap.size<=i
def SV(hb:aq w0 A):Ev M w0 (CE M w0) A:=⟨ai.ao hb,λ_ hi=>hi⟩
def yN(vs:List au)(N:aS)(i:Nat)(args:Array an)(j:Nat)(A:aj):Prop:=j=i+1/\∃v u,vs[i]? =some v/\args= #[u]/\bS N A u v
def Ez(vs:List au)(M C:aS)(p:Nat)(w0 w:aj)(hw:aq w0 w)(vv:an)(dt:ab M w0 vv vs)(hp:cI w p (xK #[vv] 28))(hC:∀i,C i->w0.heap.size<=i):
 L3 prog 140 #[xP p] w C 0 0 (yN vs (CE M w0)) (λi=>i=vs.length):=by
 intro J Jx W hz hb hJ Xl hY h0;have HJ:=af hJ;have HJX:=af Xl;have HY:=af hY;have Gv:=hw.size;have gO:p<w.heap.size:=(Qaa.1 hp).1;have hp0:aU W p 0 vv:=one_cell ((hb.block p gO).trans hp);have iA:Hd (aq w0 W/\w.heap.size+2<=W.heap.size):=⟨hw.trans (hb.mono Gv),by omega⟩;have HC:Hd (∀(i:Nat)(k n:Int)(s:aT)(ll:List au),vs[i]? =some (.mk k n s ll)->_):=λi k n s ll hx=>dZ dt hx;have HH0:=af h0;obtain⟨a,bQ,rfl,cK,qE,_⟩:=dt.open_;generalize hn:vs.length=n at*;have ek:=af hn;refine callsIn_of_wp func140 rfl trivial ?_ rfl;simp only[ntmps140,List.size_toArray,Qcc,Qcd,Nat.reduceAdd,Nat.reduceSub,Array.replicate_succ,Array.replicate_zero,List.push_toArray,List.append_toArray,List.nil_append,List.cons_append];gi_wp2_with fail;gi_loopw [4,7](λ_ k wr=>∃i:Nat,k=xI i/\i<=n/\Hd (J i wr)/\Hd (aq w0 wr/\w.heap.size+2<=wr.heap.size))(λ_ k _=>n-(intOf k).toNat);case atStart=>exact⟨0,rfl,Qbf _,HH0,iA⟩
 case round=>
  obtain⟨i,rfl,hi,Vc,HB⟩:=hrel;by_cases aX:i<n
  .obtain⟨⟨xk,xn,xs,xl⟩,hx⟩:=dQ vs i (by rw[ek.o];exact aX);obtain⟨b,off,cap,a',c',hv,cw,bo,j6,aw⟩:=HC.o i xk xn xs xl hx;obtain⟨rfl,rfl⟩:=gY hv;obtain⟨⟨g0,g1,g2,g3⟩,_⟩:=aw wr HB.o.1;have HX:=af hx;have eE:=af bo;have wB:=af j6;have HO:∀o,Hd (aq wr (wr.alloc o)):=λo=>(dK.alloc bq o);have hyy:=HY.o i #[.agg #[xI xk,xI xn,xS xs,xL a' xl.length c']] (i+1) (wr.alloc (fZ xk xn xs (xL a' xl.length c'))) (HJ.o i wr _ Vc.o (ai.ao (HO _).o)) ⟨rfl,_,_,HX.o,rfl,_,rfl,kr (eE.o.ev (SV (HB.o.1.trans ((HO _).o.mono HB.o.1.size)))) wB.o⟩;unfold fZ at hyy;obtain⟨fn,tmps,assign,body,hy,hR⟩:=hyy;have HR:=af hR;gi_wp2_with fail;refine⟨rfl,HR.o.mono ?_⟩;rintro e W3(⟨rfl,Xm,DL⟩|⟨rfl,JT⟩)
   .have YY:=af Xm;have bI:Hd (aq w0 W3/\w.heap.size+2<=W3.heap.size):=⟨Ey (HB.o.1.trans ((HO _).o.mono HB.o.1.size)) DL hC Gv,by have:=DL.size;have:=HB.o.2;simp at*;omega⟩;gi_wp2_with fail;go_roundw;case rel=>exact⟨i+1,by go_num,by omega,YY,bI⟩
    case measure=>simp[intOf];omega
   .have Ra:=af JT;gi_wp2_with fail;refine Qae (results_none rfl _ _ _) rfl ?_;exact⟨⟨_,rfl⟩, .inr Ra.o⟩
  .obtain rfl:i=n:=by omega
   gi_wp2_with fail;refine bodyPost_end (results_none rfl _ _ _) rfl ?_;exact⟨⟨_,rfl⟩, .inl ⟨i,rfl,Vc.o⟩⟩
end
section
open Go.RowKit Go.Shelf
theorem Bx.only {B:aj}{os:List Obj}{S:aS}(h:Bx w os A)(ho:ai S A B)(hS:∀i,S i->w.heap.size+os.length<=i):Bx w os B:=by
 obtain⟨h1,h2,h3⟩:=h;refine⟨⟨ho.os.trans h1.os,ho.tape.trans h1.tape,ho.output.trans h1.output,Qcg h1.size ho.size,λi hi=>(ho.block i (by omega) (λhs=>by have:=hS i hs;omega)).trans (h1.block i hi)⟩,Qcg h2 ho.size,λi o hi=> ?_⟩;have hl:=(Qad.1 hi).1;exact ho.at_ (h3 i o hi) (λhs=>by have:=hS _ hs;omega)
def cX {S:aS}(h:Below B w w2)(hB:B<=w2.heap.size)(k:ai S w2 W)(hS:∀i,S i->B<=i):Below B w W:=
 ⟨k.os.trans h.os,k.tape.trans h.tape,k.output.trans h.output,Qcg h.size k.size,λi hi=>(k.block i (by omega) (λhs=>by have:=hS i hs;omega)).trans (h.block i hi)⟩
def NG(b:Bool):Obj:=xK #[xB b] 4
def eY(x:bH)(vv:an):Obj:=xK #[xI x.id,xI x.cls,xI x.ver,vv] 65
def GI(vv:an):Obj:=xK #[vv] 28
structure SW(many:Int)(x:bH):Prop where
 id1:1<=x.id
 id2:x.id<=100000
 c1:0<=x.cls
 c2:x.cls<8
 v1:0<=x.ver
 v2:x.ver<=12
 aJ:∃fs,aW fs many x.aJ
 len:x.aJ.length<=8
def OR(x:bH)(many:Int)(hm:many<=100000)(hx:SW many x)(M:aS)(w:aj)(hM:Bd M w)(vv:an)(dt:ab M w vv x.aJ)(hT:Tb w):
 xC 85 #[.agg #[xI x.id,xI x.cls,xI x.ver,vv]] w (cN (xB true) w):=by
 have T7:Hd (∀p W,aq w W->cI W p (GI vv)->L3 prog 140 #[xP p] W xF 0 0 (yN x.aJ (CE M w)) (λi=>i=x.aJ.length)):=λp W h1 h2=>Ez x.aJ M xF p w W h1 vv dt h2 (λ_ h=>h.elim);obtain⟨fs,bR⟩:=hx.aJ;have HR:Hd (∀W(i:Nat)v u N,x.aJ[i]? =some v->aq w W->bS N W u v->_):=λW i v u N hi hb hu=>by
  obtain⟨f,_,hf⟩:=dw bR v (Qaf hi);exact yJ hf hm hu (hT.below hb)
 have NP:Hd (∀W(i:Nat)v u,x.aJ[i]? =some v->aq w W->bS M W u v->_):=λW i v u hi hb hu=>by
  obtain⟨f,_,hf⟩:=dw bR v (Qaf hi);exact OQ hf hm (hM.below hb) hu (hT.below hb)
 have e1:=hx.id1;have e2:=hx.id2;have e3:=hx.c1;have e4:=hx.c2;have e5:=hx.v1;have e6:=hx.v2;have e7:=hx.len;obtain⟨xi,xc,xv,xs⟩:=x;dsimp only at*;obtain⟨a,bQ,rfl,cK,qE,_⟩:=dt.open_;generalize hn:xs.length=n at*;have ek:=af hn;clear hn;have e8:(n:Int)<=8:=by omega
 clear dt bR hx hM hT;refine callsIn_wide.1 (callsIn_of_wp_marks (n:=0) func85 rfl trivial (wpIn_wide.2 ?_) rfl);simp only[ntmps85,List.size_toArray,Qcc,Qcd,Nat.reduceAdd,Nat.reduceSub,Array.replicate_succ,Array.replicate_zero,List.push_toArray,List.append_toArray,List.nil_append,List.cons_append];go_wp2_with fail;refine wp_scope_straight ?_;go_wp2_with fail;refine wp_label ?_;simp only[Exit.then];go_wp2_with fail;refine dJ (Kw _ _ _ _) ?_;go_wp2_with fail;obtain⟨w2,oo⟩:=cM (((w.alloc (eY ⟨xi,xc,xv,xs⟩ (xL a n bQ))).alloc (NG true)).alloc (GI (xL a n bQ)));have aL:=af (show Bx w [eY ⟨xi,xc,xv,xs⟩ (xL a n bQ),NG true,GI (xL a n bQ)] w2 by rw[oo];exact Bx.gI w _ _ _);have dA:w2.heap.size=w.heap.size+3:=by rw[oo];simp
 unfold eY NG GI at oo;rw[<-oo];clear oo;have Ah:=af (T7.o _ w2 aL.o.1 (aL.o.gy rfl));refine wpIn_wide.1 (uM rfl (enters_of func140 (by kernel_rfl) rfl) xF 0 0 (yN xs (CE M w)) (λi=>i=n) Ah.o (λi args i' W h=>by obtain⟨_,v,u,_,rfl,_⟩:=h;rfl) (λi hi=>hi.elim)
  (λ_ W=>Bx w [eY ⟨xi,xc,xv,xs⟩ (xL a n bQ),NG true,GI (xL a n bQ)] W) (λ_ _=>False) (λi A B h ho=>h.only ho (λj hj=>by have:=hj.1;simp;omega)) (λc A B h _=>h) (aL.o) ?hround ?hdone ?hstop);case hstop=>intro c W h;exact h.elim
 case hround=>
  intro l i args i' W hI No hsz;obtain⟨rfl,v,u,hv,rfl,hu⟩:=No;have HI:=af hI;have HV:=af hv;have HU:=af hu;obtain⟨vk,vn,vs,vl⟩:=v;obtain⟨va,vc,rfl,_⟩:=cQ hu;clear hI hv hu;gi_wp2_with(rw[Oper.semAt_eq _ _ _ (λc h=>by cases h)];go_simp;try go_bits);refine⟨(ai.refl _ W).alloc _,λW2 iM NN=> ?_⟩;have oP:Hd (ai (CE M w) W W2):=((ai.refl _ W).alloc _).trans (iM.mono λj hj=> .inr (by have:j=w2.heap.size+1:=hj;omega));have oQ:Hd (Bx w [eY ⟨xi,xc,xv,xs⟩ (xL a n bQ),NG true,GI (xL a n bQ)] W2):=(HI.o.alloc _).only iM (λj hj=>by have:j=w2.heap.size+1:=hj;simp;omega);have HU2:Hd (bS (CE M w) W2 (.agg #[xI vk,xI vn,xS vs,xL va vl.length vc]) (au.mk vk vn vs vl)):=HU.o.ev ⟨oP.o,λj hj=> .inl hj⟩;have Rb:=iM.at_ (Qbh W (fZ vk vn vs (xL va vl.length vc))) (by show¬W.heap.size=w2.heap.size+1;omega);obtain⟨q0,q1,q2,q3⟩:=ae Rb;have HPC:=af Rb;clear Rb iM oP;gi_wp2_with(rw[Oper.semAt_eq _ _ _ (λc h=>by cases h)];go_simp;try go_bits);refine⟨trivial,rfl,(CallsIn.inRound l (callsIn_wide.2 (HR.o W2 i _ _ _ HV.o oQ.o.1 HU2.o))).mono ?_⟩;rintro e w3⟨rfl,bG⟩;have vo:=af (oQ.o.below bG);have HU3:=af (HU2.o.below bG);have mC:=af (ai.ao (S:=NF xF w2 0) bG);have xJ:=bG.size;obtain⟨p0,p1,p2,p3⟩:=ae ((bG.block _ (Qaa.1 HPC.o).1).trans HPC.o);have JS:=af (NP.o w3 i _ _ HV.o vo.o.1 (HU3.o.ev (Ev.eG w3 λj hj=> .inl hj)));clear bG q0 q1 q2 q3;gi_wp2_with(rw[Oper.semAt_eq _ _ _ (λc h=>by cases h)];go_simp;try go_bits);refine⟨trivial,rfl,(CallsIn.inRound l (callsIn_wide.2 JS.o)).mono ?_⟩;rintro e w4⟨rfl,dT⟩;have HI4:=af (vo.o.below dT);have A0:=af (mC.o.trans (ai.ao dT));clear dT;gi_wp2_with(rw[Oper.semAt_eq _ _ _ (λc h=>by cases h)];go_simp;try go_bits);exact⟨A0.o,HI4.o⟩
 case hdone=>
  intro i W hE hI hD;have HI:=af hI;have HD:=af hD;clear hI hD;have b0:DD W w 0 (xB true):=one_cell (HI.o.cE rfl);go_wp2_with fail;rw[Exit.noGoto_ret];refine⟨by simp, .inl ⟨_,_,rfl,run_takeDeferred HD.o,?_⟩⟩;refine⟨xB true,by simp[results,results85,go_sem],rfl,?_⟩;exact cX HI.o.1 HI.o.1.size ((ai.refl (λj=>j=w2.heap.size) W).putObj (.inl rfl) _) (λj hj=>by have:j=w2.heap.size:=hj;omega)
end
section
open Go.RowKit
def EA(h:aM c=true):∀f∈c.fields,aF f.type=true:=by
 intro f hf;obtain⟨j,hj⟩:=List.getElem?_of_mem hf;have:=((bc c).1 h).2.2 j f (Qad.1 hj).1 hj;simp only[bC,Qce]at this;exact this.1.1.2
def uN(x:jE)(vv:an):Obj:=xK #[xI x.cls,xI x.ver,vv,xI x.skip] 68
def EB(ls:List aK)(h:eI ls)(h1:0<ls.length)(x:jE)(hx:I6 x.cls/\I6 x.ver/\∀y∈x.aJ,I6 y)(id many:Int)(Ac:many<=1000)(M:aS)(w:aj)(hM:Bd M w)(lv vv:an)(hs:ab M w lv ls)(hv:ab (α:=Int) M w vv x.aJ):
 xG 20 #[.agg #[lv],xI id, .agg #[xI x.cls,xI x.ver,vv,xI x.skip],xI many] w λu w'=>∃(k v:Nat)(l:aK)(vs:List au)(uv:an),u= .agg #[xI id,xI (k:Int),xI (v:Int),uv]/\pH ls many ⟨id,(k:Int),(v:Int),vs⟩ k v l/\ab M w' uv vs:=by
 have h4:=h.len;have hk:=cq x.cls ls.length h1;obtain⟨l,hl⟩:=dQ ls (aH x.cls ls.length) hk;have ug:=h.lines l (Qaf hl);have hc5:=ug.len;have hvr:=cq x.ver (l.changes.length+1) (by omega);have Np:Hd (∀W,xC 23 #[xI x.cls,xI (ls.length:Int)] W (gE (xI (aH x.cls ls.length:Int)) W)):=λW=>by
  have h:=kT x.cls (ls.length:Int) W hx.1 (by omega) (by omega);simpa using h
 have GP:Hd (∀W,xC 23 #[xI x.ver,xI ((l.changes.length:Int)+1)] W (gE (xI (aH x.ver (l.changes.length+1):Int)) W)):=λW=>by
  have h:=kT x.ver ((l.changes.length:Int)+1) W hx.2.1 (by omega) (by omega);rw[show((l.changes.length:Int)+1).toNat=l.changes.length+1 from by omega]at h;exact h
 have Ap:Hd (∀W,aq w W->w.heap.size+4<=W.heap.size->_):=λW hb hz=>SS ls h (dP M w 4) W (dp hM hz) lv (hs.ev (cW hb)) (aH x.cls ls.length) l hl (aH x.ver (l.changes.length+1)) (by omega) (aI l (aH x.ver (l.changes.length+1))) (ug.at_ _);have oS:=ug.oF (aH x.ver (l.changes.length+1));have hri:=(bc _).1 oS.right;have HVA:Hd (∀W fv,aq w W->w.heap.size+4<=W.heap.size->ab (dP M w 4) W fv (aI l (aH x.ver (l.changes.length+1))).fields->_):=λW fv hb hz hf=>by
  have hh:=Hl (dP M w 4) W (dp hM hz) (aI l (aH x.ver (l.changes.length+1))) fv vv x.aJ many hf (hv.ev (cW hb)) hx.2.2 hri.2.1 (EA oS.right) Ac;rw[ug.name]at hh;exact hh
 have HLC:=af (eC hs hl);have GW:=af hl;obtain⟨la,lc,rfl,AW,_⟩:=hs.open_;obtain⟨va,vc,rfl,_⟩:=hv.open_;clear hs hv hM hx h ug oS hri hl;generalize aH x.cls ls.length=k at*;generalize aH x.ver (l.changes.length+1)=v at*;obtain⟨xc,xv,xs,xk⟩:=x;dsimp only at*;have bN:=af (Bx.gI w (fK (xL la ls.length lc)) (uN ⟨xc,xv,xs,xk⟩ (xL va xs.length vc)) (eY ⟨0,0,0,[]⟩ (xL none 0 0)));go_enter func20,ntmps20;go_wp2_with fail;refine dJ (Np.o _) ?_;go_upto_region 2 with fail;obtain⟨W2,fT⟩:=cM ((((w.alloc (fK (xL la ls.length lc))).alloc (uN ⟨xc,xv,xs,xk⟩ (xL va xs.length vc))).alloc (eY ⟨0,0,0,[]⟩ (xL none 0 0))).alloc (eY ⟨id,(k:Int),0,[]⟩ (xL none 0 0)));have aL:=af (show Bx w [fK (xL la ls.length lc),uN ⟨xc,xv,xs,xk⟩ (xL va xs.length vc),eY ⟨0,0,0,[]⟩ (xL none 0 0),eY ⟨id,(k:Int),0,[]⟩ (xL none 0 0)] W2 by rw[fT];exact Bx.Oy w _ _ _ _);unfold fK uN eY at fT;rw[<-fT];clear fT;obtain⟨b,off,cap,fa,fc,ca,cc,JU,qdu,wU,iB,lH,aw⟩:=HLC.o;obtain⟨rfl,rfl⟩:=gY JU;obtain⟨q0,q1,q2⟩:=aw W2 aL.o.1;have y0:=one_cell (aL.o.bJ rfl);obtain⟨x0,x1,x2,x3⟩:=ae (aL.o.cE rfl);obtain⟨o0,o1,o2,o3⟩:=ae (aL.o.Ay rfl);have f2:=ag (aL.o.Ay rfl) 2;have i0:(0:Int)<=(k:Int):=Qba _;have i1:(k:Int)<(ls.length:Int):=by omega
 have i3:IntKind.i64.wrap ((l.changes.length:Int)+1)=(l.changes.length:Int)+1:=Qbe _ (by omega);clear JU wU iB aw;go_cut [](λwx=>Hd (Bx w [fK (xL (some ⟨b,off,none⟩) ls.length lc),uN ⟨xc,xv,xs,xk⟩ (xL va xs.length vc),eY ⟨0,0,0,[]⟩ (xL none 0 0),eY ⟨id,(k:Int),(v:Int),[]⟩ (xL none 0 0)] wx));case first=>
  go_region_law(first
   |(go_simp;go_at_call 23;refine dJ (GP.o _) ?_));all_goals(go_wp2;go_meet)
  all_goals exact(show Bx _ _ _ from by first
   |simpa [eY]using aL.o.drew.set 3 2 rfl (xI (v:Int))
   |simpa [eY]using(aL.o.set 3 2 rfl (xI (v:Int))).drew)
 case rest=>
  have bI:=hcut;clear q0 q1 q2 y0 x0 x1 x2 x3 o0 o1 o2 o3 f2;obtain⟨W3,lK⟩:=cM (wc);subst lK;have y0:=one_cell (bI.o.bJ rfl);obtain⟨o0,o1,o2,o3⟩:=ae (bI.o.Ay rfl);go_wp2_with fail;refine(Ap.o _ bI.o.1 (by have:=bI.o.bY;exact this)).mono ?_;rintro e w4⟨_,rfl,⟨fv,rfl,hf⟩,dT⟩;have hf':=hf;obtain⟨ga,gc,rfl,_⟩:=hf'.open_;have eH:=af (bI.o.below dT);have HF4:=af hf;clear hf dT y0 o0 o1 o2 o3;have h3:=λo=>ae ((eH.o.alloc o).Ay rfl);have g3:=λo=>ag ((eH.o.alloc o).Ay rfl) 3;have x3:=λo=>ae ((eH.o.alloc o).cE rfl);go_upto_region 4 with fail;obtain⟨W4,lR⟩:=cM (w4.alloc (cS l.first.name (xL ga (aI l v).fields.length gc)));have j7:=af (show Bx w [fK (xL (some ⟨b,off,none⟩) ls.length lc),uN ⟨xc,xv,xs,xk⟩ (xL va xs.length vc),eY ⟨0,0,0,[]⟩ (xL none 0 0),eY ⟨id,(k:Int),(v:Int),[]⟩ (xL none 0 0)] W4 by rw[lR];exact eH.o.alloc _);have Xn:=af (show dY W4 w4 (cS l.first.name (xL ga (aI l v).fields.length gc))by rw[lR];exact Qbh w4 _);have HF5:=af (show ab (dP M w 4) W4 (xL ga (aI l v).fields.length gc) (aI l v).fields by rw[lR];exact HF4.o.below bO);unfold cS at lR;rw[<-lR];clear lR h3 g3 x3;obtain⟨c0,c1⟩:=ah Xn.o;obtain⟨x0,x1,x2,x3⟩:=ae (j7.o.cE rfl);go_wp2_with fail;refine(HVA.o _ _ j7.o.1 (by have:=j7.o.bY;exact this) HF5.o).mono ?_;rintro e w6⟨_,rfl,⟨vs,DO,bo⟩,sj⟩;have Dt:=bo;obtain⟨ua,uc,rfl,_⟩:=Dt.open_;have nt:=af (j7.o.below sj);have Gw:=af bo;have NT:=af DO;clear bo sj DO c0 c1 x0 x1 x2 x3;obtain⟨o0,o1,o2,o3⟩:=ae (nt.o.Ay rfl);have f3:=ag (nt.o.Ay rfl) 3;obtain⟨r0,r1,r2,r3⟩:=ae (nt.o.gy rfl);obtain⟨f20,f21,f22,f23⟩:=ic (nt.o.gy rfl);have mA:Hd (∀W',W'=((((w6.setCell ⟨w.heap.size+1+1+1,3,none⟩ (xL ua vs.length uc)).setCell ⟨w.heap.size+1+1,0,none⟩ (xI id)).setCell ⟨w.heap.size+1+1,1,none⟩ (xI (k:Int))).setCell ⟨w.heap.size+1+1,2,none⟩ (xI (v:Int))).setCell ⟨w.heap.size+1+1,3,none⟩ (xL ua vs.length uc)->(∃(k2 v2:Nat)(l2:aK)(vs2:List au)(uv:an),Value.agg #[xI id,xI (k:Int),xI (v:Int),xL ua vs.length uc]= .agg #[xI id,xI (k2:Int),xI (v2:Int),uv]/\pH ls many ⟨id,(k2:Int),(v2:Int),vs2⟩ k2 v2 l2/\ab M W' uv vs2)/\aq w W'):=λW' iL=>by
   have E:Ev (dP M w 4) w6 M W':=by
    rw[iL];exact(((((Ev.eG w6 λi hi=> .inl hi).setCell (.inl (.inr ⟨by simp;omega,by simp⟩)) _).setCell (.inl (.inr ⟨by simp;omega,by simp⟩)) _).setCell (.inl (.inr ⟨by simp;omega,by simp⟩)) _).setCell (.inl (.inr ⟨by simp;omega,by simp⟩)) _).setCell (.inl (.inr ⟨by simp;omega,by simp⟩)) _
   refine⟨⟨k,v,l,vs,_,rfl,⟨rfl,rfl,GW.o,by omega,NT.o⟩,Gw.o.ev E⟩,?_⟩;rw[iL];exact((((nt.o.1.setCell (by simp;omega) _).setCell (by simp;omega) _).setCell (by simp;omega) _).setCell (by simp;omega) _).setCell (by simp;omega) _
  go_wp2_with fail;exact Qae (v:= .agg #[xI id,xI (k:Int),xI (v:Int),xL ua vs.length uc]) (by simp[results,results20,go_sem,r0,r1,r2,r3,f20,f21,f22,f23]) rfl ⟨_,rfl,mA.o _ rfl⟩
end
section
open Go.RowKit Go.Shelf
def kI {t:aR}{v:au}(h:db t many v)(k:Int):(bw k v).length<=12:=by
 unfold bw;split
 .simp
 .rw[Qdc];refine Qcg (List.length_filter_le _ _) ?_;rcases h with⟨_,l,rfl,hl,_⟩|⟨_,h1⟩
  .exact hl
  .rcases h1 with⟨_,n,rfl,_⟩|⟨_,s,rfl,_⟩|⟨_,rfl|⟨n,rfl,_⟩⟩<;>simp[au.list]
def RQ(v:an):Obj:=xK #[v] 27
structure yO(jj:Int)(w w2:aj)(vs:List au)(i:Nat)(lv:an)(W:aj):Prop where
 blk:W.heap[w.heap.size+1]? =some (RQ lv)
 acc:aP (α:=Int) xF (w2.heap.size+2) 3 W lv ((vs.take i).flatMap (bw jj))
 below:aq w W
 len:((vs.take i).flatMap (bw jj)).length<=12*i
def xj {w:aj}{x:Int}(h:aA.rep M w cs x):aA.rep M' w' cs x:=h
section
variable {jj:Int}{w w2 W A B:aj}{vs:List au}{i:Nat}{lv:an}{S:aS}
theorem yO.only(h:yO jj w w2 vs i lv A)(ho:ai S A B)(hS:∀j,S j->w.heap.size+2<=j/\j<w2.heap.size+2):yO jj w w2 vs i lv B:=
 ⟨ho.at_ h.blk (λh=>by have:=(hS _ h).1;omega),h.acc.uj ho (λj hj=>(hS j hj).2) xj,cX h.below h.below.size ho (λj hj=>by have:=(hS j hj).1;omega),h.len⟩
theorem yO.later(h:yO jj w w2 vs i lv A)(hb:aq A B):yO jj w w2 vs i lv B:=
 ⟨(hb.block _ (Qaa.1 h.blk).1).trans h.blk,h.acc.below hb,h.below.trans (hb.mono h.below.size),h.len⟩
theorem yO.next(h:yO jj w w2 vs i lv A)(hw:w.heap.size+1<w2.heap.size){v:au}{t:aR}(hv:vs[i]? =some v)(ho:db t many v){l2:an}(hacc:aP (α:=Int) xF (w2.heap.size+2) 3 B l2 ((vs.take i).flatMap (bw jj)++bw jj v))(hb:Below (w2.heap.size+2) A B)(hA:w2.heap.size+2<=A.heap.size):
 yO jj w w2 vs (i+1) l2 (B.setCell ⟨w.heap.size+1,0,none⟩ l2)/\ai (NF (λj=>j=w.heap.size+1) w2 0) A (B.setCell ⟨w.heap.size+1,0,none⟩ l2):=by
 have e:(vs.take (i+1)).flatMap (bw jj)=(vs.take i).flatMap (bw jj)++bw jj v:=by rw[Qbb,hv,List.flatMap_append];simp
 have lJ:=(hb.block (w.heap.size+1) (by omega)).trans h.blk;have o1:ai (λj=>j=w.heap.size+1) B (B.setCell ⟨w.heap.size+1,0,none⟩ l2):=(ai.refl (λj=>j=w.heap.size+1) B).setCell (p:=⟨w.heap.size+1,0,none⟩) (.inl rfl) _;refine⟨⟨?_,?_,?_,?_⟩,?_⟩
 .have:=Qca B (w.heap.size+1) 0 _ _ l2 lJ;simpa [RQ]using this
 .rw[e];exact hacc.uj o1 (λj hj=>by have:j=w.heap.size+1:=hj;omega) xj
 .exact(h.below.trans (hb.mono (by omega))).setCell (by show w.heap.size<=w.heap.size+1;omega) _
 .have:=h.len;have:=kI ho jj;rw[e,Qda];omega
 .refine ai.trans ?_ (o1.mono λj hj=> .inl hj);exact⟨hb.os,hb.tape,hb.output,hb.size,λj hj hS=>hb.block j (Classical.byContradiction λhc=>hS (.inr (by omega)))⟩
end
def Kx(jj:Int)(f:Nat)(hjf:(jj=3/\f=48)\/(jj=4/\f=98))(x:bH)(many:Int)(hm:many<=100000)(fs:List ay)(bR:aW fs many x.aJ)(h8:x.aJ.length<=8)(M:aS)(w:aj)(hM:Bd M w)(vv:an)(dt:ab M w vv x.aJ)(hT:Tb w):
 xC f #[.agg #[xI x.id,xI x.cls,xI x.ver,vv]] w (bW w λv w'=>∃B,w.heap.size<=B/\aP (α:=Int) xF B 3 w' v (x.aJ.flatMap (bw jj))):=by
 have HM:=af hM;have T7:Hd (∀p W,aq w W->w.heap.size+1<W.heap.size->cI W p (GI vv)->L3 prog 140 #[xP p] W (λj=>j=w.heap.size+1) 0 0 (yN x.aJ (CE M w)) (λi=>i=x.aJ.length)):=λp W h1 h3 h2=>Ez x.aJ M (λj=>j=w.heap.size+1) p w W h1 vv dt h2 (λj h=>by have:j=w.heap.size+1:=h;omega);have NT:Hd (∀(i:Nat)v,x.aJ[i]? =some v->∃t,db t many v):=λi v hi=>by
  obtain⟨f,_,hf⟩:=dw bR v (Qaf hi);exact⟨_,hf⟩
 rcases hjf with⟨hj,rfl⟩|⟨hj,rfl⟩;have HR:Hd (∀W(i:Nat)v u N,x.aJ[i]? =some v->aq w W->Bd N W->bS N W u v->xC 9 #[u] W (bW W λr w'=>ab N w' r (bw jj v))):=af (by
  subst hj;intro W i v u N hi hb hN hu;obtain⟨f,_,hf⟩:=dw bR v (Qaf hi);exact Eo hf hm hN hu (hT.below hb));rotate_left;have HR:Hd (∀W(i:Nat)v u N,x.aJ[i]? =some v->aq w W->Bd N W->bS N W u v->xC 10 #[u] W (bW W λr w'=>ab N w' r (bw jj v))):=af (by
  subst hj;intro W i v u N hi hb hN hu;obtain⟨f,_,hf⟩:=dw bR v (Qaf hi);exact Br hf hm hN hu (hT.below hb));rotate_left;all_goals
  obtain⟨i0,dz,dX,cY,dA⟩:=info_parts iU;obtain⟨xi,xc,xv,xs⟩:=x;dsimp only at*;obtain⟨a,bQ,rfl,cK,qE,_⟩:=dt.open_;generalize hn:xs.length=n at*;have ek:=af hn;clear hn;clear dt bR hM hT;clear hj
 refine callsIn_wide.1 (callsIn_of_wp_marks (n:=0) func48 rfl trivial (wpIn_wide.2 ?_) rfl);simp only[ntmps48,List.size_toArray,Qcc,Qcd,Nat.reduceAdd,Nat.reduceSub,Array.replicate_succ,Array.replicate_zero,List.push_toArray,List.append_toArray,List.nil_append,List.cons_append];rotate_left;refine callsIn_wide.1 (callsIn_of_wp_marks (n:=0) func98 rfl trivial (wpIn_wide.2 ?_) rfl);simp only[ntmps98,List.size_toArray,Qcc,Qcd,Nat.reduceAdd,Nat.reduceSub,Array.replicate_succ,Array.replicate_zero,List.push_toArray,List.append_toArray,List.nil_append,List.cons_append];rotate_left;all_goals
  go_wp2_with fail;refine dJ (Kw _ _ _ _) ?_;go_wp2_with fail;obtain⟨w2,oo⟩:=cM (((w.alloc (eY ⟨xi,xc,xv,xs⟩ (xL a n bQ))).alloc (RQ (xL none 0 0))).alloc (GI (xL a n bQ)));have aL:=af (show Bx w [eY ⟨xi,xc,xv,xs⟩ (xL a n bQ),RQ (xL none 0 0),GI (xL a n bQ)] w2 by rw[oo];exact Bx.gI w _ _ _);have qgw:w2.heap.size=w.heap.size+3:=by rw[oo];simp
  unfold eY RQ GI at oo;rw[<-oo];clear oo;have Ah:=af (T7.o _ w2 aL.o.1 (by omega) (aL.o.gy rfl));refine wpIn_wide.1 (uM rfl (enters_of func140 (by kernel_rfl) rfl) (λj=>j=w.heap.size+1) 0 0 (yN xs (CE M w)) (λi=>i=n) Ah.o (λi args i' W h=>by obtain⟨_,v,u,_,rfl,_⟩:=h;rfl) (λj hj=>by have:j=w.heap.size+1:=hj;omega)
   (λi W=>∃lv,yO jj w w2 xs i lv W) (λ_ _=>False) (λi A B⟨lv,h⟩ho=>⟨lv,h.only ho (λj hj=>⟨by have:=hj.1;omega,by have:=hj.2;omega⟩)⟩) (λc A B h _=>h) ⟨_,⟨aL.o.cE rfl,aP.nil _ _ _ _,aL.o.1,by simp⟩⟩ ?hround ?hdone ?hstop);case hstop=>intro c W h;exact h.elim
  case hround=>
   intro l i args i' W hI No hsz;obtain⟨rfl,v,u,hv,rfl,hu⟩:=No;obtain⟨lv,hI⟩:=hI;have HI:=af hI;have HV:=af hv;have HU:=af hu;obtain⟨vk,vn,vs,vl⟩:=v;obtain⟨va,vc,rfl,_⟩:=cQ hu;clear hI hv hu;gi_wp2_with(rw[Oper.semAt_eq _ _ _ (λc h=>by cases h)];go_simp;try go_bits);refine⟨(ai.refl _ W).alloc _,λW2 iM NN=> ?_⟩;have oQ:Hd (yO jj w w2 xs i lv W2):=(HI.o.later bO).only iM (λj hj=>by have:j=w2.heap.size+1:=hj;omega);have HU2:Hd (bS (CE M w) W2 (.agg #[xI vk,xI vn,xS vs,xL va vl.length vc]) (au.mk vk vn vs vl)):=HU.o.ev ⟨((ai.refl _ W).alloc _).trans (iM.mono λj hj=> .inr (by have:j=w2.heap.size+1:=hj;omega)),λj hj=> .inl hj⟩;have Rb:=iM.at_ (Qbh W (fZ vk vn vs (xL va vl.length vc))) (by show¬W.heap.size=w2.heap.size+1;omega);obtain⟨q0,q1,q2,q3⟩:=ae Rb;have HPC:=af Rb;have l0:DD W2 w 0 lv:=one_cell oQ.o.blk;clear Rb iM;gi_wp2_with(rw[Oper.semAt_eq _ _ _ (λc h=>by cases h)];go_simp;try go_bits);have HVT:=NT.o i _ HV.o;obtain⟨vt,YZ⟩:=HVT;have HVT:=af YZ;have GX:=af (kI YZ jj);have hi8:i<n:=by have:=(Qad.1 HV.o).1;have:=ek.o;omega
   have Ce:Hd (aq w W2.drew):=oQ.o.below.drew;have JR:Hd (Bd (bB lv λ_=>False) W2.drew):=λj hj=>hj.elim (λh=>h.elim) λh=>(oQ.o.acc.dU j h).2;have HUN:Hd (bS (bB lv λ_=>False) W2.drew (.agg #[xI vk,xI vn,xS vs,xL va vl.length vc]) (au.mk vk vn vs vl)):=(HU2.o.ev (Ev.eG W2 λj hj=>hj.elim (λh=>h.elim) λh=> .inr (by have:=(oQ.o.acc.dU j h).1;omega))).ev ((Ev.refl _ _).drew);have Xo:w2.heap.size+2<=W2.heap.size:=by simp at NN;omega
   clear YZ;refine wpIn_region_any (by kernel_rfl) ?_;change wpAnyIn _ _ _ _ _ _ _ _ _ (World.drew _);refine wpAnyIn_ready (rs:=[0,1]) (by kernel_rfl) (by simp) ?_;refine AllReadyIn.cons rfl (λK hK=> ?_) (AllReadyIn.cons rfl (λK hK=> ?_) AllReadyIn.nil)
   .go_simp;(try rw[Oper.semAt_eq _ _ _ (λc h=>by cases h)]);go_simp;(try go_bits);refine hK _ _ ?_;clear hK K;refine wpAnyIn_ready (rs:=[1]) (by kernel_rfl) (by simp) ?_;refine AllReadyIn.cons rfl (λK hK=> ?_) AllReadyIn.nil;go_simp;(try rw[Oper.semAt_eq _ _ _ (λc h=>by cases h)]);go_simp;(try go_bits);refine hK _ _ ?_;clear hK K;refine wpAnyIn_ready (rs:=[2]) (by kernel_rfl) (by simp) ?_;refine AllReadyIn.cons rfl (λK hK=> ?_) AllReadyIn.nil;go_simp;(try rw[Oper.semAt_eq _ _ _ (λc h=>by cases h)]);go_simp;(try go_bits);refine⟨trivial,rfl,(CallsIn.inRound l (callsIn_wide.2 (HR.o W2.drew i _ _ (bB lv λ_=>False) HV.o Ce.o JR.o HUN.o))).mono ?_⟩;rintro e w3⟨_,rfl,rS,bG⟩;obtain⟨ra,rc,rfl,_⟩:=rS.open_;have vo:=af (oQ.o.later ((Qbg W2.heap.size W2).drew.trans bG));have iq:=af rS;have mC:=af (ai.ao (S:=NF (λj=>j=w.heap.size+1) w2 0) ((Qbg W2.heap.size W2).drew.trans bG));have xJ:w2.heap.size+2<=w3.heap.size:=Qcg Xo (mC.o.size);have l3:DD w3 w 0 lv:=one_cell vo.o.blk;clear rS bG;refine hK _ _ ?_;clear hK K;refine wpAnyIn_ready (rs:=[3]) (by kernel_rfl) (by simp) ?_;refine AllReadyIn.cons rfl (λK hK=> ?_) AllReadyIn.nil;have hlen:=vo.o.len;refine iV (α:=Int) rfl _ _ _ rfl xF (w2.heap.size+2) 3 i0 _ 8 underlying27 dz dX cY dA rfl (by decide) lv ((xs.take i).flatMap (bw jj)) rfl vo.o.acc _ (bw jj (au.mk vk vn vs vl)) rfl iq.o (by have:=GX.o;unfold maxLen;omega) (by have:=GX.o;omega) xJ ?_;intro a2 c2 w4 hacc A5 dT;generalize((xs.take i).flatMap (bw jj)).length+(bw jj (au.mk vk vn vs vl)).length=q at hacc A5⊢;obtain⟨rU,qz⟩:=vo.o.next (by omega) HV.o HVT.o hacc dT xJ;have rU:=af rU;have qz:=af qz;have Ai:=(dT.block (w.heap.size+1) (by omega)).trans vo.o.blk;have l4:DD w4 w 0 lv:=one_cell Ai;have f4:=ag Ai 0;clear hacc A5 dT Ai;refine hK _ _ ?_;clear hK K;refine wpAnyIn_ready (rs:=[4]) (by kernel_rfl) (by simp) ?_;refine AllReadyIn.cons rfl (λK hK=> ?_) AllReadyIn.nil;go_simp;(try rw[Oper.semAt_eq _ _ _ (λc h=>by cases h)]);go_simp;(try go_bits);refine hK _ _ ?_;clear hK K;refine wpAnyIn_done (by kernel_rfl) ?_ _;simp only[Exit.inBlock];exact⟨mC.o.trans qz.o,⟨_,rU.o⟩⟩
   .go_simp;(try rw[Oper.semAt_eq _ _ _ (λc h=>by cases h)]);go_simp;(try go_bits);refine hK _ _ ?_;clear hK K;refine wpAnyIn_ready (rs:=[0,2]) (by kernel_rfl) (by simp) ?_;refine AllReadyIn.cons rfl (λK hK=> ?_) (AllReadyIn.cons rfl (λK hK=> ?_) AllReadyIn.nil)
    .go_simp;(try rw[Oper.semAt_eq _ _ _ (λc h=>by cases h)]);go_simp;(try go_bits);refine hK _ _ ?_;clear hK K;refine wpAnyIn_ready (rs:=[2]) (by kernel_rfl) (by simp) ?_;refine AllReadyIn.cons rfl (λK hK=> ?_) AllReadyIn.nil;go_simp;(try rw[Oper.semAt_eq _ _ _ (λc h=>by cases h)]);go_simp;(try go_bits);refine⟨trivial,rfl,(CallsIn.inRound l (callsIn_wide.2 (HR.o W2.drew i _ _ (bB lv λ_=>False) HV.o Ce.o JR.o HUN.o))).mono ?_⟩;rintro e w3⟨_,rfl,rS,bG⟩;obtain⟨ra,rc,rfl,_⟩:=rS.open_;have vo:=af (oQ.o.later ((Qbg W2.heap.size W2).drew.trans bG));have iq:=af rS;have mC:=af (ai.ao (S:=NF (λj=>j=w.heap.size+1) w2 0) ((Qbg W2.heap.size W2).drew.trans bG));have xJ:w2.heap.size+2<=w3.heap.size:=Qcg Xo (mC.o.size);have l3:DD w3 w 0 lv:=one_cell vo.o.blk;clear rS bG;refine hK _ _ ?_;clear hK K;refine wpAnyIn_ready (rs:=[3]) (by kernel_rfl) (by simp) ?_;refine AllReadyIn.cons rfl (λK hK=> ?_) AllReadyIn.nil;have hlen:=vo.o.len;refine iV (α:=Int) rfl _ _ _ rfl xF (w2.heap.size+2) 3 i0 _ 8 underlying27 dz dX cY dA rfl (by decide) lv ((xs.take i).flatMap (bw jj)) rfl vo.o.acc _ (bw jj (au.mk vk vn vs vl)) rfl iq.o (by have:=GX.o;unfold maxLen;omega) (by have:=GX.o;omega) xJ ?_;intro a2 c2 w4 hacc A5 dT;generalize((xs.take i).flatMap (bw jj)).length+(bw jj (au.mk vk vn vs vl)).length=q at hacc A5⊢;obtain⟨rU,qz⟩:=vo.o.next (by omega) HV.o HVT.o hacc dT xJ;have rU:=af rU;have qz:=af qz;have Ai:=(dT.block (w.heap.size+1) (by omega)).trans vo.o.blk;have l4:DD w4 w 0 lv:=one_cell Ai;have f4:=ag Ai 0;clear hacc A5 dT Ai;refine hK _ _ ?_;clear hK K;refine wpAnyIn_ready (rs:=[4]) (by kernel_rfl) (by simp) ?_;refine AllReadyIn.cons rfl (λK hK=> ?_) AllReadyIn.nil;go_simp;(try rw[Oper.semAt_eq _ _ _ (λc h=>by cases h)]);go_simp;(try go_bits);refine hK _ _ ?_;clear hK K;refine wpAnyIn_done (by kernel_rfl) ?_ _;simp only[Exit.inBlock];exact⟨mC.o.trans qz.o,⟨_,rU.o⟩⟩
    .go_simp;(try rw[Oper.semAt_eq _ _ _ (λc h=>by cases h)]);go_simp;(try go_bits);refine⟨trivial,rfl,(CallsIn.inRound l (callsIn_wide.2 (HR.o W2.drew i _ _ (bB lv λ_=>False) HV.o Ce.o JR.o HUN.o))).mono ?_⟩;rintro e w3⟨_,rfl,rS,bG⟩;obtain⟨ra,rc,rfl,_⟩:=rS.open_;have vo:=af (oQ.o.later ((Qbg W2.heap.size W2).drew.trans bG));have iq:=af rS;have mC:=af (ai.ao (S:=NF (λj=>j=w.heap.size+1) w2 0) ((Qbg W2.heap.size W2).drew.trans bG));have xJ:w2.heap.size+2<=w3.heap.size:=Qcg Xo (mC.o.size);have l3:DD w3 w 0 lv:=one_cell vo.o.blk;clear rS bG;refine hK _ _ ?_;clear hK K;refine wpAnyIn_ready (rs:=[0]) (by kernel_rfl) (by simp) ?_;refine AllReadyIn.cons rfl (λK hK=> ?_) AllReadyIn.nil;go_simp;(try rw[Oper.semAt_eq _ _ _ (λc h=>by cases h)]);go_simp;(try go_bits);refine hK _ _ ?_;clear hK K;refine wpAnyIn_ready (rs:=[3]) (by kernel_rfl) (by simp) ?_;refine AllReadyIn.cons rfl (λK hK=> ?_) AllReadyIn.nil;have hlen:=vo.o.len;refine iV (α:=Int) rfl _ _ _ rfl xF (w2.heap.size+2) 3 i0 _ 8 underlying27 dz dX cY dA rfl (by decide) lv ((xs.take i).flatMap (bw jj)) rfl vo.o.acc _ (bw jj (au.mk vk vn vs vl)) rfl iq.o (by have:=GX.o;unfold maxLen;omega) (by have:=GX.o;omega) xJ ?_;intro a2 c2 w4 hacc A5 dT;generalize((xs.take i).flatMap (bw jj)).length+(bw jj (au.mk vk vn vs vl)).length=q at hacc A5⊢;obtain⟨rU,qz⟩:=vo.o.next (by omega) HV.o HVT.o hacc dT xJ;have rU:=af rU;have qz:=af qz;have Ai:=(dT.block (w.heap.size+1) (by omega)).trans vo.o.blk;have l4:DD w4 w 0 lv:=one_cell Ai;have f4:=ag Ai 0;clear hacc A5 dT Ai;refine hK _ _ ?_;clear hK K;refine wpAnyIn_ready (rs:=[4]) (by kernel_rfl) (by simp) ?_;refine AllReadyIn.cons rfl (λK hK=> ?_) AllReadyIn.nil;go_simp;(try rw[Oper.semAt_eq _ _ _ (λc h=>by cases h)]);go_simp;(try go_bits);refine hK _ _ ?_;clear hK K;refine wpAnyIn_done (by kernel_rfl) ?_ _;simp only[Exit.inBlock];exact⟨mC.o.trans qz.o,⟨_,rU.o⟩⟩
  case hdone=>
   intro i W hE hI hD;obtain⟨lv,hI⟩:=hI;obtain rfl:i=n:=hE;have HI:=af hI;have HD:=af hD;clear hI hD;have l0:DD W w 0 lv:=one_cell HI.o.blk;go_wp2_with fail;refine⟨by simp, .inl ⟨_,_,rfl,run_takeDeferred HD.o,?_⟩⟩;have o2:ai (λj=>j=w2.heap.size) W (W.putObj w2.heap.size (.deferred none)):=(ai.refl (λj=>j=w2.heap.size) W).putObj (.inl rfl) _;have hacc:=HI.o.acc.uj o2 (λj hj=>by have:j=w2.heap.size:=hj;omega) xj;rw[<-ek.o,List.take_length]at hacc;refine⟨lv,by simp[results,results48,results98,go_sem],_,rfl,⟨_,by omega,hacc⟩,cX HI.o.below HI.o.below.size o2 (λj hj=>by have:j=w2.heap.size:=hj;omega)⟩
theorem aP.any {B:Nat}{w W:aj}(h:aP (α:=Int) xF B e W v xs)(hB:w.heap.size<=B)(hM:Bd M w):ab M W v xs:=by
 obtain⟨css,k1,k2,k3⟩:=h;refine⟨css,(bj.um k1).mono λj hj _ hM'=> ?_,k2,k3⟩;have:=(k1.lt j hj).1;have:=hM j hM';omega
def CF(x:bH)(many:Int)(hm:many<=100000)(fs:List ay)(bR:aW fs many x.aJ)(h8:x.aJ.length<=8)(M:aS)(w:aj)(hM:Bd M w)(vv:an)(dt:ab M w vv x.aJ)(hT:Tb w):
 xC 48 #[.agg #[xI x.id,xI x.cls,xI x.ver,vv]] w (bW w λv w'=>ab M w' v (x.aJ.flatMap (bw 3))):=
 (Kx 3 _ (.inl ⟨rfl,rfl⟩) x many hm fs bR h8 M w hM vv dt hT).mono (by
   rintro e w'⟨v,rfl,⟨B,hB,h⟩,hb⟩;exact⟨_,rfl,h.any hB hM,hb⟩)
def uO(w:aj)(n:Nat):aq w (w.drewN n):=⟨rfl,rfl,rfl,bq,λ_ _=>rfl⟩
def L6:(Tryz.prog.info? 74).map (λi=>(i.zero,i.size,i.bytes))=some (some (.agg #[xS ⟨#[]⟩,xI 0]),2,24):=by kernel_rfl
def UE(r:cT):Obj:=xK #[xS r.name,xI r.id] 74
def SX(l:List cT)(r:cT)(hr:0<r.id)(Y0:r.name.size<=maxLen)(h5:l.length<=5)(j d:Nat)(hj:j+d<=l.length)(Rc:∀i y,i<j->l[i]? =some y->Op.bytesLess y.name.toList r.name.toList=true)(hstop:∀y,l[j]? =some y->Op.bytesLess y.name.toList r.name.toList=false/\(y.name.toList==r.name.toList)=decide (d=1))(hd:d<=1)(M:aS)(w:aj)(hM:Bd M w)(lv:an)(hl:ab M w lv l)(wC:l=[]->lv=xL none 0 0):
 xG 21 #[lv, .agg #[xS r.name,xI r.id]] w λu w'=>ab M w' u (l.take j++[r]++l.drop (j+d)):=by
 obtain⟨i0,dz,dX,cY,dA⟩:=info_parts L6;have HR:Hd (∀i y,l[i]? =some y->_):=λi y hx=>gj hl hx;have HLS:=af Rc;have fu:=af hstop;have np:=af hM;have Xp:=af Y0;have GX:=af hl;obtain⟨ra,rc,rfl,QP,YS,_⟩:=hl.open_;have HL0:Hd (l.length=0->ra=none/\rc=0):=λh=>by
  have:=wC (Qdd h);simpa using(show ra=none/\l.length=0/\rc=0 by simpa using this)|>.elim (λa b=>⟨a,b.2⟩)
 have Xq:Hd (0<l.length->∃b off,ra=some ⟨b,off,none⟩):=λh=>by
  obtain⟨y,hy⟩:=dQ l 0 h;obtain⟨b,off,cap,hv,_⟩:=gj hl hy;exact⟨b,off,by simpa using(show ra=some ⟨b,off,none⟩/\rc=cap by simpa using hv).1⟩
 clear hl hM Rc hstop Y0 wC;generalize hn:l.length=n at*;have ek:=af hn;clear hn;obtain⟨rn,ri⟩:=r;dsimp only at*;have hgt:decide ((0:Int)<ri)=true:=by simpa using hr
 go_enter func21,ntmps21;go_wp2;go_loopg [5,6]j(λg r5 iv wr=>∃(i c1:Nat)(a1:dC),i<=j/\g=j-i/\iv=xI i/\r5=xL a1 i c1/\Hd (aP (α:=cT) M (w.heap.size+1) 74 wr (xL a1 i c1) (l.take i))/\Hd (Bx w [UE ⟨rn,ri⟩] wr));case atStart=>exact⟨0,0,none,Qbf _,rfl,rfl,rfl,(aP.nil _ _ _ _),(Bx.dR w _)⟩
 case round=>
  obtain⟨i,c1,a1,hi,rfl,rfl,rfl,HA,HB⟩:=hrel;obtain⟨y0,y1⟩:=ah (HB.o.bJ rfl);have qdv:(0:Int)<=(i:Int):=Qba _;go_upto_region 3 with fail;go_cut [20](λs20 wx=>∃nq bb,s20=xB bb/\Hd (bb=decide (i<j))/\wx=wr.drewN nq);case first=>
   by_cases jn:i<n
   .obtain⟨y,hy⟩:=dQ l i (by rw[ek.o];exact jn);obtain⟨b,off,cap,hv,cw,_,aw⟩:=HR.o i y hy;obtain⟨rfl,rfl⟩:=gY hv;obtain⟨q0,q1⟩:=aw wr HB.o.1;have T8:(i:Int)<(n:Int):=by omega
    have qdw:Op.bytesLess y.name.toList rn.toList=decide (i<j):=by
     by_cases hij:i<j
     .rw[HLS.o i y hij hy,decide_eq_true hij]
     .obtain rfl:i=j:=by omega
      rw[(fu.o y hy).1,decide_eq_false hij]
    clear hv aw hy;go_quiet(fail);go_wp2;go_meet;exact⟨nq,_,rfl,(show _=_ from by first|exact qdw|rfl),rfl⟩
   .have T8:decide ((i:Int)<(n:Int))=false:=by simp;omega
    have hij:decide (i<j)=false:=by simp;omega
    go_quiet(fail);go_wp2;go_meet;exact⟨nq,_,rfl,(show _=_ from hij.symm),rfl⟩
  case rest=>
   obtain⟨nq,bb,rfl,Gr,rfl⟩:=hcut;cases bb with
   |true=>
    have hij:i<j:=of_decide_eq_true Gr.o.symm;obtain⟨y,hy⟩:=dQ l i (by rw[ek.o];omega);obtain⟨b,off,cap,hv,cw,hyn,aw⟩:=HR.o i y hy;obtain⟨rfl,rfl⟩:=gY hv;obtain⟨q0,q1⟩:=aw wr HB.o.1;have T8:(i:Int)<(n:Int):=by omega
    have oV:=af (show(l.take i).length=i by have:=ek.o;rw[Qdb];omega);have oR:=af (show l.take i++[y]=l.take (i+1)by rw[Qbb,hy];simp);have HYN:=af hyn;obtain⟨yn,yi⟩:=y;clear aw hv hy hyn;have hsz:=HB.o.bY;go_wp2_with(at_builtin;refine aZ (α:=cT) rfl _ _ _ rfl M (w.heap.size+1) 74 i0 _ 24 underlying38 dz dX cY dA rfl (by decide) (.slice a1 i c1) (l.take i) rfl ((HA.o.below (uO wr nq)).alloc _) (λ_=>True) _ _ ⟨yn,yi⟩ rfl (b9 _ _ _ _ rfl trivial) ⟨rfl,HYN.o⟩ (by rw[oV.o];unfold maxLen;omega) (by rw[oV.o];omega) (by have:=HB.o.bY;simp at this⊢;omega) ?_;rw[oV.o,oR.o];intro a2 c2 w2 bu dr aY;have cL:=af bu;have bI:=af aY;clear bu dr aY);go_roundg(j-(i+1));case measure=>omega
    case rel=>
     refine⟨i+1,c2,a2,by omega,rfl,by go_num,rfl,cL,(((HB.o.drewN nq).alloc _).cP bI.o (by simp))⟩
   |false=>
    have hij:¬i<j:=of_decide_eq_false Gr.o.symm;obtain rfl:i=j:=by omega
    have oV:=af (show(l.take i).length=i by have:=ek.o;rw[Qdb];omega);have wW:=af (show(l.take i++[(⟨rn,ri⟩:cT)]).length=i+1 by rw[Qda,oV.o];rfl);have hi5:i<=5:=by omega
    have hsz:=HB.o.bY;go_upto_region 8 with(
     at_builtin;refine aZ (α:=cT) rfl _ _ _ rfl M (w.heap.size+1) 74 i0 _ 24 underlying38 dz dX cY dA rfl (by decide) (.slice a1 i c1) (l.take i) rfl ((HA.o.below (uO wr nq)).alloc _) (λ_=>True) _ _ ⟨rn,ri⟩ rfl (b9 _ _ _ _ rfl trivial) ⟨rfl,Xp.o⟩ (by rw[oV.o];unfold maxLen;omega) (by rw[oV.o];omega) (by have:=HB.o.bY;simp at this⊢;omega) ?_;rw[oV.o];intro a2 c2 w2 bu dr aY;have cL:=af bu;have aL:Hd (Bx w [UE ⟨rn,ri⟩] w2):=((HB.o.drewN nq).alloc _).cP aY (by simp);clear bu dr aY);clear y0 y1;obtain⟨y0,y1⟩:=ah (aL.o.bJ rfl);go_cut [50](λs50 wx=>∃JV bb,s50=xB bb/\Hd (bb=decide (d=1))/\wx=w2.drewN JV);case first=>
     by_cases jn:i<n
     .obtain⟨y,hy⟩:=dQ l i (by rw[ek.o];exact jn);obtain⟨b,off,cap,hv,cw,_,aw⟩:=HR.o i y hy;obtain⟨rfl,rfl⟩:=gY hv;obtain⟨q0,q1⟩:=aw w2 aL.o.1;have T8:(i:Int)<(n:Int):=by omega
      have HDE:=af (fu.o y hy).2;clear hv aw hy;go_quiet(fail);go_wp2;go_meet;exact⟨nq,_,rfl,(show _=_ from HDE.o),rfl⟩
     .have T8:decide ((i:Int)<(n:Int))=false:=by simp;omega
      have Xb:decide (d=1)=false:=by simp;omega
      go_quiet(fail);go_wp2;go_meet;exact⟨nq,_,rfl,(show _=_ from Xb.symm),rfl⟩
    case rest=>
     obtain⟨JV,bd,rfl,JS,rfl⟩:=hcut;have HEW:Hd (Ev M w (bB (xL a2 (i+1) c2) M) (w2.drewN JV)):=⟨ai.ao (aL.o.drewN JV).1,λj hj=>hj.imp_right λe=>by have:=(cL.o.dU j e).1;omega⟩;cases bd with
     |true=>
      have HBE:=JS.o;obtain rfl:d=1:=by simp at HBE;omega
      have Xr:=af (show(l.drop (i+1)).length=n-(i+1)by rw[List.length_drop,ek.o]);have hw1:IntKind.i64.wrap ((i:Int)+1)=(i:Int)+1:=Qbe _ (by omega);have s1:(i:Int)<=(n:Int):=by omega
      have s2:(0:Int)<=(i:Int)+1:=by omega
      have s9:((i:Int)+1).toNat=i+1:=by omega
      have s4:i+1<=rc:=by omega
      have s5:i+1<=n:=hj;have s8:(i:Int)+1<=(n:Int):=by omega
      obtain⟨ap,rT⟩:∃ap,Hd (ab (bB (xL a2 (i+1) c2) M) (w2.drewN JV) (xL ap (n-(i+1)) (rc-(i+1))) (l.drop (i+1))/\((n=0/\ap=none/\ra=none/\rc=0/\i=0)\/∃b off,ra=some ⟨b,off,none⟩/\(if rc=i+1 then some (⟨b,off,none⟩:Addr)else some ⟨b,off+(i+1)*2,none⟩)=ap)):=by
       by_cases tN:n=0
       .obtain⟨e1,e2⟩:=HL0.o tN;refine⟨none,(show _/\_ from⟨?_, .inl ⟨tN,rfl,e1,e2,by omega⟩⟩)⟩;have e3:l=[]:=Qdd (ek.o.trans tN);have e4:n-(i+1)=0:=by omega
        have e5:rc-(i+1)=0:=by omega
        rw[e3,e4,e5,List.drop_nil];exact ab.nil _ _
       .obtain⟨b,off,e1⟩:=Xq.o (by omega);refine⟨_,(show _/\_ from⟨?_, .inr ⟨b,off,e1,rfl⟩⟩)⟩;have jC:=(GX.o.ev HEW.o).from_ ek.o (k:=i+1) hj;rw[e1]at jC;simpa [Addr.add,show aA.size cT=2 from rfl]using jC
      clear HBE;rcases rT.o.2 with⟨rfl,rfl,rfl,rfl,rfl⟩|⟨b,off,rfl,Sc⟩
      .omega
      .go_wp2_with(at_builtin;refine cV (α:=cT) rfl _ _ _ rfl M (w.heap.size+1) 74 i0 _ 24 underlying38 dz dX cY dA rfl (by decide) (.slice a2 (_+1) c2) (l.take _++[⟨rn,ri⟩]) rfl (cL.o.below (uO w2 JV)) _ (l.drop (_+1)) rfl rT.o.1 (by rw[wW.o,Xr.o];unfold maxLen;omega) (by rw[wW.o,Xr.o];omega) (by have:=aL.o.bY;simp at this⊢;omega) ?_;rw[wW.o,Xr.o];intro a3 c3 w3 gx rV bG;have lM:=af gx;have bI:=af bG;clear gx rV bG);go_ret;have h4:=lM.o.slice (λj hj=>Nat.lt_succ_of_lt (np.o j hj));rw[show i+1+(n-(i+1))=n from by omega]at h4;exact⟨_,rfl,by simpa using h4,((aL.o.drewN JV).cP bI.o (by simp)).1⟩
     |false=>
      have HBE:=JS.o;obtain rfl:d=0:=by simp at HBE;omega
      have s5:i<=n:=by omega
      have s1:(i:Int)<=(n:Int):=by omega
      have s4:i<=rc:=by omega
      clear HBE;rcases Nat.eq_zero_or_pos i with T6|T6
      .subst T6;have rT:Hd (ab (bB (xL a2 (0+1) c2) M) (w2.drewN JV) (xL ra n rc) l):=GX.o.ev HEW.o;rcases Nat.eq_zero_or_pos n with tN|tN
       .obtain⟨rfl,rfl⟩:=HL0.o tN;subst tN;go_wp2_with(at_builtin;refine cV (α:=cT) rfl _ _ _ rfl M (w.heap.size+1) 74 i0 _ 24 underlying38 dz dX cY dA rfl (by decide) (.slice a2 (0+1) c2) (l.take 0++[⟨rn,ri⟩]) rfl (cL.o.below (uO w2 JV)) _ (l) rfl rT.o (by rw[wW.o,ek.o];unfold maxLen;omega) (by rw[wW.o,ek.o];omega) (by have:=aL.o.bY;simp at this⊢;omega) ?_;rw[wW.o,ek.o];intro a3 c3 w3 gx rV bG;have lM:=af gx;have bI:=af bG;clear gx rV bG);go_ret;have h4:=lM.o.slice (λj hj=>Nat.lt_succ_of_lt (np.o j hj));exact⟨_,rfl,by simpa using h4,((aL.o.drewN JV).cP bI.o (by simp)).1⟩
       .obtain⟨b,off,rfl⟩:=Xq.o tN;go_wp2_with(at_builtin;refine cV (α:=cT) rfl _ _ _ rfl M (w.heap.size+1) 74 i0 _ 24 underlying38 dz dX cY dA rfl (by decide) (.slice a2 (0+1) c2) (l.take 0++[⟨rn,ri⟩]) rfl (cL.o.below (uO w2 JV)) _ (l) rfl rT.o (by rw[wW.o,ek.o];unfold maxLen;omega) (by rw[wW.o,ek.o];omega) (by have:=aL.o.bY;simp at this⊢;omega) ?_;rw[wW.o,ek.o];intro a3 c3 w3 gx rV bG;have lM:=af gx;have bI:=af bG;clear gx rV bG);go_ret;have h4:=lM.o.slice (λj hj=>Nat.lt_succ_of_lt (np.o j hj));exact⟨_,rfl,by simpa using h4,((aL.o.drewN JV).cP bI.o (by simp)).1⟩
      .obtain⟨b,off,rfl⟩:=Xq.o (by omega);have Xr:=af (show(l.drop i).length=n-i by rw[List.length_drop,ek.o]);obtain⟨ap,Sc⟩:=fx ((if rc=i then some (⟨b,off,none⟩:Addr)else some ⟨b,off+i*2,none⟩));have qdx:¬i*2=0:=by omega
       have rT:=af (show ab (bB (xL a2 (i+1) c2) M) (w2.drewN JV) (xL ap (n-i) (rc-i)) (l.drop i)by
        have jC:=(GX.o.ev HEW.o).from_ ek.o (k:=i) hj;rw[<-Sc];simpa [Addr.add,show aA.size cT=2 from rfl,qdx]using jC);go_wp2_with(at_builtin;refine cV (α:=cT) rfl _ _ _ rfl M (w.heap.size+1) 74 i0 _ 24 underlying38 dz dX cY dA rfl (by decide) (.slice a2 (i+1) c2) (l.take i++[⟨rn,ri⟩]) rfl (cL.o.below (uO w2 JV)) _ (l.drop i) rfl rT.o (by rw[wW.o,Xr.o];unfold maxLen;omega) (by rw[wW.o,Xr.o];omega) (by have:=aL.o.bY;simp at this⊢;omega) ?_;rw[wW.o,Xr.o];intro a3 c3 w3 gx rV bG;have lM:=af gx;have bI:=af bG;clear gx rV bG);go_ret;have h4:=lM.o.slice (λj hj=>Nat.lt_succ_of_lt (np.o j hj));exact⟨_,rfl,by simpa using h4,((aL.o.drewN JV).cP bI.o (by simp)).1⟩
def L7:(Tryz.prog.info? 65).map (λi=>(i.zero,i.size,i.bytes))=some (some (.agg #[xI 0,xI 0,xI 0,xL none 0 0]),4,48):=by kernel_rfl
def ED {M:aS}{w:aj}{l:List jE}(h:ab M w v l){x:jE}(hx:l[k]? =some x):∃b off cap vv,v=xL (some ⟨b,off,none⟩) l.length cap/\b<w.heap.size/\ab (α:=Int) M w vv x.aJ/\(I6 x.cls/\I6 x.ver/\I6 x.skip/\∀y∈x.aJ,I6 y)/\∀W,aq w W->aU W b (off+k*4) (xI x.cls)/\aU W b (off+k*4+1) (xI x.ver)/\aU W b (off+k*4+2) vv/\aU W b (off+k*4+3) (xI x.skip):=by
 obtain⟨a,cap,rfl,hl,_,hc⟩:=h.open_;have hk:=(Qad.1 hx).1;obtain⟨b,off,rfl,_,hb,aG⟩:=hc (by omega);obtain⟨cs,⟨vv,rfl,h1,h2⟩,bD⟩:=aG k x hx;refine⟨b,off,cap,vv,rfl,hb,h1,h2,λW hB=> ?_⟩;have g:∀j u,([xI x.cls,xI x.ver,vv,xI x.skip]:List an)[j]? =some u->aU W b (off+k*4+j) u:=λj u hu=>(hB.cell (p:=⟨b,off+k*4+j,none⟩) hb).trans (bD j u hu);exact⟨g 0 _ rfl,g 1 _ rfl,g 2 _ rfl,g 3 _ rfl⟩
def EE {M:aS}{w:aj}{l:List jL}(h:ab M w v l){x:jL}(hx:l[k]? =some x):∃b off cap,v=xL (some ⟨b,off,none⟩) l.length cap/\b<w.heap.size/\(I6 x.name/\I6 x.id)/\∀W,aq w W->aU W b (off+k*2) (xI x.name)/\aU W b (off+k*2+1) (xI x.id):=by
 obtain⟨a,cap,rfl,hl,_,hc⟩:=h.open_;have hk:=(Qad.1 hx).1;obtain⟨b,off,rfl,_,hb,aG⟩:=hc (by omega);obtain⟨cs,⟨rfl,h2⟩,bD⟩:=aG k x hx;refine⟨b,off,cap,rfl,hb,h2,λW hB=> ?_⟩;have g:∀j u,([xI x.name,xI x.id]:List an)[j]? =some u->aU W b (off+k*2+j) u:=λj u hu=>(hB.cell (p:=⟨b,off+k*2+j,none⟩) hb).trans (bD j u hu);exact⟨g 0 _ rfl,g 1 _ rfl⟩
def NH(lv ov rv:an)(n:Int):Obj:=xK #[lv,ov,rv,xI n] 40
def vJ(l o r:an):Obj:=xK #[l,o,r] 26
structure kY(M:aS)(w w1:aj)(o0 o1:Obj)(K:Nat)(lv:an)(ls:List aK)(many:Int)(i cap:Nat)(a:dC)(os:List bH)(nx:Int)(wr:aj):Prop where
 len:os.length=i
 ids:∀(j:Nat)(o:bH),os[j]? =some o->o.id=(j:Int)+1/\∃k v l,pH ls many o k v l
 blk:wr.heap[K]? =some (NH lv (xL a i cap) (xL none 0 0) nx)
 acc:aP (rX M w K) (K+1) 65 wr (xL a i cap) os
 ls0:ab (dP M w 2) w1 lv ls
 low:Below K w1 wr
 kw:K=w1.heap.size
 bx:Bx w [o0,o1] wr
 hK:w.heap.size+2<=K
section
variable {M:aS}{w w1 wr W:aj}{o0 o1:Obj}{K:Nat}{lv:an}{ls:List aK}{many:Int}{i cap:Nat}{a:dC}{os:List bH}{nx:Int}
theorem kY.lt(h:kY M w w1 o0 o1 K lv ls many i cap a os nx wr):K<wr.heap.size:=(Qaa.1 h.blk).1
theorem kY.below(h:kY M w w1 o0 o1 K lv ls many i cap a os nx wr)(hb:aq wr W):kY M w w1 o0 o1 K lv ls many i cap a os nx W:=
 ⟨h.len,h.ids,(hb.block K h.lt).trans h.blk,h.acc.below hb,h.ls0,h.low.trans (hb.mono (Nat.le_of_lt h.lt)),h.kw,h.bx.below hb,h.hK⟩
theorem kY.bd(h:kY M w w1 o0 o1 K lv ls many i cap a os nx wr)(hM:Bd M w):Bd (bB (xL a i cap) (rX M w K)) wr:=λj hj=>by
 have hl:=h.lt;rcases hj with hj|hj
 .have:=uJ hM h.hK j hj;omega
 .exact(h.acc.dU j hj).2
theorem kY.ev1(h:kY M w w1 o0 o1 K lv ls many i cap a os nx wr):Ev (dP M w 2) w1 (bB (xL a i cap) (rX M w K)) wr:=
 ⟨ai.ao (by rw[<-h.kw];exact h.low),λj hj=>by
   have hk:=h.kw;rcases hj with(hj|hj)|hj
   .exact .inl hj
   .right;omega
   .have:=(h.acc.dU j hj).1;right;omega⟩
theorem kY.ev0(h:kY M w w1 o0 o1 K lv ls many i cap a os nx wr):Ev M w (bB (xL a i cap) (rX M w K)) wr:=
 ⟨ai.ao h.bx.1,λj hj=>by
   have hk:=h.hK;rcases hj with((hj|hj)|hj)|hj
   .exact .inl hj
   .exact .inr hj.1
   .right;omega
   .have:=(h.acc.dU j hj).1;right;omega⟩
theorem kY.put(h:kY M w w1 o0 o1 K lv ls many i cap a os nx wr)(hM:Bd M w){ob:Obj}{o:bH}{a2:dC}{c2:Nat}(aY:aq wr w2)(hid:o.id=(i:Int)+1)(oS:∃k v l,pH ls many o k v l)(hacc:aP (rX M w K) (K+1) 65 w3 (xL a2 (i+1) c2) (os++[o]))(bG:Below (K+1) (w2.alloc ob) w3):
 kY M w w1 o0 o1 K lv ls many (i+1) c2 a2 (os++[o]) nx (w3.setCell ⟨K,1,none⟩ (xL a2 (i+1) c2)):=by
 have hl:=h.lt;have hK:=h.hK;have hz:=aY.size;have Lh:cI w3 K (NH lv (xL a i cap) (xL none 0 0) nx):=(bG.block K (by omega)).trans ((Qcb w2 ob K (by omega)).trans ((aY.block K hl).trans h.blk));have ub:Below K wr w3:=((aY.mono (by omega)).alloc (by omega) ob).trans (bG.mono (by omega));refine⟨by simp[h.len],λj y hj=> ?_,?_,?_,h.ls0,?_,h.kw,?_,hK⟩
 .by_cases T9:j<os.length
  .rw[Qbc T9]at hj;exact h.ids j y hj
  .have hj2:=(Qad.1 hj).1;have hlen:=h.len;simp at hj2;obtain rfl:j=i:=by omega
   have e:y=o:=by
    rw[Qbd (by omega),show j-os.length=0 from by omega]at hj;simpa using hj.symm
   subst e;exact⟨hid,oS⟩
 .have:=Qca w3 K 1 _ _ (xL a2 (i+1) c2) Lh;simpa [NH]using this
 .exact hacc.uz (p:=⟨K,1,none⟩) (.inr rfl) (by show K<K+1;omega) _
 .exact(h.low.trans ub).setCell (Qab K) _
 .exact(h.bx.cP ub (by simp;omega)).cP (B:=K) (dK.setCell (Qab K) _) (by simp;omega)
theorem kY.num(h:kY M w w1 o0 o1 K lv ls many i cap a os nx wr)(n2:Int):kY M w w1 o0 o1 K lv ls many i cap a os n2 (wr.setCell ⟨K,3,none⟩ (xI n2)):=by
 have hK:=h.hK;refine⟨h.len,h.ids,?_,?_,h.ls0,?_,h.kw,?_,hK⟩
 .have:=Qca wr K 3 _ _ (xI n2) h.blk;simpa [NH]using this
 .exact h.acc.uz (p:=⟨K,3,none⟩) (.inr rfl) (by show K<K+1;omega) _
 .exact h.low.setCell (Qab K) _
 .exact h.bx.cP (B:=K) (dK.setCell (Qab K) _) (by simp;omega)
end
structure mu(M:aS)(w:aj)(o0 o1:Obj)(K:Nat)(lv ov rv:an)(ls:List aK)(os:List bH)(rs:List cT)(nx:Int)(j:Nat)(wr:aj):Prop where
 blk:wr.heap[K]? =some (NH lv ov rv nx)
 sl:ab (rX M w K) wr lv ls
 so:ab (rX M w K) wr ov os
 sr:ab (rX M w K) wr rv rs
 nil:rs=[]->rv=xL none 0 0
 rng:∀r∈rs,1<=r.id/\r.id<=os.length
 len:rs.length<=j
 nms:∃ks:List Nat,ks.Pairwise (·< ·)/\(∀k∈ks,k<5)/\rs.map cT.name=ks.map wK
 bx:Bx w [o0,o1] wr
 hK:w.heap.size+2<=K
section
variable {M:aS}{w wr W:aj}{o0 o1:Obj}{K:Nat}{lv ov rv:an}{ls:List aK}{os:List bH}{rs:List cT}{nx:Int}{j:Nat}
theorem mu.lt(h:mu M w o0 o1 K lv ov rv ls os rs nx j wr):K<wr.heap.size:=(Qaa.1 h.blk).1
theorem mu.below(h:mu M w o0 o1 K lv ov rv ls os rs nx j wr)(hb:aq wr W):mu M w o0 o1 K lv ov rv ls os rs nx j W:=
 ⟨(hb.block K h.lt).trans h.blk,h.sl.below hb,h.so.below hb,h.sr.below hb,h.nil,h.rng,h.len,h.nms,h.bx.below hb,h.hK⟩
theorem mu.bd(h:mu M w o0 o1 K lv ov rv ls os rs nx j wr)(hM:Bd M w):Bd (rX M w K) wr:=λi hi=>by have:=uJ hM h.hK i hi;have:=h.lt;omega
theorem mu.ZE(h:mu M w o0 o1 K lv ov rv ls os rs nx j wr)(i:Nat)(u:an):Ev (rX M w K) wr (rX M w K) (wr.setCell ⟨K,i,none⟩ u)/\Bx w [o0,o1] (wr.setCell ⟨K,i,none⟩ u):=
 ⟨(Ev.refl _ _).setCell (.inl (.inr rfl)) u,h.bx.cP (B:=K) (dK.setCell (Qab K) _) (by have:=h.hK;simp;omega)⟩
theorem mu.root(h:mu M w o0 o1 K lv ov rv ls os rs nx j wr){rv2:an}{Li:List cT}(hb:aq wr w2)(hs:ab (rX M w K) w2 rv2 Li)(iG:Li≠[])(hr:∀r∈Li,1<=r.id/\r.id<=os.length)(hl:Li.length<=j+1)(hn:∃ks:List Nat,ks.Pairwise (·< ·)/\(∀k∈ks,k<5)/\Li.map cT.name=ks.map wK):
 mu M w o0 o1 K lv ov rv2 ls os Li nx (j+1) (w2.setCell ⟨K,2,none⟩ rv2):=by
 have h2:=h.below hb;obtain⟨hE,hB⟩:=h2.ZE 2 rv2;refine⟨?_,h2.sl.ev hE,h2.so.ev hE,hs.ev hE,λe=>absurd e iG,hr,hl,hn,hB,h.hK⟩;have:=Qca w2 K 2 _ _ rv2 h2.blk;simpa [NH]using this
theorem mu.num(h:mu M w o0 o1 K lv ov rv ls os rs nx j wr)(n2:Int):mu M w o0 o1 K lv ov rv ls os rs n2 j (wr.setCell ⟨K,3,none⟩ (xI n2)):=by
 obtain⟨hE,hB⟩:=h.ZE 3 (xI n2);refine⟨?_,h.sl.ev hE,h.so.ev hE,h.sr.ev hE,h.nil,h.rng,h.len,h.nms,hB,h.hK⟩;have:=Qca wr K 3 _ _ (xI n2) h.blk;simpa [NH]using this
theorem kY.roots {w1:aj}{cap:Nat}{a:dC}{i:Nat}{many:Int}(h:kY M w w1 o0 o1 K lv ls many i cap a os nx wr)(hM:Bd M w):mu M w o0 o1 K lv (xL a i cap) (xL none 0 0) ls os [] nx 0 wr:=
 ⟨h.blk,(h.ls0.ev h.ev1).ev (Ev.eG _ λi hi=> .inl hi),h.acc.slice (uJ hM h.hK),ab.nil _ _,λ_=>rfl,λr hr=>(by cases hr),bq,⟨[],by simp,by simp,rfl⟩,h.bx,h.hK⟩
theorem mu.fin(h:mu M w o0 o1 K lv ov rv ls os rs nx j wr)(Gp:eI ls)(Y1:os.length<=10)(qdy:∀(i:Nat)(o:bH),os[i]? =some o->o.id=(i:Int)+1/\∃k v l,pH ls (os.length:Int) o k v l)(hj:j<=5)(hnx:(os.length:Int)+1<=nx/\nx<=(os.length:Int)+3)(W':aj)(iL:W'=(((wr.setCell ⟨w.heap.size+1,0,none⟩ lv).setCell ⟨w.heap.size+1,1,none⟩ ov).setCell ⟨w.heap.size+1,2,none⟩ rv).setCell ⟨w.heap.size+1,3,none⟩ (xI nx)):
 (∃(x:bE)(lv' ov' rv':an),fL x/\Value.agg #[lv,ov,rv,xI nx]= .agg #[lv',ov',rv',xI x.next]/\ab M W' lv' x.lines/\ab M W' ov' x.objs/\ab M W' rv' x.roots)/\aq w W':=by
 have hm:rX M w K (w.heap.size+1):= .inl (.inr ⟨by omega,by omega⟩);have E:Ev (rX M w K) wr M W':=by
  rw[iL];exact((((Ev.eG wr λi hi=> .inl (.inl hi)).setCell (.inl hm) _).setCell (.inl hm) _).setCell (.inl hm) _).setCell (.inl hm) _
 refine⟨⟨⟨ls,os,rs,nx⟩,lv,ov,rv,⟨Gp,Y1,qdy,Qcg h.len hj,h.rng,h.nms,hnx⟩,rfl,h.sl.ev E,h.so.ev E,h.sr.ev E⟩,?_⟩;rw[iL];exact(((h.bx.1.setCell (by simp) _).setCell (by simp) _).setCell (by simp) _).setCell (by simp) _
end
theorem Bu(q:Nat):∀ks:List Nat,ks.Pairwise (·< ·)->∃j d,j+d<=ks.length/\d<=1/\(∀i y,i<j->ks[i]? =some y->y<q)/\(∀y,ks[j]? =some y->¬y<q/\(y=q↔d=1))/\(ks.take j++[q]++ks.drop (j+d)).Pairwise (·< ·)
 |[],_=>⟨0,0,by simp,by omega,λi y h=>by omega,λy h=>by simp at h,by simp⟩
 |k::r,hp=>by
  have Ae:=List.pairwise_cons.1 hp;rcases Nat.lt_trichotomy k q with aX|rfl|hgt
  .obtain⟨j,d,h1,h2,h3,h4,h5⟩:=Bu q r Ae.2;refine⟨j+1,d,by simp;omega,h2,λi y hi hy=> ?_,λy hy=> ?_,?_⟩
   .match i,hi,hy with
    |0,_,hy=>simp at hy;omega
    |i+1,hi,hy=>exact h3 i y (by omega) (by simpa using hy)
   .exact h4 y (by simpa using hy)
   .rw[show j+1+d=(j+d)+1 from by omega];simp only[List.take_succ_cons,List.drop_succ_cons,List.cons_append];refine List.pairwise_cons.2 ⟨λy hy=> ?_,h5⟩;simp only[Qch,List.mem_singleton]at hy;rcases hy with(hy|rfl)|hy
    .exact Ae.1 y (List.mem_of_mem_take hy)
    .exact aX
    .exact Ae.1 y (List.mem_of_mem_drop hy)
  .refine⟨0,1,by simp,by omega,λi y h=>by omega,λy hy=> ?_,?_⟩
   .simp at hy;omega
   .simpa using hp
  .refine⟨0,0,by simp,by omega,λi y h=>by omega,λy hy=> ?_,?_⟩
   .simp at hy;omega
   .simp only[List.take_zero,List.nil_append,Nat.add_zero,List.drop_zero,List.singleton_append];refine List.pairwise_cons.2 ⟨λy hy=> ?_,hp⟩;rcases Qdf.1 hy with rfl|hy
    .exact hgt
    .exact Nat.lt_trans hgt (Ae.1 y hy)
def L8 {rs:List cT}{ks:List Nat}(h1:ks.Pairwise (·< ·))(h2:∀k∈ks,k<5)(h3:rs.map cT.name=ks.map wK)(q:Nat)(hq:q<5):∃j d,j+d<=rs.length/\d<=1/\(∀i y,i<j->rs[i]? =some y->Op.bytesLess y.name.toList (wK q).toList=true)/\(∀y,rs[j]? =some y->Op.bytesLess y.name.toList (wK q).toList=false/\(y.name.toList==(wK q).toList)=decide (d=1))/\∀id:Int,∃ks':List Nat,ks'.Pairwise (·< ·)/\(∀k∈ks',k<5)/\(rs.take j++[(⟨wK q,id⟩:cT)]++rs.drop (j+d)).map cT.name=ks'.map wK:=by
 have hl:rs.length=ks.length:=by have:=congrArg List.length h3;simpa using this
 have at_:∀(i:Nat)(y:cT),rs[i]? =some y->∃k,ks[i]? =some k/\k<5/\y.name=wK k:=λi y hy=>by
  have hk:=(Qad.1 hy).1;have e:(rs.map cT.name)[i]? =(ks.map wK)[i]? :=by rw[h3]
  rw[List.getElem?_map,List.getElem?_map,hy]at e;obtain⟨k,si⟩:=dQ ks i (by omega);rw[si]at e;exact⟨k,si,h2 k (Qaf si),by simpa using e⟩
 obtain⟨j,d,a1,a2,a3,a4,a5⟩:=Bu q ks h1;refine⟨j,d,by omega,a2,λi y hi hy=> ?_,λy hy=> ?_,λid=>⟨_,a5,λk hk=> ?_,?_⟩⟩
 .obtain⟨k,k1,k2,k3⟩:=at_ i y hy;rw[k3,yM k k2 q hq];exact decide_eq_true (a3 i k hi k1)
 .obtain⟨k,k1,k2,k3⟩:=at_ j y hy;obtain⟨b1,b2⟩:=a4 k k1;rw[k3,yM k k2 q hq,OP k k2 q hq];exact⟨decide_eq_false b1,by rw[decide_eq_decide];exact b2⟩
 .simp only[Qch,List.mem_singleton]at hk;rcases hk with(hk|rfl)|hk
  .exact h2 k (List.mem_of_mem_take hk)
  .exact hq
  .exact h2 k (List.mem_of_mem_drop hk)
 .simp only[List.map_append,List.map_take,List.map_drop,h3,List.map_cons,List.map_nil]
end
section
open Go.ChangeShapes Go.WideShapes Go.ChangeAt Go.RowKit Go.Deep
def L9 {x:Int}(h:(Lit.int .i64 x).wf=true):I6 x:=by
 unfold I6;simpa [Lit.wf,IntKind.min,IntKind.max,IntKind.signed,IntKind.bits]using h
def Im {W:aj}{a:Addr}(h:W.cell? a=some v):a.spot=none:=by
 unfold World.cell? at h;split at h
 .split at h
  .cases h
  .rename_i h1;simpa using h1
 .cases h
theorem sL {α:Type}{Q:Nat->α->Prop}:∀(n:Nat),(∀i,i<n->∃c,Q i c)->∃cs:List α,cs.length=n/\∀j c,cs[j]? =some c->Q j c
 |0,_=>⟨[],rfl,λj c h=>by simp at h⟩
 |n+1,h=>by
  obtain⟨cs,hl,hc⟩:=sL n λi hi=>h i (by omega);obtain⟨c,fS⟩:=h n (by omega);refine⟨cs++[c],by simp[hl],λj d hj=> ?_⟩;by_cases hjn:j<n
  .rw[Qbc (by omega)]at hj;exact hc j d hj
  .have hj2:j<(cs++[c]).length:=(Qad.1 hj).1;have:j=n:=by simp[hl]at hj2;omega
   subst this;rw[Qbd (by omega),hl]at hj;simp at hj;subst hj;exact fS
theorem sM {size:Nat}:∀(css:List (List an)),(∀cs∈css,cs.length=size)->css.flatten.length=css.length*size
 |[],_=>by simp
 |a::r,h=>by
  rw[List.flatten_cons,Qda,sM r (λcs hc=>h cs (List.mem_cons_of_mem _ hc)),h a List.mem_cons_self,Qcc,Nat.succ_mul];omega
def Rd {H:Type}(enc:TypeId×an->H)(W:aj)(t:TypeId)(cs:List an):Prop:=∃fuel x,DataW.trod enc prog W 0 (λ_=>true) true fuel t cs=some x
section
variable {H:Type}{enc:TypeId×an->H}{W:aj}
def ew(h:Rd enc W 3 cs):∃z,cs=[xI z]/\I6 z:=by
 obtain⟨n,x,h⟩:=h;obtain⟨z,e,_,w⟩:=DataW.trod_int underlying3 h;exact⟨z,e,L9 w⟩
def Ky(h:Rd enc W 4 cs):∃z,cs=[xB z]:=by
 obtain⟨n,x,h⟩:=h;obtain⟨z,e,_⟩:=DataW.trod_bool underlying4 h;exact⟨z,e⟩
def bZ {fs:Array Field}(he:Tryz.prog.underlying t=some (.struct fs))(h:Rd enc W t cs)(j:Nat)(f:Field)(hj:fs[j]? =some f):Rd enc W f.type ((cs.drop f.offset).take (Tryz.prog.cellsOf f.type)):=by
 obtain⟨n,x,h⟩:=h;obtain⟨ys,n',hn',hy,hlen,hyl,hf⟩:=DataW.trod_struct he h;have xE:j<fs.size:=(Qaa.1 hj).1;exact⟨n',_,(hf j f hj).trans (Qac (by omega))⟩
def EF {α:Type} [aA α]{ts te:TypeId}{fuel:Nat}{Q:α->Prop}(qa:Tryz.prog.underlying ts=some (.slice te))(hsz:Tryz.prog.cellsOf te=aA.size α)(wQ:0<aA.size α)
 (each:∀n cs,n<fuel->cs.length=aA.size α->(∃x,DataW.trod enc prog W 0 (λ_=>true) true n te cs=some x)->∃y:α,aA.rep xF W cs y/\Q y)(h:∃x,DataW.trod enc prog W 0 (λ_=>true) true fuel ts [v]=some x):∃ys:List α,ab xF W v ys/\∀y∈ys,Q y:=by
 obtain⟨x0,h⟩:=h;rcases DataW.trod_slice qa h with h0|⟨a,len,cap,elems,rest,n,hf,bD,hx,hb,hl,hm,hle,hi,_⟩
 .have:=h0.1;simp at this;subst this;exact⟨[],ab.nil _ _,λy hy=>by cases hy⟩
 .simp at bD;subst bD;obtain⟨ps,hlen,ki⟩:=sL (Q:=λi(p:List an×α)=>p.1.length=aA.size α/\aA.rep xF W p.1 p.2/\Q p.2/\∀(j:Nat)(u:an),p.1[j]? =some u->W.cell? (a.add (i*aA.size α+j))=some u) len (λi zV=>by
   obtain⟨cs',hc,Gm⟩:∃cs',W.cells? 0 (a.add (i*Tryz.prog.cellsOf te)) (Tryz.prog.cellsOf te)=some cs'/\DataW.trod enc prog W 0 (λ_=>true) true n te cs'=some (elems[i]'(by omega)):=
    Option.bind_eq_some_iff.1 ((hi i zV).trans (Qac (by omega)));rw[hsz]at hc;obtain⟨_,gw,og⟩:=World.cells?_some hc;obtain⟨y,h1,h2⟩:=each n cs' (by omega) gw ⟨_,Gm⟩;refine⟨(cs',y),gw,h1,h2,λj u hu=> ?_⟩;have hj:j<aA.size α:=by rw[<-gw];exact(Qad.1 hu).1
   rw[<-Go.Deep.add_add,og j hj,hu]);have qas:∀(i:Nat)(cs:List an),(ps.map (·.1))[i]? =some cs->cs.length=aA.size α:=λi cs hc=>by
   rw[List.getElem?_map]at hc;obtain⟨p,hp,rfl⟩:=Option.map_eq_some_iff.1 hc;exact(ki i p hp).1
  have Aj:(ps.map (·.1)).flatten.length=len*aA.size α:=by
   rw[sM _ (λcs bD=>by obtain⟨i,hi⟩:=List.getElem?_of_mem bD;exact qas i cs hi),Qdc,hlen]
  refine⟨ps.map (·.2),⟨ps.map (·.1),⟨by rw[Aj,Qdc,hlen],some a,cap,by rw[Qdc,hlen],by rw[Qdc];omega,hm,λhp=> ?_⟩,by simp,λi cs x hc hx=> ?_⟩,λy hy=> ?_⟩
  .rw[Qdc,hlen]at hp;have h0:W.cell? (a.add 0)≠none:=by
    obtain⟨p,hp0⟩:=dQ ps 0 (by omega);obtain⟨e1,_,_,e4⟩:=ki 0 p hp0;obtain⟨u,hu⟩:=dQ p.1 0 (by omega);have:=e4 0 u hu;rw[Nat.zero_mul]at this;rw[this];simp
   obtain⟨u0,hu0⟩:=Option.ne_none_iff_exists'.1 h0;simp[Addr.add]at hu0;obtain⟨b,off,sp⟩:=a;have YK:=Im hu0;simp at YK;subst YK;have cw:=mJ hu0;have ea:∀k,(Addr.add ⟨b,off,none⟩ k)=⟨b,off+k,none⟩:=λk=>by
    unfold Addr.add;split
    .rename_i h;subst h;rfl
    .rfl
   refine⟨b,off,rfl,λhf=>hf,cw,λj u hu=> ?_⟩;have hj:j<len*aA.size α:=by rw[<-Aj];exact(Qad.1 hu).1
   have U5:j/aA.size α<len:=(Nat.div_lt_iff_lt_mul wQ).2 hj;have K7:j%aA.size α<aA.size α:=Nat.mod_lt _ wQ;obtain⟨p,vm⟩:=dQ ps (j/aA.size α) (by omega);obtain⟨e1,_,_,e4⟩:=ki _ p vm;obtain⟨u',hu'⟩:∃u',p.1[j%aA.size α]? =some u':=⟨_,Qac (by omega)⟩;have e5:=kO qas (j/aA.size α) p.1 (j%aA.size α) u' (by rw[List.getElem?_map,vm];rfl) hu';have e6:j/aA.size α*aA.size α+j%aA.size α=j:=by rw[Nat.mul_comm];exact Nat.div_add_mod _ _
   rw[e6,hu]at e5;obtain rfl:=Option.some.inj e5;have:=e4 _ _ hu';rw[ea,e6]at this;exact this
  .rw[List.getElem?_map]at hc hx;obtain⟨p,hp,rfl⟩:=Option.map_eq_some_iff.1 hc;rw[hp]at hx;obtain rfl:=Option.some.inj hx;exact(ki i p hp).2.1
  .obtain⟨p,hp,rfl⟩:=List.mem_map.1 hy;obtain⟨i,U5⟩:=List.getElem?_of_mem hp;exact(ki i p U5).2.2.1
def qj {α:Type} [aA α]{ts te:TypeId}{Q:α->Prop}(qa:Tryz.prog.underlying ts=some (.slice te))(hsz:Tryz.prog.cellsOf te=aA.size α)(wQ:0<aA.size α)
 (each:∀cs,cs.length=aA.size α->Rd enc W te cs->∃y:α,aA.rep xF W cs y/\Q y)(h:Rd enc W ts [v]):∃ys:List α,ab xF W v ys/\∀y∈ys,Q y:=by
 obtain⟨n0,hx⟩:=h;exact EF qa hsz wQ (λn cs _ hl ht=>each cs hl ⟨n,ht⟩) hx
def Kz(h:Rd enc W 27 [v]):∃ys:List Int,ab xF W v ys/\∀y∈ys,I6 y:=
 qj (α:=Int) underlying27 (by kernel_rfl) (by decide) (λcs _ h=>by
  obtain⟨z,rfl,hz⟩:=ew h;exact⟨z,rfl,hz⟩) h
def Io(h:cs.length=4):∃a b c d,cs=[a,b,c,d]:=by
 match cs,h with
 |[a,b,c,d],_=>exact⟨a,b,c,d,rfl⟩
def cells3(h:cs.length=3):∃a b c,cs=[a,b,c]:=by
 match cs,h with
 |[a,b,c],_=>exact⟨a,b,c,rfl⟩
def VX(h:cs.length=2):∃a b,cs=[a,b]:=by
 match cs,h with
 |[a,b],_=>exact⟨a,b,rfl⟩
def VY(h:cs.length=8):∃a b c d e f g i,cs=[a,b,c,d,e,f,g,i]:=by
 match cs,h with
 |[a,b,c,d,e,f,g,i],_=>exact⟨a,b,c,d,e,f,g,i,rfl⟩
end
def lP:Tryz.prog.cellsOf 3=1:=by kernel_rfl
def UF:Tryz.prog.cellsOf 4=1:=by kernel_rfl
def qcv:Tryz.prog.cellsOf 136=2:=by kernel_rfl
def ZF:Tryz.prog.cellsOf 108=2:=by kernel_rfl
def cFs:Tryz.prog.cellsOf 106=1:=by kernel_rfl
def qcw:Tryz.prog.cellsOf 109=1:=by kernel_rfl
def cIs:Tryz.prog.cellsOf 27=1:=by kernel_rfl
def cLs:Tryz.prog.cellsOf 22=1:=by kernel_rfl
def cOs:Tryz.prog.cellsOf 23=1:=by kernel_rfl
def cRs:Tryz.prog.cellsOf 24=1:=by kernel_rfl
section
variable {H:Type}{enc:TypeId×an->H}{W:aj}
def EG(cs:List an)(hl:cs.length=4)(h:Rd enc W 166 cs):∃y:js,aA.rep xF W cs y/\True:=by
 obtain⟨a,b,c,d,rfl⟩:=Io hl;have h0:Rd enc W 3 [a]:=by simpa [lP]using bZ underlying166 h 0 _ rfl
 have h1:Rd enc W 3 [b]:=by simpa [lP]using bZ underlying166 h 1 _ rfl
 have h2:Rd enc W 3 [c]:=by simpa [lP]using bZ underlying166 h 2 _ rfl
 have h3:Rd enc W 4 [d]:=by simpa [UF]using bZ underlying166 h 3 _ rfl
 obtain⟨z0,e0,w0⟩:=ew h0;obtain⟨z1,e1,w1⟩:=ew h1;obtain⟨z2,e2,w2⟩:=ew h2;obtain⟨z3,e3⟩:=Ky h3;simp at e0 e1 e2 e3;subst e0 e1 e2 e3;exact⟨⟨z0,z1,z2,z3⟩,⟨rfl,w0,w1,w2⟩,trivial⟩
def OU(cs:List an)(hl:cs.length=8)(h:Rd enc W 163 cs):∃y:fz,aA.rep xF W cs y/\True:=by
 obtain⟨a,b,c,d,e,f,g,i,rfl⟩:=VY hl;have h0:Rd enc W 3 [a]:=by simpa [lP]using bZ underlying163 h 0 _ rfl
 have h1:Rd enc W 3 [b]:=by simpa [lP]using bZ underlying163 h 1 _ rfl
 have h2:Rd enc W 3 [c]:=by simpa [lP]using bZ underlying163 h 2 _ rfl
 have h3:Rd enc W 3 [d]:=by simpa [lP]using bZ underlying163 h 3 _ rfl
 have h4:Rd enc W 136 [e,f]:=by simpa [qcv]using bZ underlying163 h 4 _ rfl
 have h5:Rd enc W 3 [g]:=by simpa [lP]using bZ underlying163 h 5 _ rfl
 have h6:Rd enc W 3 [i]:=by simpa [lP]using bZ underlying163 h 6 _ rfl
 have h7:Rd enc W 3 [e]:=by simpa [lP]using bZ underlying136 h4 0 _ rfl
 have h8:Rd enc W 3 [f]:=by simpa [lP]using bZ underlying136 h4 1 _ rfl
 obtain⟨z0,e0,w0⟩:=ew h0;obtain⟨z1,e1,w1⟩:=ew h1;obtain⟨z2,e2,w2⟩:=ew h2;obtain⟨z3,e3,w3⟩:=ew h3;obtain⟨z5,e5,w5⟩:=ew h5;obtain⟨z6,e6,w6⟩:=ew h6;obtain⟨z7,e7,w7⟩:=ew h7;obtain⟨z8,e8,w8⟩:=ew h8;simp at e0 e1 e2 e3 e5 e6 e7 e8;subst e0 e1 e2 e3 e5 e6 e7 e8;exact⟨⟨z0,z1,z2,z3,⟨z7,z8⟩,z5,z6⟩,⟨rfl,w0,w1,w2,w3,w7,w8,w5,w6⟩,trivial⟩
def Ip(cs:List an)(hl:cs.length=3)(h:Rd enc W 111 cs):∃y:gZ,aA.rep xF W cs y/\True:=by
 obtain⟨a,b,c,rfl⟩:=cells3 hl;have h0:Rd enc W 108 [a,b]:=by simpa [ZF]using bZ underlying111 h 0 _ rfl
 have h1:Rd enc W 109 [c]:=by simpa [qcw]using bZ underlying111 h 1 _ rfl
 have h2:Rd enc W 3 [a]:=by simpa [lP]using bZ underlying108 h0 0 _ rfl
 have h3:Rd enc W 106 [b]:=by simpa [cFs]using bZ underlying108 h0 1 _ rfl
 obtain⟨z2,e2,w2⟩:=ew h2;simp at e2;subst e2;obtain⟨fs,s3,_⟩:=qj (α:=js) underlying106 (by kernel_rfl) (by decide) EG h3;obtain⟨chs,s1,_⟩:=qj (α:=fz) underlying109 (by kernel_rfl) (by decide) OU h1;exact⟨⟨⟨z2,fs⟩,chs⟩,⟨b,c,rfl,s3,s1,w2⟩,trivial⟩
def Ma(cs:List an)(hl:cs.length=4)(h:Rd enc W 68 cs):∃y:jE,aA.rep xF W cs y/\True:=by
 obtain⟨a,b,c,d,rfl⟩:=Io hl;have h0:Rd enc W 3 [a]:=by simpa [lP]using bZ underlying68 h 0 _ rfl
 have h1:Rd enc W 3 [b]:=by simpa [lP]using bZ underlying68 h 1 _ rfl
 have h2:Rd enc W 27 [c]:=by simpa [cIs]using bZ underlying68 h 2 _ rfl
 have h3:Rd enc W 3 [d]:=by simpa [lP]using bZ underlying68 h 3 _ rfl
 obtain⟨z0,e0,w0⟩:=ew h0;obtain⟨z1,e1,w1⟩:=ew h1;obtain⟨vs,s2,w2⟩:=Kz h2;obtain⟨z3,e3,w3⟩:=ew h3;simp at e0 e1 e3;subst e0 e1 e3;exact⟨⟨z0,z1,vs,z3⟩,⟨c,rfl,s2,w0,w1,w3,w2⟩,trivial⟩
def Iq(cs:List an)(hl:cs.length=2)(h:Rd enc W 71 cs):∃y:jL,aA.rep xF W cs y/\True:=by
 obtain⟨a,b,rfl⟩:=VX hl;obtain⟨n,x,h⟩:=h;obtain⟨xs,m1,hm,rZ,hlen,hn3,hel⟩:=DataW.trod_array underlying71 h;have g:∀i,i<2->Rd enc W 3 (([a,b].drop (i*Tryz.prog.cellsOf 3)).take (Tryz.prog.cellsOf 3)):=λi hi=>⟨m1,_,(hel i hi).trans (Qac (by omega))⟩;have h0:Rd enc W 3 [a]:=by simpa [lP]using g 0 (by omega)
 have h1:Rd enc W 3 [b]:=by simpa [lP]using g 1 (by omega)
 obtain⟨z0,e0,w0⟩:=ew h0;obtain⟨z1,e1,w1⟩:=ew h1;simp at e0 e1;subst e0 e1;exact⟨⟨z0,z1⟩,⟨rfl,w0,w1⟩,trivial⟩
def OV {a b c:an}(h:Rd enc W 26 [a,b,c]):∃(ls:List gZ)(os:List jE)(rs:List jL),ab xF W a ls/\ab xF W b os/\ab xF W c rs:=by
 have h0:Rd enc W 22 [a]:=by simpa [cLs]using bZ underlying26 h 0 _ rfl
 have h1:Rd enc W 23 [b]:=by simpa [cOs]using bZ underlying26 h 1 _ rfl
 have h2:Rd enc W 24 [c]:=by simpa [cRs]using bZ underlying26 h 2 _ rfl
 obtain⟨ls,s0,_⟩:=qj (α:=gZ) underlying22 (by kernel_rfl) (by decide) Ip h0;obtain⟨os,s1,_⟩:=qj (α:=jE) underlying23 (by kernel_rfl) (by decide) Ma h1;obtain⟨rs,s2,_⟩:=qj (α:=jL) underlying24 (by kernel_rfl) (by decide) Iq h2;exact⟨ls,os,rs,s0,s1,s2⟩
end
def ZG:Tryz.prog.cellsOf 30=4:=by kernel_rfl
def cVs:Tryz.prog.cellsOf 28=1:=by kernel_rfl
def qcx:Tryz.prog.cellsOf 9=1:=by kernel_rfl
section
variable {H:Type}{enc:TypeId×an->H}{W:aj}
def rd_val:∀(fuel:Nat)(cs:List an),cs.length=4->(∃x,DataW.trod enc prog W 0 (λ_=>true) true fuel 30 cs=some x)->∃y:au,eN xF W cs y:=by
 intro fuel;induction fuel using Nat.strongRecOn with
 |ind fuel ih=>
  intro cs hl h;obtain⟨a,b,c,d,rfl⟩:=Io hl;obtain⟨x,h⟩:=h;obtain⟨ys,n,rfl,hy,hlen,hyl,hf⟩:=DataW.trod_struct underlying30 h;have hs:∀i,i<4->∃y,ys[i]? =some y:=λi hi=>⟨_,Qac (by rw[hyl];exact hi)⟩;obtain⟨y0,e0⟩:=hs 0 (by decide);obtain⟨y1,e1⟩:=hs 1 (by decide);obtain⟨y2,e2⟩:=hs 2 (by decide);obtain⟨y3,e3⟩:=hs 3 (by decide);have h0:=(hf 0 _ rfl).trans e0;have h1:=(hf 1 _ rfl).trans e1;have h2:=(hf 2 _ rfl).trans e2;have h3:=(hf 3 _ rfl).trans e3;simp[lP,qcx,cVs]at h0 h1 h2 h3;obtain⟨z0,f0,w0⟩:=ew ⟨_,_,h0⟩;obtain⟨z1,f1,w1⟩:=ew ⟨_,_,h1⟩;obtain⟨s,f2,_,w2⟩:=DataW.trod_string underlying9 h2;obtain⟨l,bo,_⟩:=EF (α:=au) (Q:=λ_=>True) underlying28 ZG (by decide) (λm cs hm hc hx=>by
   obtain⟨y,hy⟩:=ih m (by omega) cs hc hx;exact⟨y,hy,trivial⟩) ⟨_,h3⟩;simp at f0 f1 f2;subst f0 f1 f2;exact⟨.mk z0 z1 s l,eN.iff.2 ⟨_,rfl,bo,w2⟩⟩
end
end
end Go.Proofs.YtccpcfcochffcaaGreatDoor
