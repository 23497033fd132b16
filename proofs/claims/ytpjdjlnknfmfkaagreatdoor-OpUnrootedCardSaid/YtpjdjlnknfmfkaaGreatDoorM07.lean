/- A part; no condition. -/
import Derived.Test.YtpjdjlnknfmfkaaGreatDoorM05
import Derived.Test.YtpjdjlnknfmfkaaGreatDoorM06
import Derived.LoopIn
import Derived.OwnWalkIn
import Derived.Test.YtpjdjlnknfmfkaaGreatDoorRows
set_option linter.all false
set_option maxHeartbeats 8000000
set_option maxRecDepth 100000
namespace Go.Proofs.YtpjdjlnknfmfkaaGreatDoor
open Go.Proofs.Tryz
variable{i B k:Nat}{v u:bt}{w w0 A w2 W w' w3:bq}{M M':bY}{br:Int}{c:bI}{cs:List bt}{xs:List Int}{e t:TypeId}
section
open Go.RowKit Go.Shelf
attribute [local go_sem]Oper.semAt_some
def lM {l:List Int}(h:aS M w v l){x:Int}(hx:l[i]? =some x):∃b off cap,v=xL (b,off) l.length cap/\b<w.heap.size/\∀W,bC w W->cC W b (off+i) x:=by
 obtain⟨a,cap,rfl,hl,_,hc⟩:=h.bj;have hk:=(ag.1 hx).1;obtain⟨b,off,rfl,_,hb,hcell⟩:=hc (by omega);obtain⟨cs,rfl,hcs⟩:=hcell i _ hx;refine⟨b,off,cap,rfl,hb,λW hB=> ?_⟩;have:=(hB.cell (p:=⟨b,off+i*1+0,none⟩) hb).trans (hcs 0 _ rfl);simpa using this
def LH(gf:Nat)(lb:Array bt)(eg:∀args w,(callFunc gf args).run prog w= .ok (.enter gf args) w)(l:List Int)(M:bY)(v:bt)(w:bq)(h:aS M w v l)
 (hf:∀x∈l,∀W,bC w W->xC gf (#[xI x]++lb) W (di (xB false) W)):
 xC 147 #[v, .func (.func gf) #[] lb] w (di (xI (-1)) w):=by
 have HC:Hd (∀(i:Nat)(x:Int),l[i]? =some x->_):=λi x hx=>lM h hx;have HN:=aV hf;obtain⟨a,cY,rfl,dN,hmx,_⟩:=h.bj;generalize hn:l.length=n at*;have fB:=aV hn;delta xC;go_in;go_wp2;go_loopg [5,8]n(λg _ iv wr=>∃k:Nat,k<=n/\g=n-k/\iv=xI k/\Hd (bC w wr));exact⟨0,ax _,rfl,rfl,eH⟩;obtain⟨i,hi,rfl,rfl,HB⟩:=hrel;by_cases cE:i<n
 .obtain⟨x,hx⟩:=fg l i (by rw[fB.o];exact cE);obtain⟨b,off,cap,hv,hb,hcells⟩:=HC.o i x hx;obtain⟨rfl,rfl⟩:=jk hv;have g0:=hcells wr HB.o;have mC:=aV (HN.o x (ai hx) wr HB.o);go_wp2_with fail;refine mC.o.mono ?_;rintro e w1⟨rfl,hb1⟩;have cu:Hd (bC w w1):=HB.o.trans (hb1.mono HB.o.size);go_wp2;go_roundg(n-(i+1));exact⟨i+1,by omega,rfl,by go_num,cu⟩;omega
 go_wp2;go_ret;exact⟨rfl,HB.o⟩
def oJ(gf:Nat)(lb:Array bt)(eg:∀args w,(callFunc gf args).run prog w= .ok (.enter gf args) w)(l:List Int)(M:bY)(v:bt)(w:bq)(h:aS M w v l)
 (hf:∀x∈l,∀W,bC w W->xC gf (#[xI x]++lb) W (di false W)):
 xC 144 #[v, .func (.func gf) #[] lb] w (di false w):=by
 have HI:=aV (LH gf lb eg l M v w h hf);delta xC;go_in;go_wp2_with fail;refine HI.o.mono ?_;rintro e w1⟨rfl,hb1⟩;have HB:=aV hb1;go_wp2;go_ret;exact⟨rfl,HB.o⟩
def AE(x:Int)(hx:0<=x)(w:bq):xC 277 #[x] w (di false w):=by
 have h0:decide (x<0)=false:=by simp;omega
 delta xC;go_in;go_wp2;go_ret;exact⟨by first|rfl|simp[h0],eH⟩
def OO {t:cq}{v:bE}(h:eF t br v)(hm:br<=100000)(hM:Bd M w)(hu:dq M w u v)(hT:Tb w):
 xC 214 #[u] w (di false w):=by
 have HR:=ie (w:=w) (λW hb=>DE h hm (hM.aT hb) (hu.aT hb) (hT.aT hb));have HW:=ie (w:=w) (λW hb=>AA h hm (hM.aT hb) (hu.aT hb) (hT.aT hb));have eg:∀args w,(callFunc 277 args).run prog w= .ok (.enter 277 args) w:=enters_of func277 (by kernel_rfl) rfl;have n3:=rN h (j:=3) (.inl rfl);have n4:=rN h (j:=4) (.inr rfl);have HC3:Hd (∀W r,aS M W r (dm 3 v)->_):=λW r hs=>oJ 277 #[] eg _ M r W hs λx hx W' _=>AE x (by have:=(n3 x hx).1;omega) W';have KM:Hd (∀W r,aS M W r (dm 4 v)->_):=λW r hs=>oJ 277 #[] eg _ M r W hs λx hx W' _=>AE x (by have:=(n4 x hx).1;omega) W';obtain⟨k,n,s,l⟩:=v;obtain⟨a,cap,rfl,_⟩:=ec hu;delta xC;go_in;go_wp2_with fail;refine(HR.o _ cU).mono ?_;rintro e w1⟨r1,rfl,hs1,hb1⟩;obtain⟨x1,y1,rfl,_⟩:=hs1.bj;have gy:=aV (boxed hb1);have cu:=aV (ct hb1);have re:=aV hs1;go_wp2_with fail;refine dx (HC3.o _ _ re.o) λw2 cJ=> ?_;have gz:Hd (w2.heap[w.heap.size]? =_):=(cJ.block _ (ab.1 gy.o).1).trans gy.o;have bZ:Hd (bC w w2):=cu.o.trans (cJ.mono cu.o.size);have⟨c0,c1,c2,c3⟩:=aU gz.o;go_wp2_with fail;refine(HW.o _ bZ.o).mono ?_;rintro e w3⟨r2,rfl,qX,hb3⟩;obtain⟨x2,y2,rfl,_⟩:=qX.bj;have cR:Hd (bC w w3):=bZ.o.trans (hb3.mono bZ.o.size);have jM:=aV qX;go_wp2_with fail;refine dx (KM.o _ _ jM.o) λw4 eZ=> ?_;have fh:Hd (bC w w4):=cR.o.trans (eZ.mono cR.o.size);go_wp2;go_ret;exact⟨by first|rfl|simp,fh.o⟩
end
section
open Go.RowKit Go.Shelf
attribute [local go_sem]Oper.semAt_some
def Kc(a:fM)(n c:Nat)(w:bq):xC 145 #[xL a n c] w λe w'=>e=xR (.func (.func 211) #[] #[xP w.heap.size])/\w.alloc (xK #[xL a n c] 39)=w':=by
 have BC:∀(fn:Fn)(bu cap:Array bt)(w:bq),(Instr.makeFunc fn bu cap).run prog w= .ok (.func fn bu cap) w:=λ_ _ _ _=>rfl;delta xC;go_in;go_wp2;go_ret;exact⟨rfl,rfl⟩
def Ca(M:bY)(w0:bq):Nat->Prop:=λi=>M i\/w0<=i
def Su(hb:bC w0 A):Ev M w0 (Ca M w0) A:=⟨bh.bA hb,λ_ hi=>hi⟩
def yb(vs:List bE)(N:bY)(i:Nat)(args:Array bt)(j:Nat)(A:bq):Prop:=j=i+1/\∃v u,vs[i]? =some v/\args= #[u]/\dq N A u v
def DN(vs:List bE)(M C:bY)(p:Nat)(w0 w:bq)(hw:bC w0 w)(vv:bt)(hvs:aS M w0 vv vs)(hp:cX w p (xK #[vv] 39))(hC:∀i,C i->w0.heap.size<=i):
 Hi prog 211 #[xP p] w C 0 0 (yb vs (Ca M w0)) (λi=>i=vs.length):=by
 intro J Jx W hz hb hJ UC hY h0;have HJ:=aV hJ;have HJX:=aV UC;have HY:=aV hY;have CU:=hw.size;have iJ:p<w:=(ab.1 hp).1;have hp0:cC W p 0 vv:=one_cell ((hb.block p iJ).trans hp);have ik:Hd (bC w0 W/\w.heap.size+2<=W):=⟨hw.trans (hb.mono CU),by omega⟩;have HC:Hd (∀(i:Nat)(k n:Int)(s:bS)(ll:List bE),vs[i]? =some (.mk k n s ll)->_):=λi k n s ll hx=>ep hvs hx;have TB:=aV h0;obtain⟨a,cY,rfl,dN,hmx,_⟩:=hvs.bj;generalize hn:vs.length=n at*;have fB:=aV hn;refine callsIn_of_wp func211 rfl trivial ?_ rfl;simp only[ntmps211,List.size_toArray,aC,aD,Nat.reduceAdd,Nat.reduceSub,Array.replicate_succ,Array.replicate_zero,List.push_toArray,List.append_toArray,List.nil_append,List.cons_append];gi_wp2_with fail;gi_loopw [4,7](λ_ k wr=>∃i:Nat,k=xI i/\i<=n/\Hd (J i wr)/\Hd (bC w0 wr/\w.heap.size+2<=wr))(λ_ k _=>n-(intOf k).toNat);exact⟨0,rfl,ax _,TB,ik⟩;obtain⟨i,rfl,hi,Rb,HB⟩:=hrel;by_cases cE:i<n
 .have⟨⟨xk,xn,xs,xl⟩,hx⟩:=fg vs i (by rw[fB.o];exact cE);have⟨b,off,cap,a',c',hv,hbl,hsl,hss,hcells⟩:=HC.o i xk xn xs xl hx;obtain⟨rfl,rfl⟩:=jk hv;have⟨⟨g0,g1,g2,g3⟩,_⟩:=hcells wr HB.o.1;have HX:=aV hx;have gS:=aV hsl;have nS:=aV hss;have HO:∀o,Hd (bC wr (wr.alloc o)):=λo=>(eH.alloc cN o);have hyy:=HY.o i #[.agg #[xk,xn,xs,xL a' xl.length c']] (i+1) (wr.alloc (fT xk xn xs (xL a' xl.length c'))) (HJ.o i wr _ Rb.o (bh.bA (HO _).o)) ⟨rfl,_,_,HX.o,rfl,_,rfl,lE (gS.o.ev (Su (HB.o.1.trans ((HO _).o.mono HB.o.1.size)))) nS.o⟩;unfold fT at hyy;obtain⟨fn,tmps,assign,body,hy,hR⟩:=hyy;have HR:=aV hR;gi_wp2_with fail;refine⟨rfl,HR.o.mono ?_⟩;rintro e W3(⟨rfl,WR,BD⟩|⟨rfl,JB⟩)
  .have UD:=aV WR;have cR:Hd (bC w0 W3/\w.heap.size+2<=W3):=⟨DM (HB.o.1.trans ((HO _).o.mono HB.o.1.size)) BD hC CU,by have:=BD.size;have:=HB.o.2;simp at*;omega⟩;gi_wp2_with fail;go_roundw;exact⟨i+1,by go_num,by omega,UD,cR⟩;simp[intOf];omega
  have Rc:=aV JB;gi_wp2_with fail;refine ah (results_none rfl _ _ _) rfl ?_;exact⟨⟨_,rfl⟩, .inr Rc.o⟩
 obtain rfl:i=n:=by omega
 gi_wp2_with fail;refine bodyPost_end (results_none rfl _ _ _) rfl ?_;exact⟨⟨_,rfl⟩, .inl ⟨i,rfl,Rb.o⟩⟩
end
section
open Go.RowKit Go.Shelf
def Bx.only {B:bq}{os:List Obj}{S:bY}(h:Bx w os A)(ho:bh S A B)(hS:∀i,S i->w.heap.size+os.length<=i):Bx w os B:=by
 obtain⟨h1,h2,h3⟩:=h;refine⟨⟨ho.os.trans h1.os,ho.tape.trans h1.tape,ho.output.trans h1.output,aH h1.size ho.size,λi hi=>(ho.block i (by omega) (λhs=>by have:=hS i hs;omega)).trans (h1.block i hi)⟩,aH h2 ho.size,λi o hi=> ?_⟩;have hl:=(ag.1 hi).1;exact ho.at_ (h3 i o hi) (λhs=>by have:=hS _ hs;omega)
def cr {S:bY}(h:Below B w w2)(hB:B<=w2)(k:bh S w2 W)(hS:∀i,S i->B<=i):Below B w W:=
 ⟨k.os.trans h.os,k.tape.trans h.tape,k.output.trans h.output,aH h.size k.size,λi hi=>(k.block i (by omega) (λhs=>by have:=hS i hs;omega)).trans (h.block i hi)⟩
def NG(b:Bool):Obj:=xK #[b] 4
def eV(x:cm)(vv:bt):Obj:=xK #[x.id,x.dz,x.dB,vv] 41
def F8(vv:bt):Obj:=xK #[vv] 39
structure Hk(br:Int)(x:cm):Prop where
 id1:1<=x.id
 id2:x.id<=100000
 c1:0<=x.dz
 c2:x.dz<8
 v1:0<=x.dB
 v2:x.dB<=12
 bR:∃fs,cD fs br x.bR
 len:x.bR.length<=8
def DO(x:cm)(br:Int)(hm:br<=100000)(hx:Hk br x)(M:bY)(w:bq)(hM:Bd M w)(vv:bt)(hvs:aS M w vv x.bR)(hT:Tb w):
 xC 208 #[.agg #[x.id,x.dz,x.dB,vv]] w (di true w):=by
 have TC:Hd (∀p W,bC w W->cX W p (F8 vv)->Hi prog 211 #[xP p] W xF 0 0 (yb x.bR (Ca M w)) (λi=>i=x.bR.length)):=λp W h1 h2=>DN x.bR M xF p w W h1 vv hvs h2 (λ_ h=>h.elim);obtain⟨fs,hfs⟩:=hx.bR;have HR:Hd (∀W(i:Nat)v u N,x.bR[i]? =some v->bC w W->dq N W u v->_):=λW i v u N hi hb hu=>by
  obtain⟨f,_,hf⟩:=fI hfs v (ai hi);exact sE hf hm hu (hT.aT hb)
 have Aa:Hd (∀W(i:Nat)v u,x.bR[i]? =some v->bC w W->dq M W u v->_):=λW i v u hi hb hu=>by
  obtain⟨f,_,hf⟩:=fI hfs v (ai hi);exact OO hf hm (hM.aT hb) hu (hT.aT hb)
 have e1:=hx.id1;have e2:=hx.id2;have e3:=hx.c1;have e4:=hx.c2;have e5:=hx.v1;have e6:=hx.v2;have e7:=hx.len;obtain⟨xi,xc,xv,xs⟩:=x;dsimp only at*;obtain⟨a,cY,rfl,dN,hmx,_⟩:=hvs.bj;generalize hn:xs.length=n at*;have fB:=aV hn;clear hn;have e8:(n:Int)<=8:=by omega
 clear hvs hfs hx hM hT;refine callsIn_wide.1 (callsIn_of_wp_marks (n:=0) func208 rfl trivial (wpIn_wide.2 ?_) rfl);simp only[ntmps208,List.size_toArray,aC,aD,Nat.reduceAdd,Nat.reduceSub,Array.replicate_succ,Array.replicate_zero,List.push_toArray,List.append_toArray,List.nil_append,List.cons_append];go_wp2_with fail;refine wp_scope_straight ?_;go_wp2_with fail;refine wp_label ?_;simp only[Exit.then];go_wp2_with fail;refine ey (Kc _ _ _ _) ?_;go_wp2_with fail;obtain⟨w2,hw2⟩:=dd (((w.alloc (eV ⟨xi,xc,xv,xs⟩ (xL a n cY))).alloc (NG true)).alloc (F8 (xL a n cY)));have bZ:=aV (show Bx w [eV ⟨xi,xc,xv,xs⟩ (xL a n cY),NG true,F8 (xL a n cY)] w2 by rw[hw2];exact Bx.iN w _ _ _);have hz2:w2.heap.size=↑w+3:=by rw[hw2];simp
 unfold eV NG F8 at hw2;rw[<-hw2];clear hw2;have zp:=aV (TC.o _ w2 bZ.o.1 (bZ.o.im rfl));refine wpIn_wide.1 (qA rfl (enters_of func211 (by kernel_rfl) rfl) xF 0 0 (yb xs (Ca M w)) (λi=>i=n) zp.o (λi args i' W h=>by obtain⟨_,v,u,_,rfl,_⟩:=h;rfl) (λi hi=>hi.elim)
  (λ_ W=>Bx w [eV ⟨xi,xc,xv,xs⟩ (xL a n cY),NG true,F8 (xL a n cY)] W) (λ_ _=>False) (λi A B h ho=>h.only ho (λj hj=>by have:=hj.1;simp;omega)) (λc A B h _=>h) (bZ.o) ?hround ?hdone ?hstop);case hstop=>intro c W h;exact h.elim
 case hround=>
  intro l i args i' W hI hTl hsz;obtain⟨rfl,v,u,hv,rfl,hu⟩:=hTl;have HI:=aV hI;have HV:=aV hv;have HU:=aV hu;obtain⟨vk,vn,vs,vl⟩:=v;obtain⟨va,vc,rfl,_⟩:=ec hu;clear hI hv hu;gi_wp2_with(rw[Oper.semAt_eq _ _ _ (λc h=>by cases h)];go_simp;try go_bits);refine⟨(bh.refl _ W).alloc _,λW2 ho2 hzW=> ?_⟩;have rU:Hd (bh (Ca M w) W W2):=((bh.refl _ W).alloc _).trans (ho2.mono λj hj=> .inr (by have:j=[w2]:=hj;omega));have ni:Hd (Bx w [eV ⟨xi,xc,xv,xs⟩ (xL a n cY),NG true,F8 (xL a n cY)] W2):=(HI.o.alloc _).only ho2 (λj hj=>by have:j=[w2]:=hj;simp;omega);have HU2:Hd (dq (Ca M w) W2 (.agg #[vk,vn,vs,xL va vl.length vc]) (bE.mk vk vn vs vl)):=HU.o.ev ⟨rU.o,λj hj=> .inl hj⟩;have Re:=ho2.at_ (az W (fT vk vn vs (xL va vl.length vc))) (by show¬W.heap.size=[w2];omega);obtain⟨q0,q1,q2,q3⟩:=aU Re;have HPC:=aV Re;clear Re ho2 rU;gi_wp2_with(rw[Oper.semAt_eq _ _ _ (λc h=>by cases h)];go_simp;try go_bits);refine⟨trivial,rfl,(CallsIn.inRound l (callsIn_wide.2 (HR.o W2 i _ _ _ HV.o ni.o.1 HU2.o))).mono ?_⟩;rintro e w3⟨rfl,hb3⟩;have tO:=aV (ni.o.aT hb3);have HU3:=aV (HU2.o.aT hb3);have rV:=aV (bh.bA (S:=NF xF w2 0) hb3);have wL:=hb3.size;obtain⟨p0,p1,p2,p3⟩:=aU ((hb3.block _ (ab.1 HPC.o).1).trans HPC.o);have C8:=aV (Aa.o w3 i _ _ HV.o tO.o.1 (HU3.o.ev (Ev.eO w3 λj hj=> .inl hj)));clear hb3 q0 q1 q2 q3;gi_wp2_with(rw[Oper.semAt_eq _ _ _ (λc h=>by cases h)];go_simp;try go_bits);refine⟨trivial,rfl,(CallsIn.inRound l (callsIn_wide.2 C8.o)).mono ?_⟩;rintro e w4⟨rfl,eZ⟩;have HI4:=aV (tO.o.aT eZ);have RX:=aV (rV.o.trans (bh.bA eZ));clear eZ;gi_wp2_with(rw[Oper.semAt_eq _ _ _ (λc h=>by cases h)];go_simp;try go_bits);exact⟨RX.o,HI4.o⟩
 case hdone=>
  intro i W hE hI hD;have HI:=aV hI;have HD:=aV hD;clear hI hD;have b0:zB W w 0 true:=one_cell (HI.o.cZ rfl);go_wp2_with fail;rw[Exit.noGoto_ret];refine⟨by simp, .inl ⟨_,_,rfl,run_takeDeferred HD.o,?_⟩⟩;refine⟨xB true,by simp[results,results208,go_sem],rfl,?_⟩;exact cr HI.o.1 HI.o.1.size ((bh.refl (λj=>j=w2) W).putObj (.inl rfl) _) (λj hj=>by have:j=w2:=hj;omega)
end
section
open Go.RowKit
def DP(h:cj c=true):∀f∈c.aW,bO f.type=true:=by
 intro f hf;have⟨j,hj⟩:=aP hf;have:=((cw c).1 h).2.2 j f (ag.1 hj).1 hj;simp only[cT,aF]at this;exact this.1.1.2
def uy(x:kG)(vv:bt):Obj:=xK #[x.dz,x.dB,vv,x.skip] 87
def DQ(ls:List bQ)(h:eS ls)(h1:0<ls.length)(x:kG)(hx:I6 x.dz/\I6 x.dB/\∀y∈x.bR,I6 y)(id br:Int)(qJ:br<=1000)(M:bY)(w:bq)(hM:Bd M w)(lv vv:bt)(hs:aS M w lv ls)(hv:aS (α:=Int) M w vv x.bR):
 xG 17 #[.agg #[lv],id, .agg #[x.dz,x.dB,vv,x.skip],br] w λu w'=>∃(k v:Nat)(l:bQ)(vs:List bE)(uv:bt),u= .agg #[id,xI (k:Int),xI (v:Int),uv]/\jS ls br ⟨id,(k:Int),(v:Int),vs⟩ k v l/\aS M w' uv vs:=by
 have h4:=h.len;have hk:=dJ x.dz ls.length h1;have⟨l,hl⟩:=fg ls (bW x.dz ls.length) hk;have rI:=h.bH l (ai hl);have hc5:=rI.len;have hvr:=dJ x.dB (l.bo.length+1) (by omega);have Np:Hd (∀W,xC 20 #[x.dz,xI (ls.length:Int)] W (j7 (xI (bW x.dz ls.length:Int)) W)):=λW=>by
  have h:=lX x.dz (ls.length:Int) W hx.1 (by omega) (by omega);simpa using h
 have Wz:Hd (∀W,xC 20 #[x.dB,xI ((l.bo.length:Int)+1)] W (j7 (xI (bW x.dB (l.bo.length+1):Int)) W)):=λW=>by
  have h:=lX x.dB ((l.bo.length:Int)+1) W hx.2.1 (by omega) (by omega);rw[show((l.bo.length:Int)+1).toNat=l.bo.length+1 from by omega]at h;exact h
 have uN:Hd (∀W,bC w W->w.heap.size+4<=W->_):=λW hb hz=>Ss ls h (eo M w 4) W (dZ hM hz) lv (hs.ev (dH hb)) (bW x.dz ls.length) l hl (bW x.dB (l.bo.length+1)) (by omega) (bV l (bW x.dB (l.bo.length+1))) (rI.at_ _);have hok:=rI.lr (bW x.dB (l.bo.length+1));have TD:=(cw _).1 hok.right;have HVA:Hd (∀W fv,bC w W->w.heap.size+4<=W->aS (eo M w 4) W fv (bV l (bW x.dB (l.bo.length+1))).aW->_):=λW fv hb hz hf=>by
  have hh:=GO (eo M w 4) W (dZ hM hz) (bV l (bW x.dB (l.bo.length+1))) fv vv x.bR br hf (hv.ev (dH hb)) hx.2.2 TD.2.1 (DP hok.right) qJ;rw[rI.aX]at hh;exact hh
 have HLC:=aV (fp hs hl);have JC:=aV hl;obtain⟨la,lc,rfl,hlc,_⟩:=hs.bj;obtain⟨va,vc,rfl,_⟩:=hv.bj;clear hs hv hM hx h rI hok TD hl;generalize bW x.dz ls.length=k at*;generalize bW x.dB (l.bo.length+1)=v at*;obtain⟨xc,xv,xs,xk⟩:=x;dsimp only at*;have dp:=aV (Bx.iN w (iq (xL la ls.length lc)) (uy ⟨xc,xv,xs,xk⟩ (xL va xs.length vc)) (eV ⟨0,0,0,[]⟩ ()));delta xG;go_in;go_wp2_with fail;refine ey (Np.o _) ?_;go_upto_region 2 with fail;have⟨W2,hW2⟩:=dd ((((w.alloc (iq (xL la ls.length lc))).alloc (uy ⟨xc,xv,xs,xk⟩ (xL va xs.length vc))).alloc (eV ⟨0,0,0,[]⟩ ())).alloc (eV ⟨id,(k:Int),0,[]⟩ ()));have bZ:=aV (show Bx w [iq (xL la ls.length lc),uy ⟨xc,xv,xs,xk⟩ (xL va xs.length vc),eV ⟨0,0,0,[]⟩ (),eV ⟨id,(k:Int),0,[]⟩ ()] W2 by rw[hW2];exact Bx.Lk w _ _ _ _);unfold iq uy eV at hW2;rw[<-hW2];clear hW2;have⟨b,off,cap,fa,fc,ca,cc,hsv,hlbl,hf1,hc1,hnm,hcells⟩:=HLC.o;obtain⟨rfl,rfl⟩:=jk hsv;have⟨q0,q1,q2⟩:=hcells W2 bZ.o.1;have y0:=one_cell (bZ.o.cP rfl);have⟨x0,x1,x2,x3⟩:=aU (bZ.o.cZ rfl);have⟨o0,o1,o2,o3⟩:=aU (bZ.o.Au rfl);have f2:=aY (bZ.o.Au rfl) 2;have i0:(0:Int)<=(k:Int):=an _;have i1:(k:Int)<(ls.length:Int):=by omega
 have i3:IntKind.i64.wrap ((l.bo.length:Int)+1)=(l.bo.length:Int)+1:=aw _ (by omega);clear hsv hf1 hc1 hcells;go_cut [](λwx=>Hd (Bx w [iq (xL (b,off) ls.length lc),uy ⟨xc,xv,xs,xk⟩ (xL va xs.length vc),eV ⟨0,0,0,[]⟩ (),eV ⟨id,(k:Int),(v:Int),[]⟩ ()] wx))
 .go_region_law(first
   |(go_simp;go_at_call 20;refine ey (Wz.o _) ?_));all_goals(go_wp2;go_meet)
  all_goals exact(show Bx _ _ _ from by first
   |simpa [eV]using bZ.o.drew.set 3 2 rfl (xI (v:Int))
   |simpa [eV]using(bZ.o.set 3 2 rfl (xI (v:Int))).drew)
 have cR:=hcut;clear q0 q1 q2 y0 x0 x1 x2 x3 o0 o1 o2 o3 f2;have⟨W3,hW3⟩:=dd (wc);subst hW3;have y0:=one_cell (cR.o.cP rfl);have⟨o0,o1,o2,o3⟩:=aU (cR.o.Au rfl);go_wp2_with fail;refine(uN.o _ cR.o.1 (by have:=cR.o.cM;exact this)).mono ?_;rintro e w4⟨_,rfl,⟨fv,rfl,hf⟩,eZ⟩;have hf':=hf;obtain⟨ga,gc,rfl,_⟩:=hf'.bj;have fh:=aV (cR.o.aT eZ);have HF4:=aV hf;clear hf eZ y0 o0 o1 o2 o3;have h3:=λo=>aU ((fh.o.alloc o).Au rfl);have g3:=λo=>aY ((fh.o.alloc o).Au rfl) 3;have x3:=λo=>aU ((fh.o.alloc o).cZ rfl);go_upto_region 4 with fail;have⟨W4,hW4⟩:=dd (w4.alloc (dP l.bu.aX (xL ga (bV l v).aW.length gc)));have jF:=aV (show Bx w [iq (xL (b,off) ls.length lc),uy ⟨xc,xv,xs,xk⟩ (xL va xs.length vc),eV ⟨0,0,0,[]⟩ (),eV ⟨id,(k:Int),(v:Int),[]⟩ ()] W4 by rw[hW4];exact fh.o.alloc _);have Yv:=aV (show ed W4 w4 (dP l.bu.aX (xL ga (bV l v).aW.length gc))by rw[hW4];exact az w4 _);have HF5:=aV (show aS (eo M w 4) W4 (xL ga (bV l v).aW.length gc) (bV l v).aW by rw[hW4];exact HF4.o.aT cU);unfold dP at hW4;rw[<-hW4];clear hW4 h3 g3 x3;have⟨c0,c1⟩:=aZ Yv.o;have⟨x0,x1,x2,x3⟩:=aU (jF.o.cZ rfl);go_wp2_with fail;refine(HVA.o _ _ jF.o.1 (by have:=jF.o.cM;exact this) HF5.o).mono ?_;rintro e w6⟨_,rfl,⟨vs,hvo,hsl⟩,kN⟩;have CQ:=hsl;obtain⟨ua,uc,rfl,_⟩:=CQ.bj;have ph:=aV (jF.o.aT kN);have vL:=aV hsl;have Yw:=aV hvo;clear hsl kN hvo c0 c1 x0 x1 x2 x3;have⟨o0,o1,o2,o3⟩:=aU (ph.o.Au rfl);have f3:=aY (ph.o.Au rfl) 3;have⟨r0,r1,r2,r3⟩:=aU (ph.o.im rfl);have⟨f20,f21,f22,f23⟩:=iS (ph.o.im rfl);have po:Hd (∀W',W'=((((w6.setCell ([w,w,w],3) (xL ua vs.length uc)).setCell ([w,w],0) id).setCell ([w,w],1) (xI (k:Int))).setCell ([w,w],2) (xI (v:Int))).setCell ([w,w],3) (xL ua vs.length uc)->(∃(k2 v2:Nat)(l2:bQ)(vs2:List bE)(uv:bt),Value.agg #[id,xI (k:Int),xI (v:Int),xL ua vs.length uc]= .agg #[id,xI (k2:Int),xI (v2:Int),uv]/\jS ls br ⟨id,(k2:Int),(v2:Int),vs2⟩ k2 v2 l2/\aS M W' uv vs2)/\bC w W'):=λW' hW'=>by
  have E:Ev (eo M w 4) w6 M W':=by
   rw[hW'];exact(((((Ev.eO w6 λi hi=> .inl hi).setCell (.inl (.inr ⟨by simp;omega,by simp⟩)) _).setCell (.inl (.inr ⟨by simp;omega,by simp⟩)) _).setCell (.inl (.inr ⟨by simp;omega,by simp⟩)) _).setCell (.inl (.inr ⟨by simp;omega,by simp⟩)) _).setCell (.inl (.inr ⟨by simp;omega,by simp⟩)) _
  refine⟨⟨k,v,l,vs,_,rfl,⟨rfl,rfl,JC.o,by omega,Yw.o⟩,vL.o.ev E⟩,?_⟩;rw[hW'];exact((((ph.o.1.setCell (by simp;omega) _).setCell (by simp;omega) _).setCell (by simp;omega) _).setCell (by simp;omega) _).setCell (by simp;omega) _
 go_wp2_with fail;exact ah (v:= .agg #[id,xI (k:Int),xI (v:Int),xL ua vs.length uc]) (by simp[results,results17,go_sem,r0,r1,r2,r3,f20,f21,f22,f23]) rfl ⟨_,rfl,po.o _ rfl⟩
end
section
open Go.RowKit Go.Shelf
def qB {t:cq}{v:bE}(h:eF t br v)(k:Int):(dm k v).length<=12:=by
 unfold dm;split
 .simp
 rw[aL];refine aH (List.length_filter_le _ _) ?_;rcases h with⟨_,l,rfl,hl,_⟩|⟨_,h1⟩
 .exact hl
 rcases h1 with⟨_,n,rfl,_⟩|⟨_,s,rfl,_⟩|⟨_,rfl|⟨n,rfl,_⟩⟩<;>simp[bE.list]
def Za(v:bt):Obj:=xK #[v] 65
structure yd(jj:Int)(w w2:bq)(vs:List bE)(i:Nat)(lv:bt)(W:bq):Prop where
 blk:W.heap[w.heap.size+1]? =some (Za lv)
 acc:bP (α:=Int) xF (↑w2+2) 3 W lv ((vs.take i).flatMap (dm jj))
 aT:bC w W
 len:((vs.take i).flatMap (dm jj)).length<=12*i
def Cb {w:bq}{x:Int}(h:bD.rep M w cs x):bD.rep M' w' cs x:=h
section
variable {jj:Int}{w w2 W A B:bq}{vs:List bE}{i:Nat}{lv:bt}{S:bY}
def yd.only(h:yd jj w w2 vs i lv A)(ho:bh S A B)(hS:∀j,S j->w.heap.size+2<=j/\j<w2.heap.size+2):yd jj w w2 vs i lv B:=
 ⟨ho.at_ h.blk (λh=>by have:=(hS _ h).1;omega),h.acc.KX ho (λj hj=>(hS j hj).2) Cb,cr h.aT h.aT.size ho (λj hj=>by have:=(hS j hj).1;omega),h.len⟩
def yd.later(h:yd jj w w2 vs i lv A)(hb:bC A B):yd jj w w2 vs i lv B:=
 ⟨(hb.block _ (ab.1 h.blk).1).trans h.blk,h.acc.aT hb,h.aT.trans (hb.mono h.aT.size),h.len⟩
def yd.next(h:yd jj w w2 vs i lv A)(hw:w.heap.size+1<w2){v:bE}{t:cq}(hv:vs[i]? =some v)(ho:eF t br v){l2:bt}(hacc:bP (α:=Int) xF (↑w2+2) 3 B l2 ((vs.take i).flatMap (dm jj)++dm jj v))(hb:Below (↑w2+2) A B)(hA:w2.heap.size+2<=A):
 yd jj w w2 vs (i+1) l2 (B.setCell ([w],0) l2)/\bh (NF (λj=>j=[w]) w2 0) A (B.setCell ([w],0) l2):=by
 have e:(vs.take (i+1)).flatMap (dm jj)=(vs.take i).flatMap (dm jj)++dm jj v:=by rw[ao,hv,List.flatMap_append];simp
 have hblk:=(hb.block [w] (by omega)).trans h.blk;have o1:bh (λj=>j=[w]) B (B.setCell ([w],0) l2):=(bh.refl (λj=>j=[w]) B).setCell (p:=⟨[w],0,none⟩) (.inl rfl) _;refine⟨⟨?_,?_,?_,?_⟩,?_⟩
 .have:=aA B [w] 0 _ _ l2 hblk;simpa [Za]using this
 .rw[e];exact hacc.KX o1 (λj hj=>by have:j=[w]:=hj;omega) Cb
 .exact(h.aT.trans (hb.mono (by omega))).setCell (by show w.heap.size<=[w];omega) _
 .have:=h.len;have:=qB ho jj;rw[e,aJ];omega
 refine bh.trans ?_ (o1.mono λj hj=> .inl hj);exact⟨hb.os,hb.tape,hb.output,hb.size,λj hj hS=>hb.block j (Classical.byContradiction λhc=>hS (.inr (by omega)))⟩
end
def Kd(jj:Int)(f:Nat)(hjf:(jj=3/\f=64)\/(jj=4/\f=66))(x:cm)(br:Int)(hm:br<=100000)(fs:List bJ)(hfs:cD fs br x.bR)(h8:x.bR.length<=8)(M:bY)(w:bq)(hM:Bd M w)(vv:bt)(hvs:aS M w vv x.bR)(hT:Tb w):
 xC f #[.agg #[x.id,x.dz,x.dB,vv]] w (de w λv w'=>∃B,w.heap.size<=B/\bP (α:=Int) xF B 3 w' v (x.bR.flatMap (dm jj))):=by
 have HM:=aV hM;have TC:Hd (∀p W,bC w W->w.heap.size+1<W->cX W p (F8 vv)->Hi prog 211 #[xP p] W (λj=>j=[w]) 0 0 (yb x.bR (Ca M w)) (λi=>i=x.bR.length)):=λp W h1 h3 h2=>DN x.bR M (λj=>j=[w]) p w W h1 vv hvs h2 (λj h=>by have:j=[w]:=h;omega);have Yw:Hd (∀(i:Nat)v,x.bR[i]? =some v->∃t,eF t br v):=λi v hi=>by
  have⟨f,_,hf⟩:=fI hfs v (ai hi);exact⟨_,hf⟩
 rcases hjf with⟨hj,rfl⟩|⟨hj,rfl⟩;have HR:Hd (∀W(i:Nat)v u N,x.bR[i]? =some v->bC w W->Bd N W->dq N W u v->xC 146 #[u] W (de W λr w'=>aS N w' r (dm jj v))):=aV (by
  subst hj;intro W i v u N hi hb hN hu;have⟨f,_,hf⟩:=fI hfs v (ai hi);exact DE hf hm hN hu (hT.aT hb));rotate_left;have HR:Hd (∀W(i:Nat)v u N,x.bR[i]? =some v->bC w W->Bd N W->dq N W u v->xC 148 #[u] W (de W λr w'=>aS N w' r (dm jj v))):=aV (by
  subst hj;intro W i v u N hi hb hN hu;have⟨f,_,hf⟩:=fI hfs v (ai hi);exact AA hf hm hN hu (hT.aT hb));rotate_left;all_goals
  have⟨i0,hi0,hz0,hz1,hz2⟩:=info_parts sF;obtain⟨xi,xc,xv,xs⟩:=x;dsimp only at*;obtain⟨a,cY,rfl,dN,hmx,_⟩:=hvs.bj;generalize hn:xs.length=n at*;have fB:=aV hn;clear hn;clear hvs hfs hM hT;clear hj
 refine callsIn_wide.1 (callsIn_of_wp_marks (n:=0) func64 rfl trivial (wpIn_wide.2 ?_) rfl);simp only[ntmps64,List.size_toArray,aC,aD,Nat.reduceAdd,Nat.reduceSub,Array.replicate_succ,Array.replicate_zero,List.push_toArray,List.append_toArray,List.nil_append,List.cons_append];rotate_left;refine callsIn_wide.1 (callsIn_of_wp_marks (n:=0) func66 rfl trivial (wpIn_wide.2 ?_) rfl);simp only[ntmps66,List.size_toArray,aC,aD,Nat.reduceAdd,Nat.reduceSub,Array.replicate_succ,Array.replicate_zero,List.push_toArray,List.append_toArray,List.nil_append,List.cons_append];rotate_left;all_goals
  go_wp2_with fail;refine ey (Kc _ _ _ _) ?_;go_wp2_with fail;have⟨w2,hw2⟩:=dd (((w.alloc (eV ⟨xi,xc,xv,xs⟩ (xL a n cY))).alloc (Za ())).alloc (F8 (xL a n cY)));have bZ:=aV (show Bx w [eV ⟨xi,xc,xv,xs⟩ (xL a n cY),Za (),F8 (xL a n cY)] w2 by rw[hw2];exact Bx.iN w _ _ _);have qgm:w2.heap.size=↑w+3:=by rw[hw2];simp
  unfold eV Za F8 at hw2;rw[<-hw2];clear hw2;have zp:=aV (TC.o _ w2 bZ.o.1 (by omega) (bZ.o.im rfl));refine wpIn_wide.1 (qA rfl (enters_of func211 (by kernel_rfl) rfl) (λj=>j=[w]) 0 0 (yb xs (Ca M w)) (λi=>i=n) zp.o (λi args i' W h=>by obtain⟨_,v,u,_,rfl,_⟩:=h;rfl) (λj hj=>by have:j=[w]:=hj;omega)
   (λi W=>∃lv,yd jj w w2 xs i lv W) (λ_ _=>False) (λi A B⟨lv,h⟩ho=>⟨lv,h.only ho (λj hj=>⟨by have:=hj.1;omega,by have:=hj.2;omega⟩)⟩) (λc A B h _=>h) ⟨_,⟨bZ.o.cZ rfl,bP.nil _ _ _ _,bZ.o.1,by simp⟩⟩ ?hround ?hdone ?hstop);case hstop=>intro c W h;exact h.elim
  case hround=>
   intro l i args i' W hI hTl hsz;obtain⟨rfl,v,u,hv,rfl,hu⟩:=hTl;obtain⟨lv,hI⟩:=hI;have HI:=aV hI;have HV:=aV hv;have HU:=aV hu;obtain⟨vk,vn,vs,vl⟩:=v;obtain⟨va,vc,rfl,_⟩:=ec hu;clear hI hv hu;gi_wp2_with(rw[Oper.semAt_eq _ _ _ (λc h=>by cases h)];go_simp;try go_bits);refine⟨(bh.refl _ W).alloc _,λW2 ho2 hzW=> ?_⟩;have ni:Hd (yd jj w w2 xs i lv W2):=(HI.o.later cU).only ho2 (λj hj=>by have:j=[w2]:=hj;omega);have HU2:Hd (dq (Ca M w) W2 (.agg #[vk,vn,vs,xL va vl.length vc]) (bE.mk vk vn vs vl)):=HU.o.ev ⟨((bh.refl _ W).alloc _).trans (ho2.mono λj hj=> .inr (by have:j=[w2]:=hj;omega)),λj hj=> .inl hj⟩;have Re:=ho2.at_ (az W (fT vk vn vs (xL va vl.length vc))) (by show¬W.heap.size=[w2];omega);have⟨q0,q1,q2,q3⟩:=aU Re;have HPC:=aV Re;have l0:zB W2 w 0 lv:=one_cell ni.o.blk;clear Re ho2;gi_wp2_with(rw[Oper.semAt_eq _ _ _ (λc h=>by cases h)];go_simp;try go_bits);have HVT:=Yw.o i _ HV.o;obtain⟨vt,Yx⟩:=HVT;have HVT:=aV Yx;have Ns:=aV (qB Yx jj);have hi8:i<n:=by have:=(ag.1 HV.o).1;have:=fB.o;omega
   have qW:Hd (bC w W2.drew):=ni.o.aT.drew;have nk:Hd (Bd (cz lv λ_=>False) W2.drew):=λj hj=>hj.elim (λh=>h.elim) λh=>(ni.o.acc.dC j h).2;have Nq:Hd (dq (cz lv λ_=>False) W2.drew (.agg #[vk,vn,vs,xL va vl.length vc]) (bE.mk vk vn vs vl)):=(HU2.o.ev (Ev.eO W2 λj hj=>hj.elim (λh=>h.elim) λh=> .inr (by have:=(ni.o.acc.dC j h).1;omega))).ev ((Ev.refl _ _).drew);have WS:w2.heap.size+2<=W2:=by simp at hzW;omega
   clear Yx;refine wpIn_region_any (by kernel_rfl) ?_;change wpAnyIn _ _ _ _ _ _ _ _ _ (World.drew _);refine wpAnyIn_ready (rs:=[0,1]) (by kernel_rfl) (by simp) ?_;refine AllReadyIn.cons rfl (λK hK=> ?_) (AllReadyIn.cons rfl (λK hK=> ?_) AllReadyIn.nil)
   .go_simp;(try rw[Oper.semAt_eq _ _ _ (λc h=>by cases h)]);go_simp;(try go_bits);refine hK _ _ ?_;clear hK K;refine wpAnyIn_ready (rs:=[1]) (by kernel_rfl) (by simp) ?_;refine AllReadyIn.cons rfl (λK hK=> ?_) AllReadyIn.nil;go_simp;(try rw[Oper.semAt_eq _ _ _ (λc h=>by cases h)]);go_simp;(try go_bits);refine hK _ _ ?_;clear hK K;refine wpAnyIn_ready (rs:=[2]) (by kernel_rfl) (by simp) ?_;refine AllReadyIn.cons rfl (λK hK=> ?_) AllReadyIn.nil;go_simp;(try rw[Oper.semAt_eq _ _ _ (λc h=>by cases h)]);go_simp;(try go_bits);refine⟨trivial,rfl,(CallsIn.inRound l (callsIn_wide.2 (HR.o W2.drew i _ _ (cz lv λ_=>False) HV.o qW.o nk.o Nq.o))).mono ?_⟩;rintro e w3⟨_,rfl,qX,hb3⟩;obtain⟨ra,rc,rfl,_⟩:=qX.bj;have tO:=aV (ni.o.later ((ay W2 W2).drew.trans hb3));have jM:=aV qX;have rV:=aV (bh.bA (S:=NF (λj=>j=[w]) w2 0) ((ay W2 W2).drew.trans hb3));have wL:w2.heap.size+2<=w3:=aH WS (rV.o.size);have l3:zB w3 w 0 lv:=one_cell tO.o.blk;clear qX hb3;refine hK _ _ ?_;clear hK K;refine wpAnyIn_ready (rs:=[3]) (by kernel_rfl) (by simp) ?_;refine AllReadyIn.cons rfl (λK hK=> ?_) AllReadyIn.nil;have hlen:=tO.o.len;refine jT (α:=Int) rfl _ _ _ rfl xF (↑w2+2) 3 i0 _ 8 underlying65 hi0 hz0 hz1 hz2 rfl (by decide) lv ((xs.take i).flatMap (dm jj)) rfl tO.o.acc _ (dm jj (bE.mk vk vn vs vl)) rfl jM.o (by have:=Ns.o;unfold maxLen;omega) (by have:=Ns.o;omega) wL ?_;intro a2 c2 w4 hacc zq eZ;generalize((xs.take i).flatMap (dm jj)).length+(dm jj (bE.mk vk vn vs vl)).length=q at hacc zq⊢;have⟨uT,zZ⟩:=tO.o.next (by omega) HV.o HVT.o hacc eZ wL;have uT:=aV uT;have zZ:=aV zZ;have zr:=(eZ.block [w] (by omega)).trans tO.o.blk;have l4:zB w4 w 0 lv:=one_cell zr;have f4:=aY zr 0;clear hacc zq eZ zr;refine hK _ _ ?_;clear hK K;refine wpAnyIn_ready (rs:=[4]) (by kernel_rfl) (by simp) ?_;refine AllReadyIn.cons rfl (λK hK=> ?_) AllReadyIn.nil;go_simp;(try rw[Oper.semAt_eq _ _ _ (λc h=>by cases h)]);go_simp;(try go_bits);refine hK _ _ ?_;clear hK K;refine wpAnyIn_done (by kernel_rfl) ?_ _;simp only[Exit.inBlock];exact⟨rV.o.trans zZ.o,⟨_,uT.o⟩⟩
   go_simp;(try rw[Oper.semAt_eq _ _ _ (λc h=>by cases h)]);go_simp;(try go_bits);refine hK _ _ ?_;clear hK K;refine wpAnyIn_ready (rs:=[0,2]) (by kernel_rfl) (by simp) ?_;refine AllReadyIn.cons rfl (λK hK=> ?_) (AllReadyIn.cons rfl (λK hK=> ?_) AllReadyIn.nil)
   .go_simp;(try rw[Oper.semAt_eq _ _ _ (λc h=>by cases h)]);go_simp;(try go_bits);refine hK _ _ ?_;clear hK K;refine wpAnyIn_ready (rs:=[2]) (by kernel_rfl) (by simp) ?_;refine AllReadyIn.cons rfl (λK hK=> ?_) AllReadyIn.nil;go_simp;(try rw[Oper.semAt_eq _ _ _ (λc h=>by cases h)]);go_simp;(try go_bits);refine⟨trivial,rfl,(CallsIn.inRound l (callsIn_wide.2 (HR.o W2.drew i _ _ (cz lv λ_=>False) HV.o qW.o nk.o Nq.o))).mono ?_⟩;rintro e w3⟨_,rfl,qX,hb3⟩;obtain⟨ra,rc,rfl,_⟩:=qX.bj;have tO:=aV (ni.o.later ((ay W2 W2).drew.trans hb3));have jM:=aV qX;have rV:=aV (bh.bA (S:=NF (λj=>j=[w]) w2 0) ((ay W2 W2).drew.trans hb3));have wL:w2.heap.size+2<=w3:=aH WS (rV.o.size);have l3:zB w3 w 0 lv:=one_cell tO.o.blk;clear qX hb3;refine hK _ _ ?_;clear hK K;refine wpAnyIn_ready (rs:=[3]) (by kernel_rfl) (by simp) ?_;refine AllReadyIn.cons rfl (λK hK=> ?_) AllReadyIn.nil;have hlen:=tO.o.len;refine jT (α:=Int) rfl _ _ _ rfl xF (↑w2+2) 3 i0 _ 8 underlying65 hi0 hz0 hz1 hz2 rfl (by decide) lv ((xs.take i).flatMap (dm jj)) rfl tO.o.acc _ (dm jj (bE.mk vk vn vs vl)) rfl jM.o (by have:=Ns.o;unfold maxLen;omega) (by have:=Ns.o;omega) wL ?_;intro a2 c2 w4 hacc zq eZ;generalize((xs.take i).flatMap (dm jj)).length+(dm jj (bE.mk vk vn vs vl)).length=q at hacc zq⊢;have⟨uT,zZ⟩:=tO.o.next (by omega) HV.o HVT.o hacc eZ wL;have uT:=aV uT;have zZ:=aV zZ;have zr:=(eZ.block [w] (by omega)).trans tO.o.blk;have l4:zB w4 w 0 lv:=one_cell zr;have f4:=aY zr 0;clear hacc zq eZ zr;refine hK _ _ ?_;clear hK K;refine wpAnyIn_ready (rs:=[4]) (by kernel_rfl) (by simp) ?_;refine AllReadyIn.cons rfl (λK hK=> ?_) AllReadyIn.nil;go_simp;(try rw[Oper.semAt_eq _ _ _ (λc h=>by cases h)]);go_simp;(try go_bits);refine hK _ _ ?_;clear hK K;refine wpAnyIn_done (by kernel_rfl) ?_ _;simp only[Exit.inBlock];exact⟨rV.o.trans zZ.o,⟨_,uT.o⟩⟩
   go_simp;(try rw[Oper.semAt_eq _ _ _ (λc h=>by cases h)]);go_simp;(try go_bits);refine⟨trivial,rfl,(CallsIn.inRound l (callsIn_wide.2 (HR.o W2.drew i _ _ (cz lv λ_=>False) HV.o qW.o nk.o Nq.o))).mono ?_⟩;rintro e w3⟨_,rfl,qX,hb3⟩;obtain⟨ra,rc,rfl,_⟩:=qX.bj;have tO:=aV (ni.o.later ((ay W2 W2).drew.trans hb3));have jM:=aV qX;have rV:=aV (bh.bA (S:=NF (λj=>j=[w]) w2 0) ((ay W2 W2).drew.trans hb3));have wL:w2.heap.size+2<=w3:=aH WS (rV.o.size);have l3:zB w3 w 0 lv:=one_cell tO.o.blk;clear qX hb3;refine hK _ _ ?_;clear hK K;refine wpAnyIn_ready (rs:=[0]) (by kernel_rfl) (by simp) ?_;refine AllReadyIn.cons rfl (λK hK=> ?_) AllReadyIn.nil;go_simp;(try rw[Oper.semAt_eq _ _ _ (λc h=>by cases h)]);go_simp;(try go_bits);refine hK _ _ ?_;clear hK K;refine wpAnyIn_ready (rs:=[3]) (by kernel_rfl) (by simp) ?_;refine AllReadyIn.cons rfl (λK hK=> ?_) AllReadyIn.nil;have hlen:=tO.o.len;refine jT (α:=Int) rfl _ _ _ rfl xF (↑w2+2) 3 i0 _ 8 underlying65 hi0 hz0 hz1 hz2 rfl (by decide) lv ((xs.take i).flatMap (dm jj)) rfl tO.o.acc _ (dm jj (bE.mk vk vn vs vl)) rfl jM.o (by have:=Ns.o;unfold maxLen;omega) (by have:=Ns.o;omega) wL ?_;intro a2 c2 w4 hacc zq eZ;generalize((xs.take i).flatMap (dm jj)).length+(dm jj (bE.mk vk vn vs vl)).length=q at hacc zq⊢;have⟨uT,zZ⟩:=tO.o.next (by omega) HV.o HVT.o hacc eZ wL;have uT:=aV uT;have zZ:=aV zZ;have zr:=(eZ.block [w] (by omega)).trans tO.o.blk;have l4:zB w4 w 0 lv:=one_cell zr;have f4:=aY zr 0;clear hacc zq eZ zr;refine hK _ _ ?_;clear hK K;refine wpAnyIn_ready (rs:=[4]) (by kernel_rfl) (by simp) ?_;refine AllReadyIn.cons rfl (λK hK=> ?_) AllReadyIn.nil;go_simp;(try rw[Oper.semAt_eq _ _ _ (λc h=>by cases h)]);go_simp;(try go_bits);refine hK _ _ ?_;clear hK K;refine wpAnyIn_done (by kernel_rfl) ?_ _;simp only[Exit.inBlock];exact⟨rV.o.trans zZ.o,⟨_,uT.o⟩⟩
  case hdone=>
   intro i W hE hI hD;obtain⟨lv,hI⟩:=hI;obtain rfl:i=n:=hE;have HI:=aV hI;have HD:=aV hD;clear hI hD;have l0:zB W w 0 lv:=one_cell HI.o.blk;go_wp2_with fail;refine⟨by simp, .inl ⟨_,_,rfl,run_takeDeferred HD.o,?_⟩⟩;have o2:bh (λj=>j=w2) W (W.putObj w2 (.deferred none)):=(bh.refl (λj=>j=w2) W).putObj (.inl rfl) _;have hacc:=HI.o.acc.KX o2 (λj hj=>by have:j=w2:=hj;omega) Cb;rw[<-fB.o,List.take_length]at hacc;refine⟨lv,by simp[results,results64,results66,go_sem],_,rfl,⟨_,by omega,hacc⟩,cr HI.o.aT HI.o.aT.size o2 (λj hj=>by have:j=w2:=hj;omega)⟩
def bP.any {B:Nat}{w W:bq}(h:bP (α:=Int) xF B e W v xs)(hB:w<=B)(hM:Bd M w):aS M W v xs:=by
 obtain⟨css,k1,k2,k3⟩:=h;refine⟨css,(du.BJ k1).mono λj hj _ Wj=> ?_,k2,k3⟩;have:=(k1.lt j hj).1;have:=hM j Wj;omega
def Ke(x:cm)(br:Int)(hm:br<=100000)(fs:List bJ)(hfs:cD fs br x.bR)(h8:x.bR.length<=8)(M:bY)(w:bq)(hM:Bd M w)(vv:bt)(hvs:aS M w vv x.bR)(hT:Tb w):
 xC 64 #[.agg #[x.id,x.dz,x.dB,vv]] w (de w λv w'=>aS M w' v (x.bR.flatMap (dm 3))):=
 (Kd 3 _ (.inl ⟨rfl,rfl⟩) x br hm fs hfs h8 M w hM vv hvs hT).mono (by
   rintro e w'⟨v,rfl,⟨B,hB,h⟩,hb⟩;exact⟨_,rfl,h.any hB hM,hb⟩)
def uz(w:bq)(n:Nat):bC w (w.drewN n):=⟨rfl,rfl,rfl,cN,λ_ _=>rfl⟩
def AF:(Tryz.prog.info? 37).map (λi=>(i.zero,i.size,i.bytes))=some (some (.agg #["",xI 0]),2,24):=by kernel_rfl
def T8(r:bT):Obj:=xK #[r.aX,r.id] 37
def Sv(l:List bT)(r:bT)(hr:0<r.id)(hrn:r.aX.size<=maxLen)(h5:l.length<=5)(j d:Nat)(hj:j+d<=l.length)(Rf:∀i y,i<j->l[i]? =some y->Op.bytesLess y.aX.toList r.aX.toList=true)(hstop:∀y,l[j]? =some y->Op.bytesLess y.aX.toList r.aX.toList=false/\(y.aX.toList==r.aX.toList)=decide (d=1))(hd:d<=1)(M:bY)(w:bq)(hM:Bd M w)(lv:bt)(hl:aS M w lv l)(uP:l=[]->lv=()):
 xG 18 #[lv, .agg #[r.aX,r.id]] w λu w'=>aS M w' u (l.take j++[r]++l.drop (j+d)):=by
 have⟨i0,hi0,hz0,hz1,hz2⟩:=info_parts AF;have HR:Hd (∀i y,l[i]? =some y->_):=λi y hx=>fU hl hx;have Yy:=aV Rf;have iG:=aV hstop;have mQ:=aV hM;have C9:=aV hrn;have Ns:=aV hl;obtain⟨ra,rc,rfl,QS,Q7,_⟩:=hl.bj;have HL0:Hd (l.length=0->ra=none/\rc=0):=λh=>by
  have:=uP (aM h);simpa using(show ra=none/\l.length=0/\rc=0 by simpa using this)|>.elim (λa b=>⟨a,b.2⟩)
 have HRA:Hd (0<l.length->∃b off,ra=some ⟨b,off,none⟩):=λh=>by
  have⟨y,hy⟩:=fg l 0 h;have⟨b,off,cap,hv,_⟩:=fU hl hy;exact⟨b,off,by simpa using(show ra=some ⟨b,off,none⟩/\rc=cap by simpa using hv).1⟩
 clear hl hM Rf hstop hrn uP;generalize hn:l.length=n at*;have fB:=aV hn;clear hn;obtain⟨rn,ri⟩:=r;dsimp only at*;have hgt:decide ((0:Int)<ri)=true:=by simpa using hr
 delta xG;go_in;go_wp2;go_loopg [5,6]j(λg r5 iv wr=>∃(i c1:Nat)(a1:fM),i<=j/\g=j-i/\iv=xI i/\r5=xL a1 i c1/\Hd (bP (α:=bT) M [w] 37 wr (xL a1 i c1) (l.take i))/\Hd (Bx w [T8 ⟨rn,ri⟩] wr));exact⟨0,0,none,ax _,rfl,rfl,rfl,(bP.nil _ _ _ _),(Bx.fm w _)⟩;obtain⟨i,c1,a1,hi,rfl,rfl,rfl,HA,HB⟩:=hrel;have⟨y0,y1⟩:=aZ (HB.o.cP rfl);have qdn:(0:Int)<=(i:Int):=an _;go_upto_region 3 with fail;go_cut [20](λs20 wx=>∃nq bb,s20=xB bb/\Hd (bb=decide (i<j))/\wx=wr.drewN nq)
 .by_cases ji:i<n
  .have⟨y,hy⟩:=fg l i (by rw[fB.o];exact ji);have⟨b,off,cap,hv,hbl,_,hcells⟩:=HR.o i y hy;obtain⟨rfl,rfl⟩:=jk hv;have⟨q0,q1⟩:=hcells wr HB.o.1;have TE:(i:Int)<(n:Int):=by omega
   have qdo:Op.bytesLess y.aX.toList rn.toList=decide (i<j):=by
    by_cases hij:i<j
    .rw[Yy.o i y hij hy,decide_eq_true hij]
    obtain rfl:i=j:=by omega
    rw[(iG.o y hy).1,decide_eq_false hij]
   clear hv hcells hy;go_quiet(fail);go_wp2;go_meet;exact⟨nq,_,rfl,(show _=_ from by first|exact qdo|rfl),rfl⟩
  have TE:decide ((i:Int)<(n:Int))=false:=by simp;omega
  have hij:decide (i<j)=false:=by simp;omega
  go_quiet(fail);go_wp2;go_meet;exact⟨nq,_,rfl,(show _=_ from hij.symm),rfl⟩
 obtain⟨nq,bb,rfl,BB,rfl⟩:=hcut;cases bb with
 |true=>
  have hij:i<j:=of_decide_eq_true BB.o.symm;have⟨y,hy⟩:=fg l i (by rw[fB.o];omega);have⟨b,off,cap,hv,hbl,hyn,hcells⟩:=HR.o i y hy;obtain⟨rfl,rfl⟩:=jk hv;have⟨q0,q1⟩:=hcells wr HB.o.1;have TE:(i:Int)<(n:Int):=by omega
  have pr:=aV (show(l.take i).length=i by have:=fB.o;rw[aK];omega);have oQ:=aV (show l.take i++[y]=l.take (i+1)by rw[ao,hy];simp);have HYN:=aV hyn;obtain⟨yn,yi⟩:=y;clear hcells hv hy hyn;have hsz:=HB.o.cM;go_wp2_with(at_builtin;refine cA (α:=bT) rfl _ _ _ rfl M [w] 37 i0 _ 24 underlying32 hi0 hz0 hz1 hz2 rfl (by decide) (.slice a1 i c1) (l.take i) rfl ((HA.o.aT (uz wr nq)).alloc _) (λ_=>True) _ _ ⟨yn,yi⟩ rfl (dj _ _ _ _ rfl trivial) ⟨rfl,HYN.o⟩ (by rw[pr.o];unfold maxLen;omega) (by rw[pr.o];omega) (by have:=HB.o.cM;simp at this⊢;omega) ?_;rw[pr.o,oQ.o];intro a2 c2 w2 cF eD cJ;have dR:=aV cF;have cR:=aV cJ;clear cF eD cJ);go_roundg(j-(i+1));case measure=>omega
  case rel=>
   refine⟨i+1,c2,a2,by omega,rfl,by go_num,rfl,dR,(((HB.o.drewN nq).alloc _).ej cR.o (by simp))⟩
 |false=>
  have hij:¬i<j:=of_decide_eq_false BB.o.symm;obtain rfl:i=j:=by omega
  have pr:=aV (show(l.take i).length=i by have:=fB.o;rw[aK];omega);have wg:=aV (show(l.take i++[(⟨rn,ri⟩:bT)]).length=i+1 by rw[aJ,pr.o];rfl);have hi5:i<=5:=by omega
  have hsz:=HB.o.cM;go_upto_region 8 with(
   at_builtin;refine cA (α:=bT) rfl _ _ _ rfl M [w] 37 i0 _ 24 underlying32 hi0 hz0 hz1 hz2 rfl (by decide) (.slice a1 i c1) (l.take i) rfl ((HA.o.aT (uz wr nq)).alloc _) (λ_=>True) _ _ ⟨rn,ri⟩ rfl (dj _ _ _ _ rfl trivial) ⟨rfl,C9.o⟩ (by rw[pr.o];unfold maxLen;omega) (by rw[pr.o];omega) (by have:=HB.o.cM;simp at this⊢;omega) ?_;rw[pr.o];intro a2 c2 w2 cF eD cJ;have dR:=aV cF;have bZ:Hd (Bx w [T8 ⟨rn,ri⟩] w2):=((HB.o.drewN nq).alloc _).ej cJ (by simp);clear cF eD cJ);clear y0 y1;have⟨y0,y1⟩:=aZ (bZ.o.cP rfl);go_cut [50](λs50 wx=>∃JD bb,s50=xB bb/\Hd (bb=decide (d=1))/\wx=w2.drewN JD)
  .by_cases ji:i<n
   .have⟨y,hy⟩:=fg l i (by rw[fB.o];exact ji);have⟨b,off,cap,hv,hbl,_,hcells⟩:=HR.o i y hy;obtain⟨rfl,rfl⟩:=jk hv;have⟨q0,q1⟩:=hcells w2 bZ.o.1;have TE:(i:Int)<(n:Int):=by omega
    have HDE:=aV (iG.o y hy).2;clear hv hcells hy;go_quiet(fail);go_wp2;go_meet;exact⟨nq,_,rfl,(show _=_ from HDE.o),rfl⟩
   have TE:decide ((i:Int)<(n:Int))=false:=by simp;omega
   have WL:decide (d=1)=false:=by simp;omega
   go_quiet(fail);go_wp2;go_meet;exact⟨nq,_,rfl,(show _=_ from WL.symm),rfl⟩
  obtain⟨JD,bd,rfl,C8,rfl⟩:=hcut;have HEW:Hd (Ev M w (cz (xL a2 (i+1) c2) M) (w2.drewN JD)):=⟨bh.bA (bZ.o.drewN JD).1,λj hj=>hj.imp_right λe=>by have:=(dR.o.dC j e).1;omega⟩;cases bd with
  |true=>
   have HBE:=C8.o;obtain rfl:d=1:=by simp at HBE;omega
   have WT:=aV (show(l.drop (i+1)).length=n-(i+1)by rw[List.length_drop,fB.o]);have hw1:IntKind.i64.wrap ((i:Int)+1)=(i:Int)+1:=aw _ (by omega);have s1:(i:Int)<=(n:Int):=by omega
   have s2:(0:Int)<=(i:Int)+1:=by omega
   have s9:((i:Int)+1).toNat=i+1:=by omega
   have s4:i+1<=rc:=by omega
   have s5:i+1<=n:=hj;have s8:(i:Int)+1<=(n:Int):=by omega
   obtain⟨ap,pB⟩:∃ap,Hd (aS (cz (xL a2 (i+1) c2) M) (w2.drewN JD) (xL ap (n-(i+1)) (rc-(i+1))) (l.drop (i+1))/\((n=0/\ap=none/\ra=none/\rc=0/\i=0)\/∃b off,ra=some ⟨b,off,none⟩/\(if rc=i+1 then some (⟨b,off,none⟩:Addr)else some ⟨b,off+(i+1)*2,none⟩)=ap)):=by
    by_cases wK:n=0
    .have⟨e1,e2⟩:=HL0.o wK;refine⟨none,(show _/\_ from⟨?_, .inl ⟨wK,rfl,e1,e2,by omega⟩⟩)⟩;have e3:l=[]:=aM (fB.o.trans wK);have e4:n-(i+1)=0:=by omega
     have e5:rc-(i+1)=0:=by omega
     rw[e3,e4,e5,List.drop_nil];exact aS.nil _ _
    have⟨b,off,e1⟩:=HRA.o (by omega);refine⟨_,(show _/\_ from⟨?_, .inr ⟨b,off,e1,rfl⟩⟩)⟩;have hs2:=(Ns.o.ev HEW.o).from_ fB.o (k:=i+1) hj;rw[e1]at hs2;simpa [Addr.add,show bD.size bT=2 from rfl]using hs2
   clear HBE;rcases pB.o.2 with⟨rfl,rfl,rfl,rfl,rfl⟩|⟨b,off,rfl,hap⟩
   .omega
   go_wp2_with(at_builtin;refine dM (α:=bT) rfl _ _ _ rfl M [w] 37 i0 _ 24 underlying32 hi0 hz0 hz1 hz2 rfl (by decide) (.slice a2 (_+1) c2) (l.take _++[⟨rn,ri⟩]) rfl (dR.o.aT (uz w2 JD)) _ (l.drop (_+1)) rfl pB.o.1 (by rw[wg.o,WT.o];unfold maxLen;omega) (by rw[wg.o,WT.o];omega) (by have:=bZ.o.cM;simp at this⊢;omega) ?_;rw[wg.o,WT.o];intro a3 c3 w3 kZ zt hb3;have qq:=aV kZ;have cR:=aV hb3;clear kZ zt hb3);go_ret;have h4:=qq.o.slice (λj hj=>Nat.lt_succ_of_lt (mQ.o j hj));rw[show i+1+(n-(i+1))=n from by omega]at h4;exact⟨_,rfl,by simpa using h4,((bZ.o.drewN JD).ej cR.o (by simp)).1⟩
  |false=>
   have HBE:=C8.o;obtain rfl:d=0:=by simp at HBE;omega
   have s5:i<=n:=by omega
   have s1:(i:Int)<=(n:Int):=by omega
   have s4:i<=rc:=by omega
   clear HBE;rcases Nat.eq_zero_or_pos i with TA|TA
   .subst TA;have pB:Hd (aS (cz (xL a2 (0+1) c2) M) (w2.drewN JD) (xL ra n rc) l):=Ns.o.ev HEW.o;rcases Nat.eq_zero_or_pos n with wK|wK
    .obtain⟨rfl,rfl⟩:=HL0.o wK;subst wK;go_wp2_with(at_builtin;refine dM (α:=bT) rfl _ _ _ rfl M [w] 37 i0 _ 24 underlying32 hi0 hz0 hz1 hz2 rfl (by decide) (.slice a2 (0+1) c2) (l.take 0++[⟨rn,ri⟩]) rfl (dR.o.aT (uz w2 JD)) _ (l) rfl pB.o (by rw[wg.o,fB.o];unfold maxLen;omega) (by rw[wg.o,fB.o];omega) (by have:=bZ.o.cM;simp at this⊢;omega) ?_;rw[wg.o,fB.o];intro a3 c3 w3 kZ zt hb3;have qq:=aV kZ;have cR:=aV hb3;clear kZ zt hb3);go_ret;have h4:=qq.o.slice (λj hj=>Nat.lt_succ_of_lt (mQ.o j hj));exact⟨_,rfl,by simpa using h4,((bZ.o.drewN JD).ej cR.o (by simp)).1⟩
    obtain⟨b,off,rfl⟩:=HRA.o wK;go_wp2_with(at_builtin;refine dM (α:=bT) rfl _ _ _ rfl M [w] 37 i0 _ 24 underlying32 hi0 hz0 hz1 hz2 rfl (by decide) (.slice a2 (0+1) c2) (l.take 0++[⟨rn,ri⟩]) rfl (dR.o.aT (uz w2 JD)) _ (l) rfl pB.o (by rw[wg.o,fB.o];unfold maxLen;omega) (by rw[wg.o,fB.o];omega) (by have:=bZ.o.cM;simp at this⊢;omega) ?_;rw[wg.o,fB.o];intro a3 c3 w3 kZ zt hb3;have qq:=aV kZ;have cR:=aV hb3;clear kZ zt hb3);go_ret;have h4:=qq.o.slice (λj hj=>Nat.lt_succ_of_lt (mQ.o j hj));exact⟨_,rfl,by simpa using h4,((bZ.o.drewN JD).ej cR.o (by simp)).1⟩
   obtain⟨b,off,rfl⟩:=HRA.o (by omega);have WT:=aV (show(l.drop i).length=n-i by rw[List.length_drop,fB.o]);have⟨ap,hap⟩:=js ((if rc=i then some (⟨b,off,none⟩:Addr)else some ⟨b,off+i*2,none⟩));have qdp:¬i*2=0:=by omega
   have pB:=aV (show aS (cz (xL a2 (i+1) c2) M) (w2.drewN JD) (xL ap (n-i) (rc-i)) (l.drop i)by
    have hs2:=(Ns.o.ev HEW.o).from_ fB.o (k:=i) hj;rw[<-hap];simpa [Addr.add,show bD.size bT=2 from rfl,qdp]using hs2);go_wp2_with(at_builtin;refine dM (α:=bT) rfl _ _ _ rfl M [w] 37 i0 _ 24 underlying32 hi0 hz0 hz1 hz2 rfl (by decide) (.slice a2 (i+1) c2) (l.take i++[⟨rn,ri⟩]) rfl (dR.o.aT (uz w2 JD)) _ (l.drop i) rfl pB.o (by rw[wg.o,WT.o];unfold maxLen;omega) (by rw[wg.o,WT.o];omega) (by have:=bZ.o.cM;simp at this⊢;omega) ?_;rw[wg.o,WT.o];intro a3 c3 w3 kZ zt hb3;have qq:=aV kZ;have cR:=aV hb3;clear kZ zt hb3);go_ret;have h4:=qq.o.slice (λj hj=>Nat.lt_succ_of_lt (mQ.o j hj));exact⟨_,rfl,by simpa using h4,((bZ.o.drewN JD).ej cR.o (by simp)).1⟩
def LI:(Tryz.prog.info? 41).map (λi=>(i.zero,i.size,i.bytes))=some (some (.agg #[xI 0,xI 0,xI 0,()]),4,48):=by kernel_rfl
def DS {M:bY}{w:bq}{l:List kG}(h:aS M w v l){x:kG}(hx:l[k]? =some x):∃b off cap vv,v=xL (some ⟨b,off,none⟩) l.length cap/\b<w.heap.size/\aS (α:=Int) M w vv x.bR/\(I6 x.dz/\I6 x.dB/\I6 x.skip/\∀y∈x.bR,I6 y)/\∀W,bC w W->cC W b (off+k*4) x.dz/\cC W b (off+k*4+1) x.dB/\cC W b (off+k*4+2) vv/\cC W b (off+k*4+3) x.skip:=by
 obtain⟨a,cap,rfl,hl,_,hc⟩:=h.bj;have hk:=(ag.1 hx).1;obtain⟨b,off,rfl,_,hb,hcell⟩:=hc (by omega);obtain⟨cs,⟨vv,rfl,h1,h2⟩,hcs⟩:=hcell k x hx;refine⟨b,off,cap,vv,rfl,hb,h1,h2,λW hB=> ?_⟩;have g:∀j u,([xI x.dz,xI x.dB,vv,xI x.skip]:List bt)[j]? =some u->cC W b (off+k*4+j) u:=λj u hu=>(hB.cell (p:=⟨b,off+k*4+j,none⟩) hb).trans (hcs j u hu);exact⟨g 0 _ rfl,g 1 _ rfl,g 2 _ rfl,g 3 _ rfl⟩
def DT {M:bY}{w:bq}{l:List kP}(h:aS M w v l){x:kP}(hx:l[k]? =some x):∃b off cap,v=xL (some ⟨b,off,none⟩) l.length cap/\b<w.heap.size/\(I6 x.aX/\I6 x.id)/\∀W,bC w W->cC W b (off+k*2) x.aX/\cC W b (off+k*2+1) x.id:=by
 obtain⟨a,cap,rfl,hl,_,hc⟩:=h.bj;have hk:=(ag.1 hx).1;obtain⟨b,off,rfl,_,hb,hcell⟩:=hc (by omega);obtain⟨cs,⟨rfl,h2⟩,hcs⟩:=hcell k x hx;refine⟨b,off,cap,rfl,hb,h2,λW hB=> ?_⟩;have g:∀j u,([xI x.aX,xI x.id]:List bt)[j]? =some u->cC W b (off+k*2+j) u:=λj u hu=>(hB.cell (p:=⟨b,off+k*2+j,none⟩) hb).trans (hcs j u hu);exact⟨g 0 _ rfl,g 1 _ rfl⟩
def NH(lv ov rv:bt)(n:Int):Obj:=xK #[lv,ov,rv,n] 34
def vi(l o r:bt):Obj:=xK #[l,o,r] 26
structure lZ(M:bY)(w w1:bq)(o0 o1:Obj)(K:Nat)(lv:bt)(ls:List bQ)(br:Int)(i cap:Nat)(a:fM)(os:List cm)(nx:Int)(wr:bq):Prop where
 len:os.length=i
 ids:∀(j:Nat)(o:cm),os[j]? =some o->o.id=(j:Int)+1/\∃k v l,jS ls br o k v l
 blk:wr.heap[K]? =some (NH lv (xL a i cap) () nx)
 acc:bP (rS M w K) (K+1) 41 wr (xL a i cap) os
 ls0:aS (eo M w 2) w1 lv ls
 low:Below K w1 wr
 kw:K=w1
 bx:Bx w [o0,o1] wr
 hK:↑w+2<=K
section
variable {M:bY}{w w1 wr W:bq}{o0 o1:Obj}{K:Nat}{lv:bt}{ls:List bQ}{br:Int}{i cap:Nat}{a:fM}{os:List cm}{nx:Int}
def lZ.lt(h:lZ M w w1 o0 o1 K lv ls br i cap a os nx wr):K<wr:=(ab.1 h.blk).1
def lZ.aT(h:lZ M w w1 o0 o1 K lv ls br i cap a os nx wr)(hb:bC wr W):lZ M w w1 o0 o1 K lv ls br i cap a os nx W:=
 ⟨h.len,h.ids,(hb.block K h.lt).trans h.blk,h.acc.aT hb,h.ls0,h.low.trans (hb.mono (Nat.le_of_lt h.lt)),h.kw,h.bx.aT hb,h.hK⟩
def lZ.bd(h:lZ M w w1 o0 o1 K lv ls br i cap a os nx wr)(hM:Bd M w):Bd (cz (xL a i cap) (rS M w K)) wr:=λj hj=>by
 have hl:=h.lt;rcases hj with hj|hj
 .have:=uu hM h.hK j hj;omega
 exact(h.acc.dC j hj).2
def lZ.ev1(h:lZ M w w1 o0 o1 K lv ls br i cap a os nx wr):Ev (eo M w 2) w1 (cz (xL a i cap) (rS M w K)) wr:=
 ⟨bh.bA (by rw[<-h.kw];exact h.low),λj hj=>by
   have hk:=h.kw;rcases hj with(hj|hj)|hj
   .exact .inl hj
   .right;omega
   have:=(h.acc.dC j hj).1;right;omega⟩
def lZ.ev0(h:lZ M w w1 o0 o1 K lv ls br i cap a os nx wr):Ev M w (cz (xL a i cap) (rS M w K)) wr:=
 ⟨bh.bA h.bx.1,λj hj=>by
   have hk:=h.hK;rcases hj with((hj|hj)|hj)|hj
   .exact .inl hj
   .exact .inr hj.1
   .right;omega
   have:=(h.acc.dC j hj).1;right;omega⟩
def lZ.put(h:lZ M w w1 o0 o1 K lv ls br i cap a os nx wr)(hM:Bd M w){ob:Obj}{o:cm}{a2:fM}{c2:Nat}(cJ:bC wr w2)(hid:o.id=(i:Int)+1)(hok:∃k v l,jS ls br o k v l)(hacc:bP (rS M w K) (K+1) 41 w3 (xL a2 (i+1) c2) (os++[o]))(hb3:Below (K+1) (w2.alloc ob) w3):
 lZ M w w1 o0 o1 K lv ls br (i+1) c2 a2 (os++[o]) nx (w3.setCell (K,1) (xL a2 (i+1) c2)):=by
 have hl:=h.lt;have hK:=h.hK;have hz:=cJ.size;have hbk:cX w3 K (NH lv (xL a i cap) () nx):=(hb3.block K (by omega)).trans ((aB w2 ob K (by omega)).trans ((cJ.block K hl).trans h.blk));have hbb:Below K wr w3:=((cJ.mono (by omega)).alloc (by omega) ob).trans (hb3.mono (by omega));refine⟨by simp[h.len],λj y hj=> ?_,?_,?_,h.ls0,?_,h.kw,?_,hK⟩
 .by_cases hji:j<os.length
  .rw[aq hji]at hj;exact h.ids j y hj
  have hj2:=(ag.1 hj).1;have hlen:=h.len;simp at hj2;obtain rfl:j=i:=by omega
  have e:y=o:=by
   rw[au (by omega),show j-os.length=0 from by omega]at hj;simpa using hj.symm
  subst e;exact⟨hid,hok⟩
 .have:=aA w3 K 1 _ _ (xL a2 (i+1) c2) hbk;simpa [NH]using this
 .exact hacc.ue (p:=⟨K,1,none⟩) (.inr rfl) (by show K<K+1;omega) _
 .exact(h.low.trans hbb).setCell (ae K) _
 exact(h.bx.ej hbb (by simp;omega)).ej (B:=K) (eH.setCell (ae K) _) (by simp;omega)
def lZ.num(h:lZ M w w1 o0 o1 K lv ls br i cap a os nx wr)(n2:Int):lZ M w w1 o0 o1 K lv ls br i cap a os n2 (wr.setCell (K,3) n2):=by
 have hK:=h.hK;refine⟨h.len,h.ids,?_,?_,h.ls0,?_,h.kw,?_,hK⟩
 .have:=aA wr K 3 _ _ n2 h.blk;simpa [NH]using this
 .exact h.acc.ue (p:=⟨K,3,none⟩) (.inr rfl) (by show K<K+1;omega) _
 .exact h.low.setCell (ae K) _
 exact h.bx.ej (B:=K) (eH.setCell (ae K) _) (by simp;omega)
end
structure mV(M:bY)(w:bq)(o0 o1:Obj)(K:Nat)(lv ov rv:bt)(ls:List bQ)(os:List cm)(rs:List bT)(nx:Int)(j:Nat)(wr:bq):Prop where
 blk:wr.heap[K]? =some (NH lv ov rv nx)
 sl:aS (rS M w K) wr lv ls
 so:aS (rS M w K) wr ov os
 sr:aS (rS M w K) wr rv rs
 nil:rs=[]->rv=()
 rng:∀r∈rs,1<=r.id/\r.id<=os.length
 len:rs.length<=j
 nms:∃ks:List Nat,ks.Pairwise (·< ·)/\(∀k∈ks,k<5)/\rs.map bT.aX=ks.map vT
 bx:Bx w [o0,o1] wr
 hK:↑w+2<=K
section
variable {M:bY}{w wr W:bq}{o0 o1:Obj}{K:Nat}{lv ov rv:bt}{ls:List bQ}{os:List cm}{rs:List bT}{nx:Int}{j:Nat}
def mV.lt(h:mV M w o0 o1 K lv ov rv ls os rs nx j wr):K<wr:=(ab.1 h.blk).1
def mV.aT(h:mV M w o0 o1 K lv ov rv ls os rs nx j wr)(hb:bC wr W):mV M w o0 o1 K lv ov rv ls os rs nx j W:=
 ⟨(hb.block K h.lt).trans h.blk,h.sl.aT hb,h.so.aT hb,h.sr.aT hb,h.nil,h.rng,h.len,h.nms,h.bx.aT hb,h.hK⟩
def mV.bd(h:mV M w o0 o1 K lv ov rv ls os rs nx j wr)(hM:Bd M w):Bd (rS M w K) wr:=λi hi=>by have:=uu hM h.hK i hi;have:=h.lt;omega
def mV.Zb(h:mV M w o0 o1 K lv ov rv ls os rs nx j wr)(i:Nat)(u:bt):Ev (rS M w K) wr (rS M w K) (wr.setCell (K,i) u)/\Bx w [o0,o1] (wr.setCell (K,i) u):=
 ⟨(Ev.refl _ _).setCell (.inl (.inr rfl)) u,h.bx.ej (B:=K) (eH.setCell (ae K) _) (by have:=h.hK;simp;omega)⟩
def mV.root(h:mV M w o0 o1 K lv ov rv ls os rs nx j wr){rv2:bt}{rs2:List bT}(hb:bC wr w2)(hs:aS (rS M w K) w2 rv2 rs2)(hne:rs2≠[])(hr:∀r∈rs2,1<=r.id/\r.id<=os.length)(hl:rs2.length<=j+1)(hn:∃ks:List Nat,ks.Pairwise (·< ·)/\(∀k∈ks,k<5)/\rs2.map bT.aX=ks.map vT):
 mV M w o0 o1 K lv ov rv2 ls os rs2 nx (j+1) (w2.setCell (K,2) rv2):=by
 have h2:=h.aT hb;have⟨hE,hB⟩:=h2.Zb 2 rv2;refine⟨?_,h2.sl.ev hE,h2.so.ev hE,hs.ev hE,λe=>absurd e hne,hr,hl,hn,hB,h.hK⟩;have:=aA w2 K 2 _ _ rv2 h2.blk;simpa [NH]using this
def mV.num(h:mV M w o0 o1 K lv ov rv ls os rs nx j wr)(n2:Int):mV M w o0 o1 K lv ov rv ls os rs n2 j (wr.setCell (K,3) n2):=by
 have⟨hE,hB⟩:=h.Zb 3 n2;refine⟨?_,h.sl.ev hE,h.so.ev hE,h.sr.ev hE,h.nil,h.rng,h.len,h.nms,hB,h.hK⟩;have:=aA wr K 3 _ _ n2 h.blk;simpa [NH]using this
def lZ.bB {w1:bq}{cap:Nat}{a:fM}{i:Nat}{br:Int}(h:lZ M w w1 o0 o1 K lv ls br i cap a os nx wr)(hM:Bd M w):mV M w o0 o1 K lv (xL a i cap) () ls os [] nx 0 wr:=
 ⟨h.blk,(h.ls0.ev h.ev1).ev (Ev.eO _ λi hi=> .inl hi),h.acc.slice (uu hM h.hK),aS.nil _ _,λ_=>rfl,λr hr=>(by cases hr),cN,⟨[],by simp,by simp,rfl⟩,h.bx,h.hK⟩
def mV.fin(h:mV M w o0 o1 K lv ov rv ls os rs nx j wr)(hsc:eS ls)(hsf:Y5 ls)(hol:os.length<=10)(qdq:∀(i:Nat)(o:cm),os[i]? =some o->o.id=(i:Int)+1/\∃k v l,jS ls (os.length:Int) o k v l)(hj:j<=5)(rW:(os.length:Int)+1<=nx/\nx<=(os.length:Int)+3)(W':bq)(hW':W'=(((wr.setCell ([w],0) lv).setCell ([w],1) ov).setCell ([w],2) rv).setCell ([w],3) nx):
 (∃(x:bU)(Rh UE Ri:bt),B9 x/\Value.agg #[lv,ov,rv,nx]= .agg #[Rh,UE,Ri,x.next]/\aS M W' Rh x.bH/\aS M W' UE x.bN/\aS M W' Ri x.bB)/\bC w W':=by
 have hm:rS M w K [w]:= .inl (.inr ⟨by omega,by omega⟩);have E:Ev (rS M w K) wr M W':=by
  rw[hW'];exact((((Ev.eO wr λi hi=> .inl (.inl hi)).setCell (.inl hm) _).setCell (.inl hm) _).setCell (.inl hm) _).setCell (.inl hm) _
 refine⟨⟨⟨ls,os,rs,nx⟩,lv,ov,rv,⟨hsc,hol,qdq,aH h.len hj,h.rng,h.nms,rW,hsf⟩,rfl,h.sl.ev E,h.so.ev E,h.sr.ev E⟩,?_⟩;rw[hW'];exact(((h.bx.1.setCell (by simp) _).setCell (by simp) _).setCell (by simp) _).setCell (by simp) _
end
theorem AG(q:Nat):∀ks:List Nat,ks.Pairwise (·< ·)->∃j d,j+d<=ks.length/\d<=1/\(∀i y,i<j->ks[i]? =some y->y<q)/\(∀y,ks[j]? =some y->¬y<q/\(y=q↔d=1))/\(ks.take j++[q]++ks.drop (j+d)).Pairwise (·< ·)
 |[],_=>⟨0,0,by simp,by omega,λi y h=>by omega,λy h=>by simp at h,by simp⟩
 |k::r,hp=>by
  have Gj:=List.pairwise_cons.1 hp;rcases Nat.lt_trichotomy k q with cE|rfl|hgt
  .have⟨j,d,h1,h2,h3,h4,h5⟩:=AG q r Gj.2;refine⟨j+1,d,by simp;omega,h2,λi y hi hy=> ?_,λy hy=> ?_,?_⟩
   .match i,hi,hy with
    |0,_,hy=>simp at hy;omega
    |i+1,hi,hy=>exact h3 i y (by omega) (by simpa using hy)
   .exact h4 y (by simpa using hy)
   rw[show j+1+d=(j+d)+1 from by omega];simp only[List.take_succ_cons,List.drop_succ_cons,List.cons_append];refine List.pairwise_cons.2 ⟨λy hy=> ?_,h5⟩;simp only[aI,aR]at hy;rcases hy with(hy|rfl)|hy
   .exact Gj.1 y (List.mem_of_mem_take hy)
   .exact cE
   exact Gj.1 y (List.mem_of_mem_drop hy)
  .refine⟨0,1,by simp,by omega,λi y h=>by omega,λy hy=> ?_,?_⟩
   .simp at hy;omega
   simpa using hp
  refine⟨0,0,by simp,by omega,λi y h=>by omega,λy hy=> ?_,?_⟩
  .simp at hy;omega
  simp only[List.take_zero,List.nil_append,Nat.add_zero,List.drop_zero,List.singleton_append];refine List.pairwise_cons.2 ⟨λy hy=> ?_,hp⟩;rcases aO.1 hy with rfl|hy
  .exact hgt
  exact Nat.lt_trans hgt (Gj.1 y hy)
def LJ {rs:List bT}{ks:List Nat}(h1:ks.Pairwise (·< ·))(h2:∀k∈ks,k<5)(h3:rs.map bT.aX=ks.map vT)(q:Nat)(hq:q<5):∃j d,j+d<=rs.length/\d<=1/\(∀i y,i<j->rs[i]? =some y->Op.bytesLess y.aX.toList (vT q).toList=true)/\(∀y,rs[j]? =some y->Op.bytesLess y.aX.toList (vT q).toList=false/\(y.aX.toList==(vT q).toList)=decide (d=1))/\∀id:Int,∃ks':List Nat,ks'.Pairwise (·< ·)/\(∀k∈ks',k<5)/\(rs.take j++[(⟨vT q,id⟩:bT)]++rs.drop (j+d)).map bT.aX=ks'.map vT:=by
 have hl:rs.length=ks.length:=by have:=congrArg List.length h3;simpa using this
 have at_:∀(i:Nat)(y:bT),rs[i]? =some y->∃k,ks[i]? =some k/\k<5/\y.aX=vT k:=λi y hy=>by
  have hk:=(ag.1 hy).1;have e:(rs.map bT.aX)[i]? =(ks.map vT)[i]? :=by rw[h3]
  rw[List.getElem?_map,List.getElem?_map,hy]at e;have⟨k,hk2⟩:=fg ks i (by omega);rw[hk2]at e;exact⟨k,hk2,h2 k (ai hk2),by simpa using e⟩
 have⟨j,d,a1,a2,a3,a4,a5⟩:=AG q ks h1;refine⟨j,d,by omega,a2,λi y hi hy=> ?_,λy hy=> ?_,λid=>⟨_,a5,λk hk=> ?_,?_⟩⟩
 .have⟨k,k1,k2,k3⟩:=at_ i y hy;rw[k3,x8 k k2 q hq];exact decide_eq_true (a3 i k hi k1)
 .have⟨k,k1,k2,k3⟩:=at_ j y hy;have⟨b1,b2⟩:=a4 k k1;rw[k3,x8 k k2 q hq,ON k k2 q hq];exact⟨decide_eq_false b1,by rw[decide_eq_decide];exact b2⟩
 .simp only[aI,aR]at hk;rcases hk with(hk|rfl)|hk
  .exact h2 k (List.mem_of_mem_take hk)
  .exact hq
  exact h2 k (List.mem_of_mem_drop hk)
 simp only[List.map_append,List.map_take,List.map_drop,h3,List.map_cons,List.map_nil]
end
section
open Go.ChangeShapes Go.WideShapes Go.ChangeAt Go.RowKit Go.Deep
def LK {x:Int}(h:(Lit.int .i64 x).wf=true):I6 x:=by
 unfold I6;simpa [Lit.wf,IntKind.min,IntKind.max,IntKind.signed,IntKind.bits]using h
def Hm {W:bq}{a:Addr}(h:W.cell? a=some v):a.spot=none:=by
 unfold World.cell? at h;split at h
 .split at h
  .cases h
  rename_i h1;simpa using h1
 cases h
theorem sI {α:Type}{Q:Nat->α->Prop}:∀(n:Nat),(∀i,i<n->∃c,Q i c)->∃cs:List α,cs.length=n/\∀j c,cs[j]? =some c->Q j c
 |0,_=>⟨[],rfl,λj c h=>by simp at h⟩
 |n+1,h=>by
  have⟨cs,hl,hc⟩:=sI n λi hi=>h i (by omega);have⟨c,hcn⟩:=h n (by omega);refine⟨cs++[c],by simp[hl],λj d hj=> ?_⟩;by_cases hjn:j<n
  .rw[aq (by omega)]at hj;exact hc j d hj
  have hj2:j<(cs++[c]).length:=(ag.1 hj).1;have:j=n:=by simp[hl]at hj2;omega
  subst this;rw[au (by omega),hl]at hj;simp at hj;subst hj;exact hcn
theorem sJ {size:Nat}:∀(css:List (List bt)),(∀cs∈css,cs.length=size)->css.flatten.length=css.length*size
 |[],_=>by simp
 |a::r,h=>by
  rw[List.flatten_cons,aJ,sJ r (λcs hc=>h cs (List.mem_cons_of_mem _ hc)),h a List.mem_cons_self,aC,Nat.succ_mul];omega
def Rd {H:Type}(enc:TypeId×bt->H)(W:bq)(t:TypeId)(cs:List bt):Prop:=∃fuel x,DataW.trod enc prog W 0 (λ_=>true) true fuel t cs=some x
section
variable {H:Type}{enc:TypeId×bt->H}{W:bq}
def gY(h:Rd enc W 3 cs):∃z,cs=[xI z]/\I6 z:=by
 obtain⟨n,x,h⟩:=h;have⟨z,e,_,w⟩:=DataW.trod_int underlying3 h;exact⟨z,e,LK w⟩
def Sw(h:Rd enc W 4 cs):∃z,cs=[xB z]:=by
 obtain⟨n,x,h⟩:=h;have⟨z,e,_⟩:=DataW.trod_bool underlying4 h;exact⟨z,e⟩
def dU {fs:Array Field}(he:Tryz.prog.underlying t=some (.struct fs))(h:Rd enc W t cs)(j:Nat)(f:Field)(hj:fs[j]? =some f):Rd enc W f.type ((cs.drop f.offset).take (Tryz.prog.cellsOf f.type)):=by
 obtain⟨n,x,h⟩:=h;have⟨ys,n',hn',hy,hlen,hyl,hf⟩:=DataW.trod_struct he h;have zx:j<fs.size:=(ab.1 hj).1;exact⟨n',_,(hf j f hj).trans (af (by omega))⟩
def OP {α:Type} [bD α]{ts te:TypeId}{fuel:Nat}{Q:α->Prop}(hts:Tryz.prog.underlying ts=some (.slice te))(hsz:Tryz.prog.cellsOf te=bD.size α)(tN:0<bD.size α)
 (each:∀n cs,n<fuel->cs.length=bD.size α->(∃x,DataW.trod enc prog W 0 (λ_=>true) true n te cs=some x)->∃y:α,bD.rep xF W cs y/\Q y)(h:∃x,DataW.trod enc prog W 0 (λ_=>true) true fuel ts [v]=some x):∃ys:List α,aS xF W v ys/\∀y∈ys,Q y:=by
 obtain⟨x0,h⟩:=h;rcases DataW.trod_slice hts h with h0|⟨a,len,cap,elems,rest,n,hf,hcs,hx,hb,hl,hm,hle,hi,_⟩
 .have:=h0.1;simp at this;subst this;exact⟨[],aS.nil _ _,λy hy=>by cases hy⟩
 simp at hcs;subst hcs;have⟨ps,hlen,hps⟩:=sI (Q:=λi(p:List bt×α)=>p.1.length=bD.size α/\bD.rep xF W p.1 p.2/\Q p.2/\∀(j:Nat)(u:bt),p.1[j]? =some u->W.cell? (a.add (i*bD.size α+j))=some u) len (λi wJ=>by
  obtain⟨cs',hc,BA⟩:∃cs',W.cells? 0 (a.add (i*Tryz.prog.cellsOf te)) (Tryz.prog.cellsOf te)=some cs'/\DataW.trod enc prog W 0 (λ_=>true) true n te cs'=some (elems[i]'(by omega)):=
   Option.bind_eq_some_iff.1 ((hi i wJ).trans (af (by omega)));rw[hsz]at hc;have⟨_,hcl,hat⟩:=World.cells?_some hc;have⟨y,h1,h2⟩:=each n cs' (by omega) hcl ⟨_,BA⟩;refine⟨(cs',y),hcl,h1,h2,λj u hu=> ?_⟩;have hj:j<bD.size α:=by rw[<-hcl];exact(ag.1 hu).1
  rw[<-Go.Deep.add_add,hat j hj,hu]);have TF:∀(i:Nat)(cs:List bt),(ps.map (·.1))[i]? =some cs->cs.length=bD.size α:=λi cs hc=>by
  rw[List.getElem?_map]at hc;obtain⟨p,hp,rfl⟩:=Option.map_eq_some_iff.1 hc;exact(hps i p hp).1
 have JE:(ps.map (·.1)).flatten.length=len*bD.size α:=by
  rw[sJ _ (λcs hcs=>by have⟨i,hi⟩:=aP hcs;exact TF i cs hi),aL,hlen]
 refine⟨ps.map (·.2),⟨ps.map (·.1),⟨by rw[JE,aL,hlen],some a,cap,by rw[aL,hlen],by rw[aL];omega,hm,λhp=> ?_⟩,by simp,λi cs x hc hx=> ?_⟩,λy hy=> ?_⟩
 .rw[aL,hlen]at hp;have h0:W.cell? (a.add 0)≠none:=by
   have⟨p,hp0⟩:=fg ps 0 (by omega);have⟨e1,_,_,e4⟩:=hps 0 p hp0;have⟨u,hu⟩:=fg p.1 0 (by omega);have:=e4 0 u hu;rw[Nat.zero_mul]at this;rw[this];simp
  have⟨u0,hu0⟩:=Option.ne_none_iff_exists'.1 h0;simp[Addr.add]at hu0;obtain⟨b,off,sp⟩:=a;have Yj:=Hm hu0;simp at Yj;subst Yj;have hbl:=pI hu0;have ea:∀k,(Addr.add ⟨b,off,none⟩ k)=⟨b,off+k,none⟩:=λk=>by
   unfold Addr.add;split
   .rename_i h;subst h;rfl
   rfl
  refine⟨b,off,rfl,λhf=>hf,hbl,λj u hu=> ?_⟩;have hj:j<len*bD.size α:=by rw[<-JE];exact(ag.1 hu).1
  have WG:j/bD.size α<len:=(Nat.div_lt_iff_lt_mul tN).2 hj;have hr2:j%bD.size α<bD.size α:=Nat.mod_lt _ tN;have⟨p,hp1⟩:=fg ps (j/bD.size α) (by omega);have⟨e1,_,_,e4⟩:=hps _ p hp1;obtain⟨u',hu'⟩:∃u',p.1[j%bD.size α]? =some u':=⟨_,af (by omega)⟩;have e5:=jt TF (j/bD.size α) p.1 (j%bD.size α) u' (by rw[List.getElem?_map,hp1];rfl) hu';have e6:j/bD.size α*bD.size α+j%bD.size α=j:=by rw[Nat.mul_comm];exact Nat.div_add_mod _ _
  rw[e6,hu]at e5;obtain rfl:=Option.some.inj e5;have:=e4 _ _ hu';rw[ea,e6]at this;exact this
 .rw[List.getElem?_map]at hc hx;obtain⟨p,hp,rfl⟩:=Option.map_eq_some_iff.1 hc;rw[hp]at hx;obtain rfl:=Option.some.inj hx;exact(hps i p hp).2.1
 obtain⟨p,hp,rfl⟩:=aQ.1 hy;have⟨i,WG⟩:=aP hp;exact(hps i p WG).2.2.1
def qC {α:Type} [bD α]{ts te:TypeId}{Q:α->Prop}(hts:Tryz.prog.underlying ts=some (.slice te))(hsz:Tryz.prog.cellsOf te=bD.size α)(tN:0<bD.size α)
 (each:∀cs,cs.length=bD.size α->Rd enc W te cs->∃y:α,bD.rep xF W cs y/\Q y)(h:Rd enc W ts [v]):∃ys:List α,aS xF W v ys/\∀y∈ys,Q y:=by
 obtain⟨n0,hx⟩:=h;exact OP hts hsz tN (λn cs _ hl ht=>each cs hl ⟨n,ht⟩) hx
def Sx(h:Rd enc W 65 [v]):∃ys:List Int,aS xF W v ys/\∀y∈ys,I6 y:=
 qC (α:=Int) underlying65 (by kernel_rfl) (by decide) (λcs _ h=>by
  obtain⟨z,rfl,hz⟩:=gY h;exact⟨z,rfl,hz⟩) h
def OQ(h:cs.length=4):∃a b c d,cs=[a,b,c,d]:=by
 match cs,h with
 |[a,b,c,d],_=>exact⟨a,b,c,d,rfl⟩
def cells3(h:cs.length=3):∃a b c,cs=[a,b,c]:=by
 match cs,h with
 |[a,b,c],_=>exact⟨a,b,c,rfl⟩
def Vu(h:cs.length=2):∃a b,cs=[a,b]:=by
 match cs,h with
 |[a,b],_=>exact⟨a,b,rfl⟩
def Vv(h:cs.length=8):∃a b c d e f g i,cs=[a,b,c,d,e,f,g,i]:=by
 match cs,h with
 |[a,b,c,d,e,f,g,i],_=>exact⟨a,b,c,d,e,f,g,i,rfl⟩
end
def pT:Tryz.prog.cellsOf 3=1:=by kernel_rfl
def Zc:Tryz.prog.cellsOf 4=1:=by kernel_rfl
def qcd:Tryz.prog.cellsOf 55=2:=by kernel_rfl
def Zd:Tryz.prog.cellsOf 151=2:=by kernel_rfl
def cFs:Tryz.prog.cellsOf 149=1:=by kernel_rfl
def qce:Tryz.prog.cellsOf 152=1:=by kernel_rfl
def cIs:Tryz.prog.cellsOf 65=1:=by kernel_rfl
def cLs:Tryz.prog.cellsOf 22=1:=by kernel_rfl
def cOs:Tryz.prog.cellsOf 23=1:=by kernel_rfl
def cRs:Tryz.prog.cellsOf 24=1:=by kernel_rfl
section
variable {H:Type}{enc:TypeId×bt->H}{W:bq}
def DU(cs:List bt)(hl:cs.length=4)(h:Rd enc W 218 cs):∃y:ky,bD.rep xF W cs y/\True:=by
 obtain⟨a,b,c,d,rfl⟩:=OQ hl;have h0:Rd enc W 3 [a]:=by simpa [pT]using dU underlying218 h 0 _ rfl
 have h1:Rd enc W 3 [b]:=by simpa [pT]using dU underlying218 h 1 _ rfl
 have h2:Rd enc W 3 [c]:=by simpa [pT]using dU underlying218 h 2 _ rfl
 have h3:Rd enc W 4 [d]:=by simpa [Zc]using dU underlying218 h 3 _ rfl
 have⟨z0,e0,w0⟩:=gY h0;have⟨z1,e1,w1⟩:=gY h1;have⟨z2,e2,w2⟩:=gY h2;have⟨z3,e3⟩:=Sw h3;simp at e0 e1 e2 e3;subst e0 e1 e2 e3;exact⟨⟨z0,z1,z2,z3⟩,⟨rfl,w0,w1,w2⟩,trivial⟩
def OR(cs:List bt)(hl:cs.length=8)(h:Rd enc W 215 cs):∃y:gW,bD.rep xF W cs y/\True:=by
 obtain⟨a,b,c,d,e,f,g,i,rfl⟩:=Vv hl;have h0:Rd enc W 3 [a]:=by simpa [pT]using dU underlying215 h 0 _ rfl
 have h1:Rd enc W 3 [b]:=by simpa [pT]using dU underlying215 h 1 _ rfl
 have h2:Rd enc W 3 [c]:=by simpa [pT]using dU underlying215 h 2 _ rfl
 have h3:Rd enc W 3 [d]:=by simpa [pT]using dU underlying215 h 3 _ rfl
 have h4:Rd enc W 55 [e,f]:=by simpa [qcd]using dU underlying215 h 4 _ rfl
 have h5:Rd enc W 3 [g]:=by simpa [pT]using dU underlying215 h 5 _ rfl
 have h6:Rd enc W 3 [i]:=by simpa [pT]using dU underlying215 h 6 _ rfl
 have h7:Rd enc W 3 [e]:=by simpa [pT]using dU underlying55 h4 0 _ rfl
 have h8:Rd enc W 3 [f]:=by simpa [pT]using dU underlying55 h4 1 _ rfl
 have⟨z0,e0,w0⟩:=gY h0;have⟨z1,e1,w1⟩:=gY h1;have⟨z2,e2,w2⟩:=gY h2;have⟨z3,e3,w3⟩:=gY h3;have⟨z5,e5,w5⟩:=gY h5;have⟨z6,e6,w6⟩:=gY h6;have⟨z7,e7,w7⟩:=gY h7;have⟨z8,e8,w8⟩:=gY h8;simp at e0 e1 e2 e3 e5 e6 e7 e8;subst e0 e1 e2 e3 e5 e6 e7 e8;exact⟨⟨z0,z1,z2,z3,⟨z7,z8⟩,z5,z6⟩,⟨rfl,w0,w1,w2,w3,w7,w8,w5,w6⟩,trivial⟩
def Hn(cs:List bt)(hl:cs.length=3)(h:Rd enc W 154 cs):∃y:iZ,bD.rep xF W cs y/\True:=by
 obtain⟨a,b,c,rfl⟩:=cells3 hl;have h0:Rd enc W 151 [a,b]:=by simpa [Zd]using dU underlying154 h 0 _ rfl
 have h1:Rd enc W 152 [c]:=by simpa [qce]using dU underlying154 h 1 _ rfl
 have h2:Rd enc W 3 [a]:=by simpa [pT]using dU underlying151 h0 0 _ rfl
 have h3:Rd enc W 149 [b]:=by simpa [cFs]using dU underlying151 h0 1 _ rfl
 have⟨z2,e2,w2⟩:=gY h2;simp at e2;subst e2;have⟨fs,s3,_⟩:=qC (α:=ky) underlying149 (by kernel_rfl) (by decide) DU h3;have⟨chs,s1,_⟩:=qC (α:=gW) underlying152 (by kernel_rfl) (by decide) OR h1;exact⟨⟨⟨z2,fs⟩,chs⟩,⟨b,c,rfl,s3,s1,w2⟩,trivial⟩
def LM(cs:List bt)(hl:cs.length=4)(h:Rd enc W 87 cs):∃y:kG,bD.rep xF W cs y/\True:=by
 obtain⟨a,b,c,d,rfl⟩:=OQ hl;have h0:Rd enc W 3 [a]:=by simpa [pT]using dU underlying87 h 0 _ rfl
 have h1:Rd enc W 3 [b]:=by simpa [pT]using dU underlying87 h 1 _ rfl
 have h2:Rd enc W 65 [c]:=by simpa [cIs]using dU underlying87 h 2 _ rfl
 have h3:Rd enc W 3 [d]:=by simpa [pT]using dU underlying87 h 3 _ rfl
 have⟨z0,e0,w0⟩:=gY h0;have⟨z1,e1,w1⟩:=gY h1;have⟨vs,s2,w2⟩:=Sx h2;have⟨z3,e3,w3⟩:=gY h3;simp at e0 e1 e3;subst e0 e1 e3;exact⟨⟨z0,z1,vs,z3⟩,⟨c,rfl,s2,w0,w1,w3,w2⟩,trivial⟩
def Ho(cs:List bt)(hl:cs.length=2)(h:Rd enc W 90 cs):∃y:kP,bD.rep xF W cs y/\True:=by
 obtain⟨a,b,rfl⟩:=Vu hl;obtain⟨n,x,h⟩:=h;have⟨xs,m1,hm,hx1,hlen,hn3,hel⟩:=DataW.trod_array underlying90 h;have g:∀i,i<2->Rd enc W 3 (([a,b].drop (i*Tryz.prog.cellsOf 3)).take (Tryz.prog.cellsOf 3)):=λi hi=>⟨m1,_,(hel i hi).trans (af (by omega))⟩;have h0:Rd enc W 3 [a]:=by simpa [pT]using g 0 (by omega)
 have h1:Rd enc W 3 [b]:=by simpa [pT]using g 1 (by omega)
 have⟨z0,e0,w0⟩:=gY h0;have⟨z1,e1,w1⟩:=gY h1;simp at e0 e1;subst e0 e1;exact⟨⟨z0,z1⟩,⟨rfl,w0,w1⟩,trivial⟩
def OS {a b c:bt}(h:Rd enc W 26 [a,b,c]):∃(ls:List iZ)(os:List kG)(rs:List kP),aS xF W a ls/\aS xF W b os/\aS xF W c rs:=by
 have h0:Rd enc W 22 [a]:=by simpa [cLs]using dU underlying26 h 0 _ rfl
 have h1:Rd enc W 23 [b]:=by simpa [cOs]using dU underlying26 h 1 _ rfl
 have h2:Rd enc W 24 [c]:=by simpa [cRs]using dU underlying26 h 2 _ rfl
 have⟨ls,s0,_⟩:=qC (α:=iZ) underlying22 (by kernel_rfl) (by decide) Hn h0;have⟨os,s1,_⟩:=qC (α:=kG) underlying23 (by kernel_rfl) (by decide) LM h1;have⟨rs,s2,_⟩:=qC (α:=kP) underlying24 (by kernel_rfl) (by decide) Ho h2;exact⟨ls,os,rs,s0,s1,s2⟩
end
end
end Go.Proofs.YtpjdjlnknfmfkaaGreatDoor
