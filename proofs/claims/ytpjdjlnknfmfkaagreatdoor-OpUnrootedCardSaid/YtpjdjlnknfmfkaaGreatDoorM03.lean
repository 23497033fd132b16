/- A part of the proof; no condition. -/
import Derived.Test.YtpjdjlnknfmfkaaGreatDoorM01
import Derived.Shelf.Unicode.ValidAny
set_option linter.all false
set_option maxHeartbeats 8000000
set_option maxRecDepth 100000
namespace Go.Proofs.YtpjdjlnknfmfkaaGreatDoor
open Tryz
variable{v:bt}{W w w':bq}{k:Nat}
section
open Go.RowKit
def GM(M:bY)(w:bq)(of br:Int)(i:Nat)(wr:bq):Prop:=
 ∃(a:fM)(c:Nat)(xs:List bE),xs.length=i/\(∀x∈xs,mA of br x)/\bP (λi=>M i\/(w<=i/\i<↑w+4)) (↑w+4) 50 wr (xL a i c) xs/\bC w wr/\w.heap.size+4<=wr/\
  ed wr w (xK #[xI 5,of] 55)/\cX wr [w] (xK jl 50)/\
  cX wr [w,w,w] (xK #[xI 5,xI 0,"",xL a i c] 50)
def pI {a:Addr}(h:W.cell? a=some v):a.block<W:=by
 unfold World.cell? at h;rcases Nat.lt_or_ge a.block W with cE|hge
 .exact cE
 rw[Array.getElem?_eq_none hge]at h;cases h
def dr(W:bq)(o:Obj)(p:Addr)(h:W.cell? p=some v):(W.alloc o).cell? p=some v:=
 (World.cell?_of_block (w:=W) (aB W o p.block (pI h))).trans h
def Lh(x:Int):I6 (wrap64 x):=by
 have h:=wrap64_wf x;unfold I6;simpa [Lit.wf,IntKind.min,IntKind.max,IntKind.signed,IntKind.bits]using h
def Y3 {n:Int}(h:I6 n): -2305843009213693952<=n.tdiv 4/\n.tdiv 4<=2305843009213693952:=by
 obtain⟨h1,h2⟩:=h;rcases Int.lt_or_le n 0 with h|h
 .have e:n.tdiv 4= -((-n)/4):=by
   have h3:(-n).tdiv 4=(-n)/4:=Int.tdiv_eq_ediv_of_nonneg (by omega);rw[Int.neg_tdiv]at h3;omega
  rw[e];omega
 rw[Int.tdiv_eq_ediv_of_nonneg h];omega
def GN(M:bY)(w:bq)(hM:Bd M w)(of n br:Int)(hk1:1<=of)(hk2:of<=4)(hn:I6 n)(qJ:br<=1000):
 xG 139 #[.agg #[xI 5,of],n,br] w λv w'=>∃x,eF ⟨5,of⟩ br x/\dq M w' v x:=by
 have⟨i0,hi0,hz0,hz1,hz2⟩:=info_parts iD;have⟨hd1,hd2⟩:=Y3 hn;obtain⟨hnl,hnu⟩:=hn;have HI:Hd (I6 n):=⟨hnl,hnu⟩;have hp4:=dJ n 4 (by omega);have v8:Hd (∀i,(M i\/(w.heap.size<=i/\i<w.heap.size+4))->i<w.heap.size+4):=λi h=>by rcases h with h|h;have:=hM i h;omega;omega
 delta xG;go_in;go_wp2_with fail;have⟨p,hp⟩:=dd (bW n 4);rw[<-hp]at hp4;have HP:=aV hp;go_loopg [9]p(λg iv wr=>∃i:Nat,i<=p/\g=p-i/\iv=xI i/\Hd (GM M w of br i wr))
 .refine⟨0,ax _,rfl,rfl,?_⟩;have⟨b0,b1,b2,b3,hz,hb⟩:=T4 (w:=w) (o0:=xK #[xI 5,of] 55) (o1:=xK jl 50) (o2:=xK #["",xS ⟨#[97]⟩,xS ⟨#[98,99]⟩,xS ⟨#[195,169,116,195,169]⟩,xS ⟨#[97,32,98]⟩,xS ⟨#[122,122,32,116,111,112]⟩,xS ⟨#[48]⟩,xS ⟨#[45,55]⟩] 9) (o3:=xK #[xI 5,xI 0,"",()] 50) rfl;exact(show GM M w of br 0 _ from⟨none,0,[],rfl,λx h=>(by cases h),bP.nil _ _ _ _,hb,by rw[hz];omega,b0,b1,b3⟩)
 obtain⟨i,hi,rfl,rfl,HL⟩:=hrel;have⟨a',c',xs,hxl,hxo,hacc,hbel,hsz,hb0,hb1,hb3⟩:=HL.o;have⟨t0,t1⟩:=aZ hb0;have⟨r0,r1,r2,r3⟩:=aU hb1;have⟨v0,v1,v2,v3⟩:=aU hb3;have⟨f0,f1,f2,f3⟩:=iS hb1;have QT:=aV hxl;have HXO:=aV hxo;have HA:=aV hacc;have Aa:=aV hbel;have ik:=aV hb0;have cu:=aV hb1;have cR:=aV hb3;by_cases cE:i<p;rotate_left
 .go_wp2_with(go_at_call 134;refine ey (gi _ _ _ HI.o (by omega) (by omega)) ?_;rw[show bW n (4:Int).toNat=p from HP.o.symm]);refine ah (v:= .agg #[xI 5,xI 0,"",xL a' i c']) (by simp[results,results139,go_sem,r0,r1,r2,r3]) rfl ⟨_,rfl,⟨.mk 5 0 mz xs, .inl ⟨rfl,xs,rfl,by rw[QT.o];omega,HXO.o⟩,_,rfl,fZ.iff.2 ⟨_,rfl,?_,iM⟩⟩,?_⟩
  .have h:=(HA.o.slice v8.o).ev (M':=M) (((((Ev.eO wr (λi h=> .inl h)).setCell (p:=⟨[w],0,none⟩) (.inl (.inr ⟨by simp,by simp⟩)) (xI 5)).setCell (p:=⟨[w],1,none⟩) (.inl (.inr ⟨by simp,by simp⟩)) (xI 0)).setCell (p:=⟨[w],2,none⟩) (.inl (.inr ⟨by simp,by simp⟩)) "").setCell (p:=⟨[w],3,none⟩) (.inl (.inr ⟨by simp,by simp⟩)) (xL a' i c'));exact h
  exact(((Aa.o.setCell (by simp) _).setCell (by simp) _).setCell (by simp) _).setCell (by simp) _
 go_upto_region 16 with(go_at_call 134;refine ey (gi _ _ _ HI.o (by omega) (by omega)) ?_;rw[show bW n (4:Int).toNat=p from HP.o.symm]);have z1:IntKind.i64.wrap (n.tdiv 4)=n.tdiv 4:=aw _ (by omega);have z2:IntKind.i64.wrap (n.tdiv 4+(i:Int))=n.tdiv 4+(i:Int):=aw _ (by omega);have ni:Hd (I6 (n.tdiv 4+(i:Int))):=⟨by omega,by omega⟩;go_region_law(first
  |(go_simp;go_at_call 139;refine(Ap (cz (xL a' i c') (λi=>M i\/(w<=i/\i<↑w+4))) _ of 0 _ br hk1 hk2 ni.o qJ).mono ?_;rintro e w1⟨_,rfl,⟨⟨yk,yn,ys,yl⟩,hy,cs,rfl,hrep⟩,hb1⟩;obtain⟨av,rfl,hsl,hss⟩:=fZ.iff.1 hrep;obtain⟨ya,yc,rfl,_⟩:=hsl.bj;have oS:Hd (bC wr w1):=((ay _ wr).drew.trans hb1);have fR:=aV hrep;have HY:=aV hy;have s1:=hb1.size;simp at s1;have k3:cC w1 [w,w,w] 3 (xL a' i c'):=(oS.o.cell (p:=⟨[w,w,w],3,none⟩) (by simp;omega)).trans v3;have k1:oT w1 w 1 of:=(oS.o.cell (p:=⟨w,1,none⟩) (by simp;omega)).trans t1;have n3:∀o,(w1.alloc o).cell? ([w,w,w],3)=some (xL a' i c'):=λo=>dr _ _ _ k3;have n0:∀o,(w1.alloc o).cell? (w,1)=some (xI of):=λo=>dr _ _ _ k1;clear hb1 hrep hsl hss hy)
  |(refine eA (α:=bE) rfl _ _ _ rfl (λi=>M i\/(w<=i/\i<↑w+4)) (↑w+4) 50 i0 _ 56 underlying39 hi0 hz0 hz1 hz2 rfl (by decide) (.slice a' i c') xs rfl ((HA.o.aT oS.o).alloc _) (λ_=>True) _ _ (.mk yk yn ys yl) rfl (dj _ _ _ _ rfl trivial) (bD.ev fR.o (Ev.bA cU)) (by rw[QT.o];unfold maxLen;omega) (by rw[QT.o];omega) (by simp;omega) ?_;rw[QT.o];intro a2 c2 w2 cF eD cJ;have dR:=aV cF;have l3:cC w2 [w,w,w] 3 (xL a' i c'):=(cJ.cell (p:=⟨[w,w,w],3,none⟩) (by simp)).trans (dr _ _ _ k3);have l1:oT w2 w 1 of:=(cJ.cell (p:=⟨w,1,none⟩) (by simp)).trans (dr _ _ _ k1);have l4:w2.frozen? ([w,w,w],3)=false:=(cJ.frozen (p:=⟨[w,w,w],3,none⟩) (by simp)).trans ((cU.frozen (p:=⟨[w,w,w],3,none⟩) (by simp;omega)).trans ((oS.o.frozen (p:=⟨[w,w,w],3,none⟩) (by simp;omega)).trans (aY cR.o 3)));have bZ:=aV cJ;clear cF eD cJ));all_goals
  go_wp2;go_roundg(p-(i+1));case measure=>omega
  case rel=>
   refine⟨i+1,by omega,rfl,by go_num,?_⟩;have hblk:∀b,b<w.heap.size+4->w2.heap[b]? =wr.heap[b]? :=λb hb=>(bZ.o.block b hb).trans ((aB w1 _ b (by omega)).trans (oS.o.block b (by omega)));have hs2:=bZ.o.size;simp at hs2;refine(show GM M w of br (i+1) _ from⟨a2,c2,xs++[.mk yk yn ys yl],by simp[QT.o],?_,dR.o.ue (.inr ⟨by simp;omega,by simp⟩) (by simp) _,?_,by simp;omega,?_,?_,?_⟩)
   .intro x hx;rcases aI.1 hx with h|h
    .exact HXO.o x h
    simp at h;subst h;exact HY.o
   .exact(((Aa.o.trans (oS.o.mono (by omega))).alloc (by omega) _).trans (bZ.o.mono (by omega))).setCell (by first|(simp;done)|(simp;omega)) _
   .exact(aj _ _ _ _ (by first|(simp;done)|(simp;omega))).trans ((hblk _ (by omega)).trans ik.o)
   .exact(aj _ _ _ _ (by first|(simp;done)|(simp;omega))).trans ((hblk _ (by omega)).trans cu.o)
   exact aA w2 _ 3 _ _ _ ((hblk _ (by omega)).trans cR.o)
def Aq(M:bY)(w:bq)(hM:Bd M w)(t:cq)(n br:Int)(ht:bO t=true)(hn:I6 n)(qJ:br<=1000):
 xG 139 #[.agg #[t.bg,t.of],n,br] w λv w'=>∃x,eF t br x/\dq M w' v x:=by
 obtain⟨k,o⟩:=t;unfold bO at ht;by_cases h5:k=5
 .subst h5;simp at ht;exact GN M w hM o n br ht.1 ht.2 hn qJ
 simp[h5]at ht;exact(Ap M w k o n br ht.1 ht.2.1 hn qJ).mono λe w'⟨v,h1,⟨x,h2,h3⟩,h4⟩=>⟨v,h1,⟨x, .inr ⟨h5,h2⟩,h3⟩,h4⟩
def cD(fs:List bJ)(br:Int)(vs:List bE):Prop:=vs.length=fs.length/\∀(i:Nat)(f:bJ)(v:bE),fs[i]? =some f->vs[i]? =some v->eF f.type br v
def GO(M:bY)(w:bq)(hM:Bd M w)(c:bI)(fv lv:bt)(ns:List Int)(br:Int)(hs:aS M w fv c.aW)(hl:aS M w lv ns)(Ts:∀y∈ns,I6 y)(WC:c.aW.length<=8)(RS:∀f∈c.aW,bO f.type=true)(qJ:br<=1000):
 xG 57 #[.agg #[c.aX,fv],lv,br] w λv w'=>∃vs,cD c.aW br vs/\aS M w' v vs:=by
 have⟨i0,hi0,hz0,hz1,hz2⟩:=info_parts iD;obtain⟨a,cY,rfl,dN,hm,hc⟩:=hs.bj;obtain⟨al,qge,rfl,qfw,Ye,hcl⟩:=hl.bj;clear hs hl;have HC:=aV hc;clear hc;have mC:=aV hcl;clear hcl;have Jz:=aV Ts;clear Ts;have HFT:=aV RS;clear RS;generalize hn:c.aW.length=n at*;generalize hnl:ns.length=nl at*;have HN:=aV hn;clear hn;have HNL:=aV hnl;clear hnl;have v8:Hd (∀i,M i->i<w.heap.size+1):=λi h=>Nat.lt_succ_of_lt (hM i h);delta xG;go_in;go_wp2;go_loopg [7,8,9]n(λg ov iv _ wr=>∃(k:Nat)(a1:fM)(c1:Nat)(vs:List bE),k<=n/\g=n-k/\iv=xI k/\ov=xL a1 k c1/\Hd (vs.length=k/\∀(i:Nat)(f:bJ)(v:bE),c.aW[i]? =some f->vs[i]? =some v->eF f.type br v)/\Hd (bP M [w] 50 wr (xL a1 k c1) vs)/\Hd (bC w wr)/\Hd (ed wr w (xK #[c.aX,xL a n cY] 53)));exact⟨0,none,0,[],ax _,rfl,rfl,rfl,(show [].length=0/\_ from⟨rfl,λi f v _ h=>by simp at h⟩),(bP.nil _ _ _ _),cU,az _ _⟩;obtain⟨k,a1,c1,vs,hk,rfl,rfl,rfl,HV,HA,HB,HX⟩:=hrel;have hsz:w.heap.size<wr:=(ab.1 HX.o).1;have⟨g0,g1⟩:=aZ HX.o;by_cases cE:k<n;rotate_left
 .go_wp2;go_ret;obtain rfl:k=n:=by omega
  exact⟨_,rfl,⟨vs,⟨HV.o.1.trans HN.o.symm,HV.o.2⟩,HA.o.slice v8.o⟩,HB.o⟩
 obtain⟨b,off,rfl,hMb,hbl,hcell⟩:=HC.o (by omega);have⟨f,hf⟩:=fg c.aW k (by rw[HN.o];exact cE);obtain⟨cs,⟨rfl,_⟩,hcs⟩:=hcell k f hf;have q1:cC wr b (off+k*4+1) f.type.bg:=(HB.o.cell (p:=⟨b,off+k*4+1,none⟩) hbl).trans (hcs 1 _ rfl);have q2:cC wr b (off+k*4+1+1) f.type.of:=(HB.o.cell (p:=⟨b,off+k*4+2,none⟩) hbl).trans (hcs 2 _ rfl);have KL:Hd (bO f.type=true):=HFT.o f (ai hf);clear hcell hcs;have HF:=aV hf;clear hf;have BDM:Hd (Bd (cz (xL a1 k c1) M) wr):=λi h=>by rcases h with h|h;have:=hM i h;omega;exact(HA.o.dC i h).2
 by_cases h0:0<nl
 .obtain⟨bl,qaa,rfl,hMl,FO,QU⟩:=mC.o h0;have QV:k%nl<nl:=Nat.mod_lt _ h0;have⟨y,hy⟩:=fg ns (k%nl) (by rw[HNL.o];exact QV);obtain⟨cs,rfl,hcs⟩:=QU (k%nl) y hy;have q3:cC wr bl (qaa+k%nl) y:=(HB.o.cell (p:=⟨bl,qaa+k%nl,none⟩) FO).trans (by have:=hcs 0 _ rfl;rw[show bD.size Int=1 from rfl]at this;simpa using this);have⟨hy1,hy2⟩:=Jz.o y (ai hy);clear QU hcs hy;go_wp2_with fail;have HI0:=Lh (y+(k:Int));refine(Aq (cz (xL a1 k c1) M) wr BDM.o f.type _ br KL.o HI0 qJ).mono ?_;rintro e w1⟨_,rfl,⟨⟨yk,yn,ys,yl⟩,hy,cs,rfl,hrep⟩,hb1⟩;obtain⟨av,rfl,hsl,hss⟩:=fZ.iff.1 hrep;obtain⟨ya,yc,rfl,_⟩:=hsl.bj;have s1:=hb1.size;have gy:Hd (ed w1 w (xK #[c.aX,xL (b,off) n cY] 53)):=(hb1.block w hsz).trans HX.o;have zX:=aV (HA.o.aT hb1);have BB:Hd (bC w w1):=HB.o.trans (hb1.mono (by omega));have HY:=aV hy;clear hy;have fR:=aV hrep;clear hrep;clear hb1 hsl hss;have C3:=aV HV.o.1;go_wp2_with(at_builtin;refine cA (α:=bE) rfl _ _ _ rfl M [w] 50 i0 _ 56 underlying39 hi0 hz0 hz1 hz2 rfl (by decide) (.slice a1 k c1) vs rfl (zX.o.alloc _) (λ_=>True) _ _ (.mk yk yn ys yl) rfl (dj _ _ _ _ rfl trivial) (bD.ev fR.o (Ev.bA cU)) (by rw[C3.o];unfold maxLen;omega) (by rw[C3.o];omega) (by simp;omega) ?_;rw[C3.o];intro a2 c2 w2 cF eD cJ;have dR:=aV cF;have bZ:=aV cJ;clear cF eD cJ);go_roundg(n-(k+1));case measure=>omega
  case rel=>
   refine⟨k+1,a2,c2,vs++[.mk yk yn ys yl],by omega,rfl,by go_num,rfl,?_,dR,?_,?_⟩
   .refine(show _/\_ from⟨by simp[C3.o],λi f' v hf hv=> ?_⟩);by_cases hi:i<vs.length
    .rw[aq hi]at hv;exact HV.o.2 i f' v hf hv
    rw[au (by omega)]at hv;have h0:i-vs.length=0:=by
     cases hq:i-vs.length with
     |zero=>rfl
     |succ q=>rw[hq]at hv;simp at hv
    rw[h0]at hv;simp at hv;subst hv;obtain rfl:i=k:=by have:=C3.o;omega
    rw[HF.o]at hf;cases hf;exact HY.o
   .exact(show bC w _ from(BB.o.alloc (by omega) _).trans (bZ.o.mono (by omega)))
   exact(bZ.o.block w (by omega)).trans ((aB w1 _ w (by omega)).trans gy.o)
 go_wp2_with fail;have HI0:I6 (k:Int):=⟨by omega,by omega⟩;refine(Aq (cz (xL a1 k c1) M) wr BDM.o f.type _ br KL.o HI0 qJ).mono ?_;rintro e w1⟨_,rfl,⟨⟨yk,yn,ys,yl⟩,hy,cs,rfl,hrep⟩,hb1⟩;obtain⟨av,rfl,hsl,hss⟩:=fZ.iff.1 hrep;obtain⟨ya,yc,rfl,_⟩:=hsl.bj;have s1:=hb1.size;have gy:Hd (ed w1 w (xK #[c.aX,xL (b,off) n cY] 53)):=(hb1.block w hsz).trans HX.o;have zX:=aV (HA.o.aT hb1);have BB:Hd (bC w w1):=HB.o.trans (hb1.mono (by omega));have HY:=aV hy;clear hy;have fR:=aV hrep;clear hrep;clear hb1 hsl hss;have C3:=aV HV.o.1;go_wp2_with(at_builtin;refine cA (α:=bE) rfl _ _ _ rfl M [w] 50 i0 _ 56 underlying39 hi0 hz0 hz1 hz2 rfl (by decide) (.slice a1 k c1) vs rfl (zX.o.alloc _) (λ_=>True) _ _ (.mk yk yn ys yl) rfl (dj _ _ _ _ rfl trivial) (bD.ev fR.o (Ev.bA cU)) (by rw[C3.o];unfold maxLen;omega) (by rw[C3.o];omega) (by simp;omega) ?_;rw[C3.o];intro a2 c2 w2 cF eD cJ;have dR:=aV cF;have bZ:=aV cJ;clear cF eD cJ);go_roundg(n-(k+1));case measure=>omega
 case rel=>
  refine⟨k+1,a2,c2,vs++[.mk yk yn ys yl],by omega,rfl,by go_num,rfl,?_,dR,?_,?_⟩
  .refine(show _/\_ from⟨by simp[C3.o],λi f' v hf hv=> ?_⟩);by_cases hi:i<vs.length
   .rw[aq hi]at hv;exact HV.o.2 i f' v hf hv
   rw[au (by omega)]at hv;have h0:i-vs.length=0:=by
    cases hq:i-vs.length with
    |zero=>rfl
    |succ q=>rw[hq]at hv;simp at hv
   rw[h0]at hv;simp at hv;subst hv;obtain rfl:i=k:=by have:=C3.o;omega
   rw[HF.o]at hf;cases hf;exact HY.o
  .exact(show bC w _ from(BB.o.alloc (by omega) _).trans (bZ.o.mono (by omega)))
  exact(bZ.o.block w (by omega)).trans ((aB w1 _ w (by omega)).trans gy.o)
def Oi(c:bI)(t:cq)(v:bt):Prop:=(∃f∈c.aW,f.type=t/\v= .tuple #[f.aX,true])\/v= .tuple #[mz,false]
def pJ(M:bY)(w:bq)(c:bI)(fv:bt)(from_:Int)(t:cq)(hs:aS M w fv c.aW)(WC:c.aW.length<=8)(hn:I6 from_):
 xG 269 #[.agg #[c.aX,fv],from_, .agg #[t.bg,t.of]] w λv _=>Oi c t v:=by
 obtain⟨tk,Gi⟩:=t;obtain⟨a,cY,rfl,dN,hm,hc⟩:=hs.bj;clear hs;have HC:=aV hc;clear hc;have HI:=aV hn;clear hn;generalize hn:c.aW.length=n at*;have HN:=aV hn;clear hn;have hp:=dJ from_ 100 (by omega);delta xG;go_in;go_wp2;go_loopg [6,7,8,9]n(λg r0 r1 iv _ wr=>∃k:Nat,k<=n/\g=n-k/\iv=xI k/\r0= ""/\r1=xB false/\Hd (bC w wr)/\Hd (ed wr w (xK #[c.aX,xL a n cY] 53))/\Hd (cX wr [w] (xK #[tk,Gi] 55)))
 .have⟨b0,b1,hz,hb⟩:=kQ (w:=w) (o0:=xK #[c.aX,xL a n cY] 53) (o1:=xK #[tk,Gi] 55) rfl;exact⟨0,ax _,rfl,rfl,rfl,rfl,hb,b0,b1⟩
 obtain⟨k,hk,rfl,rfl,rfl,rfl,HB,HX,HY⟩:=hrel;have hsz:w.heap.size+1<wr:=(ab.1 HY.o).1;have⟨g0,g1⟩:=aZ HX.o;have⟨g2,g3⟩:=aZ HY.o;by_cases cE:k<n;rotate_left
 .go_wp2;go_ret2;exact⟨_,rfl, .inr rfl,HB.o⟩
 obtain⟨b,off,rfl,hMb,hbl,hcell⟩:=HC.o (by omega);have⟨p,hpp⟩:=dd (bW from_ 100);rw[<-hpp]at hp;have⟨idx,hidx⟩:=dd ((p+k)%n);have wJ:idx<n:=by rw[hidx];exact Nat.mod_lt _ (by omega)
 have z2:Int.tmod ((p:Int)+(k:Int)) (n:Int)=(idx:Int):=by
  rw[Int.tmod_eq_emod_of_nonneg (by omega),hidx];simp
 have⟨f,hf⟩:=fg c.aW idx (by rw[HN.o];exact wJ);obtain⟨cs,⟨rfl,_⟩,hcs⟩:=hcell idx f hf;have hcl:∀(j:Nat)(u:bt),[Value.string f.aX,xI f.type.bg,xI f.type.of,xB f.indexed][j]? =some u->cC wr b (off+idx*4+j) u:=λj u hu=>(HB.o.cell (p:=⟨b,off+idx*4+j,none⟩) hbl).trans (hcs j u hu);have q0:cC wr b (off+idx*4) f.aX:=hcl 0 _ rfl;have q1:=hcl 1 _ rfl;have q2:=hcl 2 _ rfl;have q3:=hcl 3 _ rfl;have qdf:Hd (f∈c.aW):=ai hf;have uQ:=aV hpp;clear hpp;clear hcell hcs hcl hf hidx;go_upto_region 4 with fail;go_cut [9](λs9 wx=>s9=xP wr/\wx=(wr.alloc (xK #[f.aX,f.type.bg,f.type.of,xB f.indexed] 78)).drew)
 .have z1:IntKind.i64.wrap ((p:Int)+(k:Int))=(p:Int)+(k:Int):=aw _ (by omega);have z3:(0:Int)<=(idx:Int):=an _;have z4:(idx:Int)<(n:Int):=by omega
  have z5:((n:Int)==0)=false:=by simp;omega
  have z6:n≠0:=by omega
  have z8:IntKind.i64.wrap (idx:Int)=(idx:Int):=aw _ (by omega);go_region_held3(λw'=>w'.cell? (w,1)=some (xL (b,off) n cY)/\w'.cell? (b,off+idx*4)=some (xS f.aX)/\w'.cell? (b,off+idx*4+1)=some (xI f.type.bg)/\w'.cell? (b,off+idx*4+2)=some (xI f.type.of)/\w'.cell? (b,off+idx*4+3)=some (xB f.indexed))
   (first|go_keep)
   (first|(go_at_call 202;refine ey (jw _ _ _ HI.o (by omega) (by omega)) ?_;rw[show bW from_ (100:Int).toNat=p from uQ.o.symm]));all_goals(go_wp2_with fail;go_meet;exact⟨rfl,rfl⟩)
 obtain⟨rfl,rfl⟩:=hcut;obtain⟨fn,⟨fk,fo⟩,fi⟩:=f;clear z2;by_cases he:fk=tk/\fo=Gi
 .obtain⟨rfl,rfl⟩:=he;go_wp2;go_ret2;exact⟨_,rfl, .inl ⟨_,qdf.o,rfl,rfl⟩,(HB.o.alloc (by omega) _).drew⟩
 by_cases h1:fk=tk
 .have h2:(fo==Gi)=false:=by simp;exactλh=>he ⟨h1,h⟩
  subst h1;clear he;go_wp2;go_roundg(n-(k+1));exact⟨k+1,by omega,rfl,by go_num,rfl,rfl,((HB.o.alloc (by omega) _).drew),(aB wr _ w (by omega)).trans HX.o,(aB wr _ [w] (by omega)).trans HY.o⟩;omega
 have h2:(fk==tk)=false:=by simpa using h1
 clear he h1;go_wp2;go_roundg(n-(k+1));exact⟨k+1,by omega,rfl,by go_num,rfl,rfl,((HB.o.alloc (by omega) _).drew),(aB wr _ w (by omega)).trans HX.o,(aB wr _ [w] (by omega)).trans HY.o⟩;omega
def uq(c:bI)(s:bS):Prop:=s=⟨#[55]⟩\/∃f∈c.aW,f.type=⟨1,0⟩/\s=f.aX
def qu(c:bI)(s:bS):Prop:=s=⟨#[34,97,32,98,34]⟩\/∃f∈c.aW,f.type=⟨2,0⟩/\s=f.aX
def pK(num txt:bS):List bS:=[(),⟨#[51]⟩,num,num++⟨#[32,42,32,50,32,45,32,49]⟩,⟨#[108,101,110,40]⟩++txt++⟨#[41]⟩,
 ⟨#[105,102,40]⟩++num++⟨#[32,62,32,50,44,32]⟩++num++⟨#[44,32,48,32,45,32]⟩++num++⟨#[41]⟩,⟨#[102,105,110,100,40,34,98,34,44,32]⟩++txt++⟨#[41]⟩,num++⟨#[32,47,32]⟩++num]
def ny(num txt:bS):List bS:=[(),⟨#[34,120,34]⟩,txt,txt++⟨#[32,38,32,34,45,34,32,38,32]⟩++txt,⟨#[116,101,120,116,40]⟩++num++⟨#[41]⟩,
 ⟨#[108,101,102,116,40]⟩++txt++⟨#[44,32,50,41]⟩,⟨#[102,114,111,109,40]⟩++txt++⟨#[44,32,51,41]⟩,⟨#[105,102,40]⟩++num++⟨#[32,61,32,49,44,32]⟩++txt++⟨#[44,32,34,110,111,34,41]⟩]
def jb(c:bI)(t:cq)(s:bS):Prop:=
 (t=⟨1,0⟩/\∃num txt,uq c num/\qu c txt/\s∈pK num txt)\/(t=⟨2,0⟩/\∃num txt,uq c num/\qu c txt/\s∈ny num txt)\/(t.bg≠1/\t.bg≠2/\(s=⟨#[]⟩\/∃f∈c.aW,f.type=t/\s=f.aX))
def JZ {l:List bS}(h:k<l.length):(l.map Value.string).toArray[k]? =some (xS (l.getD k mz))/\l.getD k mz∈l:=by
 have e:l[k]? =some l[k]:=af h;constructor
 .simp[List.getD,e]
 simp[List.getD,e]
def Vg(c:bI)(w:bq)(v:bt)(wx:bq):Prop:=∃s,v=xS s/\uq c s/\wx=w
def Sl(c:bI)(w:bq)(v:bt)(wx:bq):Prop:=∃s,v=xS s/\qu c s/\wx=w
def GP(M:bY)(w:bq)(c:bI)(fv:bt)(n:Int)(t:cq)(hs:aS M w fv c.aW)(WC:c.aW.length<=8)(hn:I6 n)(ht:bO t=true)(hnm:∀f∈c.aW,f.aX.size<=20):
 xG 203 #[n, .agg #[t.bg,t.of], .agg #[c.aX,fv]] w λv _=>∃s,v=xS s/\jb c t s:=by
 obtain⟨tk,Gi⟩:=t;have HS:=aV hs;obtain⟨a,cY,rfl,dN,hm,hc⟩:=hs.bj;clear hs hc;have HI:=aV hn;clear hn;have HT:=aV ht;clear ht;have qab:=aV hnm;clear hnm;have⟨fs,hfs⟩:=dd (c.aW);have ni:=aV (show I6 (n.tdiv 2)by
  have⟨h1,h2⟩:=HI.o;rcases Int.lt_or_le n 0 with h|h
  .have e:n.tdiv 2= -((-n)/2):=by
    have h3:(-n).tdiv 2=(-n)/2:=Int.tdiv_eq_ediv_of_nonneg (by omega);rw[Int.neg_tdiv]at h3;omega
   rw[e];exact⟨by omega,by omega⟩
  rw[Int.tdiv_eq_ediv_of_nonneg h];exact⟨by omega,by omega⟩);have⟨hn1,hn2⟩:=HI.o;delta xG;go_in;go_wp2_with fail;have hb0:bC w ((w.alloc (xK #[tk,Gi] 55)).alloc (xK #[c.aX,xL a c.aW.length cY] 53)):=cU.alloc (by simp) _;refine(pJ M _ c _ n ⟨1,0⟩ (HS.o.aT hb0) WC HI.o).mono ?_;rintro e w1⟨v1,rfl,ZP,hb1⟩;have uO:=aV ((hb1.block w (by simp;omega)).trans (kQ (w:=w) rfl).1);have gy:=aV ((hb1.block [w] (by simp)).trans (kQ (w:=w) rfl).2.1);have cu:Hd (bC w w1):=hb0.trans (hb1.mono (by simp;omega));have s1:=hb1.size;simp at s1;clear hb0 hb1;have C4:=aV (show∃s1 b1,v1= .tuple #[xS s1,xB b1]/\(b1=true->uq c s1)by
  rcases ZP with⟨f,hf,ht,rfl⟩|rfl
  .exact⟨_,_,rfl,λ_=> .inr ⟨f,hf,ht,rfl⟩⟩
  exact⟨_,_,rfl,λh=>by cases h⟩);clear ZP;obtain⟨s1',b1,rfl,QW⟩:=C4.o;clear C4;have⟨p0,p1⟩:=aZ uO.o;have⟨p2,p3⟩:=aZ gy.o;have qdg:=aV QW;clear QW;go_wp2_with fail;refine(pJ M _ c _ (n.tdiv 2) ⟨2,0⟩ (HS.o.aT cu.o) WC ni.o).mono ?_;rintro e w2⟨v2,rfl,hg2,cJ⟩;have uO:=aV ((cJ.block w (by omega)).trans uO.o);have bZ:Hd (bC w w2):=cu.o.trans (cJ.mono (by omega));have gy:=aV ((cJ.block [w] (by omega)).trans gy.o);have s2:=cJ.size;clear cJ;have QX:=aV (show∃s2 b2,v2= .tuple #[xS s2,xB b2]/\(b2=true->qu c s2)by
  rcases hg2 with⟨f,hf,ht,rfl⟩|rfl
  .exact⟨_,_,rfl,λ_=> .inr ⟨f,hf,ht,rfl⟩⟩
  exact⟨_,_,rfl,λh=>by cases h⟩);clear hg2;obtain⟨s2',b2,rfl,Uw⟩:=QX.o;clear QX p0 p1 p2 p3;have⟨p0,p1⟩:=aZ uO.o;have⟨p2,p3⟩:=aZ gy.o;have qac:=aV Uw;clear Uw;go_upto_if 29 with fail;go_cut [7](λs7 wx=>Vg c w2 s7 wx)
 .cases b1
  .go_wp2;go_meet;exact⟨_,rfl, .inl rfl,rfl⟩
  go_wp2;go_meet;exact⟨_,rfl,qdg.o trivial,rfl⟩
 obtain⟨num,rfl,QW,rfl⟩:=hcut;have QY:=aV QW;clear QW;go_upto_if 31 with fail;go_cut [9](λs9 wx=>Sl c wc s9 wx)
 .cases b2
  .go_wp2;go_meet;exact⟨_,rfl, .inl rfl,rfl⟩
  go_wp2;go_meet;exact⟨_,rfl,qac.o trivial,rfl⟩
 obtain⟨txt,rfl,htx,rfl⟩:=hcut;have WE:=aV htx;clear htx;have hsn:num.size<=20:=by
  rcases QY.o with rfl|⟨f,hf,_,rfl⟩
  .decide
  exact qab.o f hf
 have hst:txt.size<=20:=by
  rcases WE.o with rfl|⟨f,hf,_,rfl⟩
  .decide
  exact qab.o f hf
 have Yg:=dJ n 8 (by omega);by_cases h1:tk=1
 .subst h1;have HT0:=aV (show Gi=0 by have:=HT.o;simp[bO]at this;exact this);go_wp2_with fail;refine ey (jw _ _ _ HI.o (by omega) (by omega)) ?_;have⟨W,hW⟩:=dd (wc.alloc (.cells ((pK num txt).map Value.string).toArray 9));rw[show wc.alloc (xK #["",xS ⟨#[51]⟩,num,xS (num++⟨#[32,42,32,50,32,45,32,49]⟩),xS (⟨#[108,101,110,40]⟩++txt++⟨#[41]⟩),xS (⟨#[105,102,40]⟩++num++⟨#[32,62,32,50,44,32]⟩++num++⟨#[44,32,48,32,45,32]⟩++num++⟨#[41]⟩),xS (⟨#[102,105,110,100,40,34,98,34,44,32]⟩++txt++⟨#[41]⟩),xS (num++⟨#[32,47,32]⟩++num)] 9)=W from hW.symm];have⟨c0,c1⟩:=JZ (l:=pK num txt) (k:=bW n 8) Yg;have q:oT W wc (bW n 8) (xS ((pK num txt).getD (bW n 8) mz)):=cell_of_heap (sj hW).1 c0;have Ux:=aV (sj hW).2.2;have C1:=aV c1;clear c1;clear hW c0;go_wp2;go_ret;exact⟨_,rfl,⟨_,rfl, .inl ⟨by rw[HT0.o],num,txt,QY.o,WE.o,C1.o⟩⟩,bZ.o.trans (Ux.o.mono (by omega))⟩
 by_cases h2:tk=2
 .subst h2;have HT0:=aV (show Gi=0 by have:=HT.o;simp[bO]at this;exact this);go_wp2_with fail;refine ey (jw _ _ _ HI.o (by omega) (by omega)) ?_;have⟨W,hW⟩:=dd (wc.alloc (.cells ((ny num txt).map Value.string).toArray 9));rw[show wc.alloc (xK #["",xS ⟨#[34,120,34]⟩,txt,xS (txt++⟨#[32,38,32,34,45,34,32,38,32]⟩++txt),xS (⟨#[116,101,120,116,40]⟩++num++⟨#[41]⟩),xS (⟨#[108,101,102,116,40]⟩++txt++⟨#[44,32,50,41]⟩),xS (⟨#[102,114,111,109,40]⟩++txt++⟨#[44,32,51,41]⟩),xS (⟨#[105,102,40]⟩++num++⟨#[32,61,32,49,44,32]⟩++txt++⟨#[44,32,34,110,111,34,41]⟩)] 9)=W from hW.symm];have⟨c0,c1⟩:=JZ (l:=ny num txt) (k:=bW n 8) Yg;have q:oT W wc (bW n 8) (xS ((ny num txt).getD (bW n 8) mz)):=cell_of_heap (sj hW).1 c0;have Ux:=aV (sj hW).2.2;have C1:=aV c1;clear c1;clear hW c0;go_wp2;go_ret;exact⟨_,rfl,⟨_,rfl, .inr (.inl ⟨by rw[HT0.o],num,txt,QY.o,WE.o,C1.o⟩)⟩,bZ.o.trans (Ux.o.mono (by omega))⟩
 have e1:(tk==1)=false:=by simpa using h1
 have e2:(tk==2)=false:=by simpa using h2
 have H1:=aV h1;clear h1;have H2:=aV h2;clear h2;go_wp2_with fail;refine(pJ M _ c _ n ⟨tk,Gi⟩ (HS.o.aT bZ.o) WC HI.o).mono ?_;rintro e w3⟨v3,rfl,hg3,hb3⟩;have cR:Hd (bC w w3):=bZ.o.trans (hb3.mono (by omega));clear hb3;rcases hg3 with⟨f,hf,RS,rfl⟩|rfl
 .have HFM:=aV hf;clear hf;have HFT:=aV RS;clear RS;by_cases h3:0<bW n 3
  .have h3':(0:Int)<(bW n 3:Int):=by omega
   go_wp2_with fail;refine ey (jw _ _ _ HI.o (by omega) (by omega)) ?_;go_wp2;go_ret;exact⟨_,rfl,⟨_,rfl, .inr (.inr ⟨H1.o,H2.o, .inr ⟨f,HFM.o,HFT.o,rfl⟩⟩)⟩,cR.o⟩
  have h3':¬(0:Int)<(bW n 3:Int):=by omega
  go_wp2_with fail;refine ey (jw _ _ _ HI.o (by omega) (by omega)) ?_;go_wp2;go_ret;exact⟨_,rfl,⟨_,rfl, .inr (.inr ⟨H1.o,H2.o, .inl rfl⟩)⟩,cR.o⟩
 go_wp2;go_ret;exact⟨_,rfl,⟨_,rfl, .inr (.inr ⟨H1.o,H2.o, .inl rfl⟩)⟩,cR.o⟩
end
section
open Go.RowKit Go.Shelf
def jc:Go.Shelf.Ren:=⟨λ|196=>191|259=>266|n=>n,λ|9=>9|4=>4|3=>3|5=>5|12=>12|119=>344|0=>0|46=>248|139=>347|138=>346|53=>307|n=>n,λ|3=>0|4=>1|n=>n⟩
def Ay:Go.Proofs.Lays.n196 prog jc:={
 mixed:=by kernel_rfl
 f196:=Tryz.func191.trans (by kernel_rfl)
 f259:=Tryz.func266.trans (by kernel_rfl)
 t0:=underlying0
 a0:=isAgg0
 z0:=sizeOf0
 v0:=zeroValue0
 t3:=underlying3
 a3:=isAgg3
 z3:=sizeOf3
 v3:=zeroValue3
 t4:=underlying4
 a4:=isAgg4
 z4:=sizeOf4
 v4:=zeroValue4
 t5:=underlying5
 a5:=isAgg5
 z5:=sizeOf5
 v5:=zeroValue5
 t9:=underlying9
 a9:=isAgg9
 z9:=sizeOf9
 v9:=zeroValue9
 t12:=underlying12
 a12:=isAgg12
 z12:=sizeOf12
 v12:=zeroValue12
 t46:=underlying248
 a46:=isAgg248
 z46:=sizeOf248
 v46:=zeroValue248
 t53:=underlying307
 a53:=isAgg307
 z53:=sizeOf307
 v53:=zeroValue307
 t119:=underlying344
 a119:=isAgg344
 z119:=sizeOf344
 t138:=underlying346
 a138:=isAgg346
 z138:=sizeOf346
 v138:=zeroValue346
 t139:=underlying347
 a139:=isAgg347
 z139:=sizeOf347
 v139:=zeroValue347
 g3:=by kernel_rfl
 g4:=by kernel_rfl}
def Vo:jc.f 196=191:=by kernel_rfl
def Tb(w:bq):Prop:=Lib.Utf8Tabs (jc.g 3) (jc.g 4) w
def Tb.aT(h:Tb w)(hb:bC w w'):Tb w':=Utf8Tabs_below h hb
def Ls(s:bS)(w:bq)(hs:s.size<=9223372036854775807)(hT:Tb w):
 xC 191 #[s] w (di (xB (Lib.validD s.data.toList)) w):=by
 have h:=Any.utf8_ValidString Ay s w hs hT;rw[Vo]at h;exact h
def DB {l:List UInt8}(h:jI l):Lib.validD l=true:=by
 obtain⟨ss,rfl,hs⟩:=h;induction ss with
 |nil=>rfl
 |cons x r ih=>
  have hr:=ih λy hy=>hs y (List.mem_cons_of_mem _ hy);rw[List.flatten_cons];rcases hs x List.mem_cons_self with⟨c,rfl,h1,h2⟩|rfl
  .have h3:c.toNat<128:=by have:=UInt8.lt_iff_toNat_lt.1 h2;simp at this;omega
   rw[List.cons_append,List.nil_append,Lib.validD_cons c _ h3];exact hr
  rw[Lib.validD_step _ (by simp)];have e:Lib.decodeL ([195,169]++r.flatten)=(233,2):=by
   have hd:(⟨([195,169]++r.flatten).toArray⟩:bS).data.toList.drop 0=195::169::r.flatten:=by simp
   have⟨b1,b2⟩:=nC (k:=0) hd rfl;have⟨b3,b4⟩:=nC (k:=1) hd rfl;show Utf8.decode ⟨([195,169]++r.flatten).toArray⟩ 0=_;simp only[Utf8.decode,b2,b4];simp;simpa using b3
  rw[e];simpa using hr
end
end Go.Proofs.YtpjdjlnknfmfkaaGreatDoor
