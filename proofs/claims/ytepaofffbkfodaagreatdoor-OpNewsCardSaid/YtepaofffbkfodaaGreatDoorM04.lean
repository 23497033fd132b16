/- A part of the proof; no condition. -/
import Derived.Test.YtepaofffbkfodaaGreatDoorM01
import Derived.Deep.RegionLaw
set_option linter.all false
set_option maxHeartbeats 8000000
set_option maxRecDepth 100000
namespace Go.Proofs.YtepaofffbkfodaaGreatDoor
open Tryz
open Go.RowKit
variable{v:aA}{W:ax}{k:Nat}
def F8(M:aV)(w:ax)(of ay:Int)(i:Nat)(wr:ax):Prop:=
 ∃(a:fx)(c:Nat)(xs:List aJ),xs.length=i/\(∀x∈xs,lJ of ay x)/\aS (λi=>M i\/(w<=i/\i<↑w+4)) (↑w+4) 44 wr (xL a i c) xs/\aC w wr/\w.heap.size+4<=wr/\
  dk wr w (xK #[xI 5,of] 49)/\bW wr [w] (xK iE 44)/\
  bW wr [w,w,w] (xK #[xI 5,xI 0,"",xL a i c] 44)
def oL {a:Addr}(h:W.cell? a=some v):a.block<W:=by
 unfold World.cell? at h;rcases Nat.lt_or_ge a.block W with bH|hge
 .exact bH
 .rw[Array.getElem?_eq_none hge]at h;cases h
def bR(W:ax)(o:Obj)(p:Addr)(h:W.cell? p=some v):(W.alloc o).cell? p=some v:=
 (World.cell?_of_block (w:=W) (Qcb W o p.block (oL h))).trans h
def KB(x:Int):I6 (wrap64 x):=by
 have h:=wrap64_wf x;unfold I6;simpa [Lit.wf,IntKind.min,IntKind.max,IntKind.signed,IntKind.bits]using h
def Yq {n:Int}(h:I6 n): -2305843009213693952<=n.tdiv 4/\n.tdiv 4<=2305843009213693952:=by
 obtain⟨h1,h2⟩:=h;rcases Int.lt_or_le n 0 with h|h
 .have e:n.tdiv 4= -((-n)/4):=by
   have h3:(-n).tdiv 4=(-n)/4:=Int.tdiv_eq_ediv_of_nonneg (by omega);rw[Int.neg_tdiv]at h3;omega
  rw[e];omega
 .rw[Int.tdiv_eq_ediv_of_nonneg h];omega
def F9(M:aV)(w:ax)(hM:Bd M w)(of n ay:Int)(hk1:1<=of)(hk2:of<=4)(hn:I6 n)(oF:ay<=1000):
 xG 122 #[.agg #[xI 5,of],n,ay] w λv w'=>∃x,dI ⟨5,of⟩ ay x/\cB M w' v x:=by
 have⟨i0,hi0,hz0,hz1,hz2⟩:=info_parts ie;have⟨hd1,hd2⟩:=Yq hn;obtain⟨hnl,hnu⟩:=hn;have HI:Hd (I6 n):=⟨hnl,hnu⟩;have hp4:=cR n 4 (by omega);have zC:Hd (∀i,(M i\/(w.heap.size<=i/\i<w.heap.size+4))->i<w.heap.size+4):=λi h=>by rcases h with h|h;have:=hM i h;omega;omega
 go_enter func122,ntmps122;go_wp2_with fail;have⟨p,hp⟩:=bY (aU n 4);rw[<-hp]at hp4;have HP:=ag hp;go_loopg [9]p(λg iv wr=>∃i:Nat,i<=p/\g=p-i/\iv=xI i/\Hd (F8 M w of ay i wr));case atStart=>
  refine⟨0,Qbf _,rfl,rfl,?_⟩;have⟨b0,b1,b2,b3,hz,hb⟩:=Tg (w:=w) (o0:=xK #[xI 5,of] 49) (o1:=xK iE 44) (o2:=xK #["",xS ⟨#[97]⟩,xS ⟨#[98,99]⟩,xS ⟨#[195,169,116,195,169]⟩,xS ⟨#[97,32,98]⟩,xS ⟨#[122,122,32,116,111,112]⟩,xS ⟨#[48]⟩,xS ⟨#[45,55]⟩] 9) (o3:=xK #[xI 5,xI 0,"",()] 44) rfl;exact(show F8 M w of ay 0 _ from⟨none,0,[],rfl,λx h=>(by cases h),aS.nil _ _ _ _,hb,by rw[hz];omega,b0,b1,b3⟩)
 case round=>
  obtain⟨i,hi,rfl,rfl,HL⟩:=hrel;have⟨a',c',xs,hxl,hxo,hacc,hbel,hsz,hb0,hb1,hb3⟩:=HL.o;have⟨t0,t1⟩:=ak hb0;have⟨r0,r1,r2,r3⟩:=af hb1;have⟨v0,v1,v2,v3⟩:=af hb3;have⟨f0,f1,f2,f3⟩:=hZ hb1;have Xw:=ag hxl;have HXO:=ag hxo;have HA:=ag hacc;have MK:=ag hbel;have iW:=ag hb0;have bz:=ag hb1;have bV:=ag hb3;by_cases bH:i<p
  .go_upto_region 16 with(go_at_call 117;refine dw (fg _ _ _ HI.o (by omega) (by omega)) ?_;rw[show aU n (4:Int).toNat=p from HP.o.symm]);have z1:IntKind.i64.wrap (n.tdiv 4)=n.tdiv 4:=Qbe _ (by omega);have z2:IntKind.i64.wrap (n.tdiv 4+(i:Int))=n.tdiv 4+(i:Int):=Qbe _ (by omega);have mw:Hd (I6 (n.tdiv 4+(i:Int))):=⟨by omega,by omega⟩;go_region_law(first
    |(go_simp;go_at_call 122;refine(zT (bu (xL a' i c') (λi=>M i\/(w<=i/\i<↑w+4))) _ of 0 _ ay hk1 hk2 mw.o oF).mono ?_;rintro e w1⟨_,rfl,⟨⟨yk,yn,ys,yl⟩,hy,cs,rfl,hrep⟩,hb1⟩;obtain⟨av,rfl,hsl,hss⟩:=eU.iff.1 hrep;obtain⟨ya,yc,rfl,_⟩:=hsl.aq;have nP:Hd (aC wr w1):=((Qbg _ wr).drew.trans hb1);have fq:=ag hrep;have HY:=ag hy;have s1:=hb1.size;simp at s1;have k3:bJ w1 [w,w,w] 3 (xL a' i c'):=(nP.o.cell (p:=⟨[w,w,w],3,none⟩) (by simp;omega)).trans v3;have k1:ou w1 w 1 of:=(nP.o.cell (p:=⟨w,1,none⟩) (by simp;omega)).trans t1;have n3:∀o,(w1.alloc o).cell? ([w,w,w],3)=some (xL a' i c'):=λo=>bR _ _ _ k3;have n0:∀o,(w1.alloc o).cell? (w,1)=some (xI of):=λo=>bR _ _ _ k1;clear hb1 hrep hsl hss hy)
    |(refine dT (α:=aJ) rfl _ _ _ rfl (λi=>M i\/(w<=i/\i<↑w+4)) (↑w+4) 44 i0 _ 56 underlying42 hi0 hz0 hz1 hz2 rfl (by decide) (.slice a' i c') xs rfl ((HA.o.ae nP.o).alloc _) (λ_=>True) _ _ (.mk yk yn ys yl) rfl (cF _ _ _ _ rfl trivial) (aD.ev fq.o (Ev.az bU)) (by rw[Xw.o];unfold maxLen;omega) (by rw[Xw.o];omega) (by simp;omega) ?_;rw[Xw.o];intro a2 c2 w2 bD dK bE;have dr:=ag bD;have l3:bJ w2 [w,w,w] 3 (xL a' i c'):=(bE.cell (p:=⟨[w,w,w],3,none⟩) (by simp)).trans (bR _ _ _ k3);have l1:ou w2 w 1 of:=(bE.cell (p:=⟨w,1,none⟩) (by simp)).trans (bR _ _ _ k1);have l4:w2.frozen? ([w,w,w],3)=false:=(bE.frozen (p:=⟨[w,w,w],3,none⟩) (by simp)).trans ((bU.frozen (p:=⟨[w,w,w],3,none⟩) (by simp;omega)).trans ((nP.o.frozen (p:=⟨[w,w,w],3,none⟩) (by simp;omega)).trans (aj bV.o 3)));have bg:=ag bE;clear bD dK bE));all_goals
    go_wp2;go_roundg(p-(i+1));case measure=>omega
    case rel=>
     refine⟨i+1,by omega,rfl,by go_num,?_⟩;have hblk:∀b,b<w.heap.size+4->w2.heap[b]? =wr.heap[b]? :=λb hb=>(bg.o.block b hb).trans ((Qcb w1 _ b (by omega)).trans (nP.o.block b (by omega)));have hs2:=bg.o.size;simp at hs2;refine(show F8 M w of ay (i+1) _ from⟨a2,c2,xs++[.mk yk yn ys yl],by simp[Xw.o],?_,dr.o.rC (.inr ⟨by simp;omega,by simp⟩) (by simp) _,?_,by simp;omega,?_,?_,?_⟩)
     .intro x hx;rcases Qch.1 hx with h|h
      .exact HXO.o x h
      .simp at h;subst h;exact HY.o
     .exact(((MK.o.trans (nP.o.mono (by omega))).alloc (by omega) _).trans (bg.o.mono (by omega))).setCell (by first|(simp;done)|(simp;omega)) _
     .exact(Qag _ _ _ _ (by first|(simp;done)|(simp;omega))).trans ((hblk _ (by omega)).trans iW.o)
     .exact(Qag _ _ _ _ (by first|(simp;done)|(simp;omega))).trans ((hblk _ (by omega)).trans bz.o)
     .exact Qca w2 _ 3 _ _ _ ((hblk _ (by omega)).trans bV.o)
  .go_wp2_with(go_at_call 117;refine dw (fg _ _ _ HI.o (by omega) (by omega)) ?_;rw[show aU n (4:Int).toNat=p from HP.o.symm]);refine Qae (v:= .agg #[xI 5,xI 0,"",xL a' i c']) (by simp[results,results122,go_sem,r0,r1,r2,r3]) rfl ⟨_,rfl,⟨.mk 5 0 ow xs, .inl ⟨rfl,xs,rfl,by rw[Xw.o];omega,HXO.o⟩,_,rfl,eU.iff.2 ⟨_,rfl,?_,jQ⟩⟩,?_⟩
   .have h:=(HA.o.slice zC.o).ev (M':=M) (((((Ev.dL wr (λi h=> .inl h)).setCell (p:=⟨[w],0,none⟩) (.inl (.inr ⟨by simp,by simp⟩)) (xI 5)).setCell (p:=⟨[w],1,none⟩) (.inl (.inr ⟨by simp,by simp⟩)) (xI 0)).setCell (p:=⟨[w],2,none⟩) (.inl (.inr ⟨by simp,by simp⟩)) "").setCell (p:=⟨[w],3,none⟩) (.inl (.inr ⟨by simp,by simp⟩)) (xL a' i c'));exact h
   .exact(((MK.o.setCell (by simp) _).setCell (by simp) _).setCell (by simp) _).setCell (by simp) _
def zU(M:aV)(w:ax)(hM:Bd M w)(t:br)(n ay:Int)(ht:aR t=true)(hn:I6 n)(oF:ay<=1000):
 xG 122 #[.agg #[t.an,t.of],n,ay] w λv w'=>∃x,dI t ay x/\cB M w' v x:=by
 obtain⟨k,o⟩:=t;unfold aR at ht;by_cases h5:k=5
 .subst h5;simp at ht;exact F9 M w hM o n ay ht.1 ht.2 hn oF
 .simp[h5]at ht;exact(zT M w k o n ay ht.1 ht.2.1 hn oF).mono λe w'⟨v,h1,⟨x,h2,h3⟩,h4⟩=>⟨v,h1,⟨x, .inr ⟨h5,h2⟩,h3⟩,h4⟩
def bA(fs:List aH)(ay:Int)(vs:List aJ):Prop:=vs.length=fs.length/\∀(i:Nat)(f:aH)(v:aJ),fs[i]? =some f->vs[i]? =some v->dI f.type ay v
def Ga(M:aV)(w:ax)(hM:Bd M w)(c:aI)(fv lv:aA)(ns:List Int)(ay:Int)(hs:ab M w fv c.ah)(hl:ab M w lv ns)(ZD:∀y∈ns,I6 y)(VO:c.ah.length<=8)(Q0:∀f∈c.ah,aR f.type=true)(oF:ay<=1000):
 xG 52 #[.agg #[c.ai,fv],lv,ay] w λv w'=>∃vs,bA c.ah ay vs/\ab M w' v vs:=by
 have⟨i0,hi0,hz0,hz1,hz2⟩:=info_parts ie;obtain⟨a,cj,rfl,cY,hm,hc⟩:=hs.aq;obtain⟨al,qfv,rfl,qfd,Xt,hcl⟩:=hl.aq;clear hs hl;have HC:=ag hc;clear hc;have lM:=ag hcl;clear hcl;have Qi:=ag ZD;clear ZD;have ZE:=ag Q0;clear Q0;generalize hn:c.ah.length=n at*;generalize hnl:ns.length=nl at*;have HN:=ag hn;clear hn;have HNL:=ag hnl;clear hnl;have zC:Hd (∀i,M i->i<w.heap.size+1):=λi h=>Nat.lt_succ_of_lt (hM i h);go_enter func52,ntmps52;go_wp2;go_loopg [7,8,9]n(λg ov iv _ wr=>∃(k:Nat)(a1:fx)(c1:Nat)(vs:List aJ),k<=n/\g=n-k/\iv=xI k/\ov=xL a1 k c1/\Hd (vs.length=k/\∀(i:Nat)(f:aH)(v:aJ),c.ah[i]? =some f->vs[i]? =some v->dI f.type ay v)/\Hd (aS M [w] 44 wr (xL a1 k c1) vs)/\Hd (aC w wr)/\Hd (dk wr w (xK #[c.ai,xL a n cj] 47)));case atStart=>exact⟨0,none,0,[],Qbf _,rfl,rfl,rfl,(show [].length=0/\_ from⟨rfl,λi f v _ h=>by simp at h⟩),(aS.nil _ _ _ _),bU,Qbh _ _⟩
 case round=>
  obtain⟨k,a1,c1,vs,hk,rfl,rfl,rfl,HV,HA,HB,HX⟩:=hrel;have hsz:w.heap.size<wr:=(Qaa.1 HX.o).1;have⟨g0,g1⟩:=ak HX.o;by_cases bH:k<n
  .obtain⟨b,off,rfl,hMb,hbl,hcell⟩:=HC.o (by omega);have⟨f,hf⟩:=eG c.ah k (by rw[HN.o];exact bH);obtain⟨cs,⟨rfl,_⟩,hcs⟩:=hcell k f hf;have q1:bJ wr b (off+k*4+1) f.type.an:=(HB.o.cell (p:=⟨b,off+k*4+1,none⟩) hbl).trans (hcs 1 _ rfl);have q2:bJ wr b (off+k*4+1+1) f.type.of:=(HB.o.cell (p:=⟨b,off+k*4+2,none⟩) hbl).trans (hcs 2 _ rfl);have ML:Hd (aR f.type=true):=ZE.o f (Qaf hf);clear hcell hcs;have HF:=ag hf;clear hf;have BDM:Hd (Bd (bu (xL a1 k c1) M) wr):=λi h=>by rcases h with h|h;have:=hM i h;omega;exact(HA.o.cG i h).2
   by_cases h0:0<nl
   .obtain⟨bl,ZF,rfl,hMl,Fg,Qj⟩:=lM.o h0;have VP:k%nl<nl:=Nat.mod_lt _ h0;have⟨y,hy⟩:=eG ns (k%nl) (by rw[HNL.o];exact VP);obtain⟨cs,rfl,hcs⟩:=Qj (k%nl) y hy;have q3:bJ wr bl (ZF+k%nl) y:=(HB.o.cell (p:=⟨bl,ZF+k%nl,none⟩) Fg).trans (by have:=hcs 0 _ rfl;rw[show aD.size Int=1 from rfl]at this;simpa using this);have⟨hy1,hy2⟩:=Qi.o y (Qaf hy);clear Qj hcs hy;go_wp2_with fail;have ZG:=KB (y+(k:Int));refine(zU (bu (xL a1 k c1) M) wr BDM.o f.type _ ay ML.o ZG oF).mono ?_;rintro e w1⟨_,rfl,⟨⟨yk,yn,ys,yl⟩,hy,cs,rfl,hrep⟩,hb1⟩;obtain⟨av,rfl,hsl,hss⟩:=eU.iff.1 hrep;obtain⟨ya,yc,rfl,_⟩:=hsl.aq;have s1:=hb1.size;have fp:Hd (dk w1 w (xK #[c.ai,xL (b,off) n cj] 47)):=(hb1.block w hsz).trans HX.o;have Cn:=ag (HA.o.ae hb1);have CG:Hd (aC w w1):=HB.o.trans (hb1.mono (by omega));have HY:=ag hy;clear hy;have fq:=ag hrep;clear hrep;clear hb1 hsl hss;have CH:=ag HV.o.1;go_wp2_with(at_builtin;refine bo (α:=aJ) rfl _ _ _ rfl M [w] 44 i0 _ 56 underlying42 hi0 hz0 hz1 hz2 rfl (by decide) (.slice a1 k c1) vs rfl (Cn.o.alloc _) (λ_=>True) _ _ (.mk yk yn ys yl) rfl (cF _ _ _ _ rfl trivial) (aD.ev fq.o (Ev.az bU)) (by rw[CH.o];unfold maxLen;omega) (by rw[CH.o];omega) (by simp;omega) ?_;rw[CH.o];intro a2 c2 w2 bD dK bE;have dr:=ag bD;have bg:=ag bE;clear bD dK bE);go_roundg(n-(k+1));case measure=>omega
    case rel=>
     refine⟨k+1,a2,c2,vs++[.mk yk yn ys yl],by omega,rfl,by go_num,rfl,?_,dr,?_,?_⟩
     .refine(show _/\_ from⟨by simp[CH.o],λi f' v hf hv=> ?_⟩);by_cases hi:i<vs.length
      .rw[Qbc hi]at hv;exact HV.o.2 i f' v hf hv
      .rw[Qbd (by omega)]at hv;have h0:i-vs.length=0:=by
        cases hq:i-vs.length with
        |zero=>rfl
        |succ q=>rw[hq]at hv;simp at hv
       rw[h0]at hv;simp at hv;subst hv;obtain rfl:i=k:=by have:=CH.o;omega
       rw[HF.o]at hf;cases hf;exact HY.o
     .exact(show aC w _ from(CG.o.alloc (by omega) _).trans (bg.o.mono (by omega)))
     .exact(bg.o.block w (by omega)).trans ((Qcb w1 _ w (by omega)).trans fp.o)
   .go_wp2_with fail;have ZG:I6 (k:Int):=⟨by omega,by omega⟩;refine(zU (bu (xL a1 k c1) M) wr BDM.o f.type _ ay ML.o ZG oF).mono ?_;rintro e w1⟨_,rfl,⟨⟨yk,yn,ys,yl⟩,hy,cs,rfl,hrep⟩,hb1⟩;obtain⟨av,rfl,hsl,hss⟩:=eU.iff.1 hrep;obtain⟨ya,yc,rfl,_⟩:=hsl.aq;have s1:=hb1.size;have fp:Hd (dk w1 w (xK #[c.ai,xL (b,off) n cj] 47)):=(hb1.block w hsz).trans HX.o;have Cn:=ag (HA.o.ae hb1);have CG:Hd (aC w w1):=HB.o.trans (hb1.mono (by omega));have HY:=ag hy;clear hy;have fq:=ag hrep;clear hrep;clear hb1 hsl hss;have CH:=ag HV.o.1;go_wp2_with(at_builtin;refine bo (α:=aJ) rfl _ _ _ rfl M [w] 44 i0 _ 56 underlying42 hi0 hz0 hz1 hz2 rfl (by decide) (.slice a1 k c1) vs rfl (Cn.o.alloc _) (λ_=>True) _ _ (.mk yk yn ys yl) rfl (cF _ _ _ _ rfl trivial) (aD.ev fq.o (Ev.az bU)) (by rw[CH.o];unfold maxLen;omega) (by rw[CH.o];omega) (by simp;omega) ?_;rw[CH.o];intro a2 c2 w2 bD dK bE;have dr:=ag bD;have bg:=ag bE;clear bD dK bE);go_roundg(n-(k+1));case measure=>omega
    case rel=>
     refine⟨k+1,a2,c2,vs++[.mk yk yn ys yl],by omega,rfl,by go_num,rfl,?_,dr,?_,?_⟩
     .refine(show _/\_ from⟨by simp[CH.o],λi f' v hf hv=> ?_⟩);by_cases hi:i<vs.length
      .rw[Qbc hi]at hv;exact HV.o.2 i f' v hf hv
      .rw[Qbd (by omega)]at hv;have h0:i-vs.length=0:=by
        cases hq:i-vs.length with
        |zero=>rfl
        |succ q=>rw[hq]at hv;simp at hv
       rw[h0]at hv;simp at hv;subst hv;obtain rfl:i=k:=by have:=CH.o;omega
       rw[HF.o]at hf;cases hf;exact HY.o
     .exact(show aC w _ from(CG.o.alloc (by omega) _).trans (bg.o.mono (by omega)))
     .exact(bg.o.block w (by omega)).trans ((Qcb w1 _ w (by omega)).trans fp.o)
  .go_wp2;go_ret;obtain rfl:k=n:=by omega
   exact⟨_,rfl,⟨vs,⟨HV.o.1.trans HN.o.symm,HV.o.2⟩,HA.o.slice zC.o⟩,HB.o⟩
def NH(c:aI)(t:br)(v:aA):Prop:=(∃f∈c.ah,f.type=t/\v= .tuple #[f.ai,true])\/v= .tuple #[ow,false]
def oM(M:aV)(w:ax)(c:aI)(fv:aA)(from_:Int)(t:br)(hs:ab M w fv c.ah)(VO:c.ah.length<=8)(hn:I6 from_):
 xG 240 #[.agg #[c.ai,fv],from_, .agg #[t.an,t.of]] w λv _=>NH c t v:=by
 obtain⟨tk,FG⟩:=t;obtain⟨a,cj,rfl,cY,hm,hc⟩:=hs.aq;clear hs;have HC:=ag hc;clear hc;have HI:=ag hn;clear hn;generalize hn:c.ah.length=n at*;have HN:=ag hn;clear hn;have hp:=cR from_ 100 (by omega);go_enter func240,ntmps240;go_wp2;go_loopg [6,7,8,9]n(λg r0 r1 iv _ wr=>∃k:Nat,k<=n/\g=n-k/\iv=xI k/\r0= ""/\r1=xB false/\Hd (aC w wr)/\Hd (dk wr w (xK #[c.ai,xL a n cj] 47))/\Hd (bW wr [w] (xK #[tk,FG] 49)));case atStart=>
  have⟨b0,b1,hz,hb⟩:=jZ (w:=w) (o0:=xK #[c.ai,xL a n cj] 47) (o1:=xK #[tk,FG] 49) rfl;exact⟨0,Qbf _,rfl,rfl,rfl,rfl,hb,b0,b1⟩
 case round=>
  obtain⟨k,hk,rfl,rfl,rfl,rfl,HB,HX,HY⟩:=hrel;have hsz:w.heap.size+1<wr:=(Qaa.1 HY.o).1;have⟨g0,g1⟩:=ak HX.o;have⟨g2,g3⟩:=ak HY.o;by_cases bH:k<n
  .obtain⟨b,off,rfl,hMb,hbl,hcell⟩:=HC.o (by omega);have⟨p,hpp⟩:=bY (aU from_ 100);rw[<-hpp]at hp;have⟨idx,hidx⟩:=bY ((p+k)%n);have vZ:idx<n:=by rw[hidx];exact Nat.mod_lt _ (by omega)
   have z2:Int.tmod ((p:Int)+(k:Int)) (n:Int)=(idx:Int):=by
    rw[Int.tmod_eq_emod_of_nonneg (by omega),hidx];simp
   have⟨f,hf⟩:=eG c.ah idx (by rw[HN.o];exact vZ);obtain⟨cs,⟨rfl,_⟩,hcs⟩:=hcell idx f hf;have hcl:∀(j:Nat)(u:aA),[Value.string f.ai,xI f.type.an,xI f.type.of,xB f.indexed][j]? =some u->bJ wr b (off+idx*4+j) u:=λj u hu=>(HB.o.cell (p:=⟨b,off+idx*4+j,none⟩) hbl).trans (hcs j u hu);have q0:bJ wr b (off+idx*4) f.ai:=hcl 0 _ rfl;have q1:=hcl 1 _ rfl;have q2:=hcl 2 _ rfl;have q3:=hcl 3 _ rfl;have qcu:Hd (f∈c.ah):=Qaf hf;have uq:=ag hpp;clear hpp;clear hcell hcs hcl hf hidx;go_upto_region 4 with fail;go_cut [9](λs9 wx=>s9=xP wr/\wx=(wr.alloc (xK #[f.ai,f.type.an,f.type.of,xB f.indexed] 60)).drew);case first=>
    have z1:IntKind.i64.wrap ((p:Int)+(k:Int))=(p:Int)+(k:Int):=Qbe _ (by omega);have z3:(0:Int)<=(idx:Int):=Qba _;have z4:(idx:Int)<(n:Int):=by omega
    have z5:((n:Int)==0)=false:=by simp;omega
    have z6:n≠0:=by omega
    have z8:IntKind.i64.wrap (idx:Int)=(idx:Int):=Qbe _ (by omega);go_region_held3(λw'=>w'.cell? (w,1)=some (xL (b,off) n cj)/\w'.cell? (b,off+idx*4)=some (xS f.ai)/\w'.cell? (b,off+idx*4+1)=some (xI f.type.an)/\w'.cell? (b,off+idx*4+2)=some (xI f.type.of)/\w'.cell? (b,off+idx*4+3)=some (xB f.indexed))
     (first|go_keep)
     (first|(go_at_call 178;refine dw (iH _ _ _ HI.o (by omega) (by omega)) ?_;rw[show aU from_ (100:Int).toNat=p from uq.o.symm]));all_goals(go_wp2_with fail;go_meet;exact⟨rfl,rfl⟩)
   case rest=>
    obtain⟨rfl,rfl⟩:=hcut;obtain⟨fn,⟨fk,fo⟩,fi⟩:=f;clear z2;by_cases he:fk=tk/\fo=FG
    .obtain⟨rfl,rfl⟩:=he;go_wp2;go_ret2;exact⟨_,rfl, .inl ⟨_,qcu.o,rfl,rfl⟩,(HB.o.alloc (by omega) _).drew⟩
    .by_cases h1:fk=tk
     .have h2:(fo==FG)=false:=by simp;exactλh=>he ⟨h1,h⟩
      subst h1;clear he;go_wp2;go_roundg(n-(k+1));case measure=>omega
      case rel=>exact⟨k+1,by omega,rfl,by go_num,rfl,rfl,((HB.o.alloc (by omega) _).drew),(Qcb wr _ w (by omega)).trans HX.o,(Qcb wr _ [w] (by omega)).trans HY.o⟩
     .have h2:(fk==tk)=false:=by simpa using h1
      clear he h1;go_wp2;go_roundg(n-(k+1));case measure=>omega
      case rel=>exact⟨k+1,by omega,rfl,by go_num,rfl,rfl,((HB.o.alloc (by omega) _).drew),(Qcb wr _ w (by omega)).trans HX.o,(Qcb wr _ [w] (by omega)).trans HY.o⟩
  .go_wp2;go_ret2;exact⟨_,rfl, .inr rfl,HB.o⟩
def tF(c:aI)(s:aY):Prop:=s=⟨#[55]⟩\/∃f∈c.ah,f.type=⟨1,0⟩/\s=f.ai
def pQ(c:aI)(s:aY):Prop:=s=⟨#[34,97,32,98,34]⟩\/∃f∈c.ah,f.type=⟨2,0⟩/\s=f.ai
def oN(num txt:aY):List aY:=[(),⟨#[51]⟩,num,num++⟨#[32,42,32,50,32,45,32,49]⟩,⟨#[108,101,110,40]⟩++txt++⟨#[41]⟩,
 ⟨#[105,102,40]⟩++num++⟨#[32,62,32,50,44,32]⟩++num++⟨#[44,32,48,32,45,32]⟩++num++⟨#[41]⟩,⟨#[102,105,110,100,40,34,98,34,44,32]⟩++txt++⟨#[41]⟩,num++⟨#[32,47,32]⟩++num]
def mG(num txt:aY):List aY:=[(),⟨#[34,120,34]⟩,txt,txt++⟨#[32,38,32,34,45,34,32,38,32]⟩++txt,⟨#[116,101,120,116,40]⟩++num++⟨#[41]⟩,
 ⟨#[108,101,102,116,40]⟩++txt++⟨#[44,32,50,41]⟩,⟨#[102,114,111,109,40]⟩++txt++⟨#[44,32,51,41]⟩,⟨#[105,102,40]⟩++num++⟨#[32,61,32,49,44,32]⟩++txt++⟨#[44,32,34,110,111,34,41]⟩]
def ig(c:aI)(t:br)(s:aY):Prop:=
 (t=⟨1,0⟩/\∃num txt,tF c num/\pQ c txt/\s∈oN num txt)\/(t=⟨2,0⟩/\∃num txt,tF c num/\pQ c txt/\s∈mG num txt)\/(t.an≠1/\t.an≠2/\(s=⟨#[]⟩\/∃f∈c.ah,f.type=t/\s=f.ai))
def Ji {l:List aY}(h:k<l.length):(l.map Value.string).toArray[k]? =some (xS (l.getD k ow))/\l.getD k ow∈l:=by
 have e:l[k]? =some l[k]:=Qac h;constructor
 .simp[List.getD,e]
 .simp[List.getD,e]
def Ux(c:aI)(w:ax)(v:aA)(wx:ax):Prop:=∃s,v=xS s/\tF c s/\wx=w
def Rt(c:aI)(w:ax)(v:aA)(wx:ax):Prop:=∃s,v=xS s/\pQ c s/\wx=w
def Gb(M:aV)(w:ax)(c:aI)(fv:aA)(n:Int)(t:br)(hs:ab M w fv c.ah)(VO:c.ah.length<=8)(hn:I6 n)(ht:aR t=true)(hnm:∀f∈c.ah,f.ai.size<=20):
 xG 179 #[n, .agg #[t.an,t.of], .agg #[c.ai,fv]] w λv _=>∃s,v=xS s/\ig c t s:=by
 obtain⟨tk,FG⟩:=t;have HS:=ag hs;obtain⟨a,cj,rfl,cY,hm,hc⟩:=hs.aq;clear hs hc;have HI:=ag hn;clear hn;have HT:=ag ht;clear ht;have ZH:=ag hnm;clear hnm;have⟨fs,hfs⟩:=bY (c.ah);have mw:=ag (show I6 (n.tdiv 2)by
  have⟨h1,h2⟩:=HI.o;rcases Int.lt_or_le n 0 with h|h
  .have e:n.tdiv 2= -((-n)/2):=by
    have h3:(-n).tdiv 2=(-n)/2:=Int.tdiv_eq_ediv_of_nonneg (by omega);rw[Int.neg_tdiv]at h3;omega
   rw[e];exact⟨by omega,by omega⟩
  .rw[Int.tdiv_eq_ediv_of_nonneg h];exact⟨by omega,by omega⟩);have⟨hn1,hn2⟩:=HI.o;go_enter func179,ntmps179;go_wp2_with fail;have hb0:aC w ((w.alloc (xK #[tk,FG] 49)).alloc (xK #[c.ai,xL a c.ah.length cj] 47)):=bU.alloc (by simp) _;refine(oM M _ c _ n ⟨1,0⟩ (HS.o.ae hb0) VO HI.o).mono ?_;rintro e w1⟨v1,rfl,Zg,hb1⟩;have ui:=ag ((hb1.block w (by simp;omega)).trans (jZ (w:=w) rfl).1);have fp:=ag ((hb1.block [w] (by simp)).trans (jZ (w:=w) rfl).2.1);have bz:Hd (aC w w1):=hb0.trans (hb1.mono (by simp;omega));have s1:=hb1.size;simp at s1;clear hb0 hb1;have MM:=ag (show∃s1 b1,v1= .tuple #[xS s1,xB b1]/\(b1=true->tF c s1)by
  rcases Zg with⟨f,hf,ht,rfl⟩|rfl
  .exact⟨_,_,rfl,λ_=> .inr ⟨f,hf,ht,rfl⟩⟩
  .exact⟨_,_,rfl,λh=>by cases h⟩);clear Zg;obtain⟨s1',b1,rfl,Qk⟩:=MM.o;clear MM;have⟨p0,p1⟩:=ak ui.o;have⟨p2,p3⟩:=ak fp.o;have qcv:=ag Qk;clear Qk;go_wp2_with fail;refine(oM M _ c _ (n.tdiv 2) ⟨2,0⟩ (HS.o.ae bz.o) VO mw.o).mono ?_;rintro e w2⟨v2,rfl,hg2,bE⟩;have ui:=ag ((bE.block w (by omega)).trans ui.o);have bg:Hd (aC w w2):=bz.o.trans (bE.mono (by omega));have fp:=ag ((bE.block [w] (by omega)).trans fp.o);have s2:=bE.size;clear bE;have SD:=ag (show∃s2 b2,v2= .tuple #[xS s2,xB b2]/\(b2=true->pQ c s2)by
  rcases hg2 with⟨f,hf,ht,rfl⟩|rfl
  .exact⟨_,_,rfl,λ_=> .inr ⟨f,hf,ht,rfl⟩⟩
  .exact⟨_,_,rfl,λh=>by cases h⟩);clear hg2;obtain⟨s2',b2,rfl,TO⟩:=SD.o;clear SD p0 p1 p2 p3;have⟨p0,p1⟩:=ak ui.o;have⟨p2,p3⟩:=ak fp.o;have ZI:=ag TO;clear TO;go_upto_if 29 with fail;go_cut [7](λs7 wx=>Ux c w2 s7 wx);case first=>
  cases b1
  .go_wp2;go_meet;exact⟨_,rfl, .inl rfl,rfl⟩
  .go_wp2;go_meet;exact⟨_,rfl,qcv.o trivial,rfl⟩
 case rest=>
  obtain⟨num,rfl,Qk,rfl⟩:=hcut;have Ql:=ag Qk;clear Qk;go_upto_if 31 with fail;go_cut [9](λs9 wx=>Rt c wc s9 wx);case first=>
   cases b2
   .go_wp2;go_meet;exact⟨_,rfl, .inl rfl,rfl⟩
   .go_wp2;go_meet;exact⟨_,rfl,ZI.o trivial,rfl⟩
  case rest=>
   obtain⟨txt,rfl,htx,rfl⟩:=hcut;have VQ:=ag htx;clear htx;have ZJ:num.size<=20:=by
    rcases Ql.o with rfl|⟨f,hf,_,rfl⟩
    .decide
    .exact ZH.o f hf
   have hst:txt.size<=20:=by
    rcases VQ.o with rfl|⟨f,hf,_,rfl⟩
    .decide
    .exact ZH.o f hf
   have Xv:=cR n 8 (by omega);by_cases h1:tk=1
   .subst h1;have HT0:=ag (show FG=0 by have:=HT.o;simp[aR]at this;exact this);go_wp2_with fail;refine dw (iH _ _ _ HI.o (by omega) (by omega)) ?_;have⟨W,hW⟩:=bY (wc.alloc (.cells ((oN num txt).map Value.string).toArray 9));rw[show wc.alloc (xK #["",xS ⟨#[51]⟩,num,xS (num++⟨#[32,42,32,50,32,45,32,49]⟩),xS (⟨#[108,101,110,40]⟩++txt++⟨#[41]⟩),xS (⟨#[105,102,40]⟩++num++⟨#[32,62,32,50,44,32]⟩++num++⟨#[44,32,48,32,45,32]⟩++num++⟨#[41]⟩),xS (⟨#[102,105,110,100,40,34,98,34,44,32]⟩++txt++⟨#[41]⟩),xS (num++⟨#[32,47,32]⟩++num)] 9)=W from hW.symm];have⟨c0,c1⟩:=Ji (l:=oN num txt) (k:=aU n 8) Xv;have q:ou W wc (aU n 8) (xS ((oN num txt).getD (aU n 8) ow)):=cell_of_heap (rE hW).1 c0;have TP:=ag (rE hW).2.2;have C1:=ag c1;clear c1;clear hW c0;go_wp2;go_ret;exact⟨_,rfl,⟨_,rfl, .inl ⟨by rw[HT0.o],num,txt,Ql.o,VQ.o,C1.o⟩⟩,bg.o.trans (TP.o.mono (by omega))⟩
   .by_cases h2:tk=2
    .subst h2;have HT0:=ag (show FG=0 by have:=HT.o;simp[aR]at this;exact this);go_wp2_with fail;refine dw (iH _ _ _ HI.o (by omega) (by omega)) ?_;have⟨W,hW⟩:=bY (wc.alloc (.cells ((mG num txt).map Value.string).toArray 9));rw[show wc.alloc (xK #["",xS ⟨#[34,120,34]⟩,txt,xS (txt++⟨#[32,38,32,34,45,34,32,38,32]⟩++txt),xS (⟨#[116,101,120,116,40]⟩++num++⟨#[41]⟩),xS (⟨#[108,101,102,116,40]⟩++txt++⟨#[44,32,50,41]⟩),xS (⟨#[102,114,111,109,40]⟩++txt++⟨#[44,32,51,41]⟩),xS (⟨#[105,102,40]⟩++num++⟨#[32,61,32,49,44,32]⟩++txt++⟨#[44,32,34,110,111,34,41]⟩)] 9)=W from hW.symm];have⟨c0,c1⟩:=Ji (l:=mG num txt) (k:=aU n 8) Xv;have q:ou W wc (aU n 8) (xS ((mG num txt).getD (aU n 8) ow)):=cell_of_heap (rE hW).1 c0;have TP:=ag (rE hW).2.2;have C1:=ag c1;clear c1;clear hW c0;go_wp2;go_ret;exact⟨_,rfl,⟨_,rfl, .inr (.inl ⟨by rw[HT0.o],num,txt,Ql.o,VQ.o,C1.o⟩)⟩,bg.o.trans (TP.o.mono (by omega))⟩
    .have e1:(tk==1)=false:=by simpa using h1
     have e2:(tk==2)=false:=by simpa using h2
     have H1:=ag h1;clear h1;have H2:=ag h2;clear h2;go_wp2_with fail;refine(oM M _ c _ n ⟨tk,FG⟩ (HS.o.ae bg.o) VO HI.o).mono ?_;rintro e w3⟨v3,rfl,hg3,hb3⟩;have bV:Hd (aC w w3):=bg.o.trans (hb3.mono (by omega));clear hb3;rcases hg3 with⟨f,hf,Q0,rfl⟩|rfl
     .have HFM:=ag hf;clear hf;have ZE:=ag Q0;clear Q0;by_cases h3:0<aU n 3
      .have h3':(0:Int)<(aU n 3:Int):=by omega
       go_wp2_with fail;refine dw (iH _ _ _ HI.o (by omega) (by omega)) ?_;go_wp2;go_ret;exact⟨_,rfl,⟨_,rfl, .inr (.inr ⟨H1.o,H2.o, .inr ⟨f,HFM.o,ZE.o,rfl⟩⟩)⟩,bV.o⟩
      .have h3':¬(0:Int)<(aU n 3:Int):=by omega
       go_wp2_with fail;refine dw (iH _ _ _ HI.o (by omega) (by omega)) ?_;go_wp2;go_ret;exact⟨_,rfl,⟨_,rfl, .inr (.inr ⟨H1.o,H2.o, .inl rfl⟩)⟩,bV.o⟩
     .go_wp2;go_ret;exact⟨_,rfl,⟨_,rfl, .inr (.inr ⟨H1.o,H2.o, .inl rfl⟩)⟩,bV.o⟩
end Go.Proofs.YtepaofffbkfodaaGreatDoor
