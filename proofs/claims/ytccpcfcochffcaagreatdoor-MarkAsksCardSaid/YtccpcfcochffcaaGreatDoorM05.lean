/- A part of MarkAsks's proof; no condition. -/
import Derived.Test.YtccpcfcochffcaaGreatDoorM02
import Derived.Deep.RegionLaw
set_option linter.all false
set_option maxHeartbeats 8000000
set_option maxRecDepth 100000
namespace Go.Proofs.YtccpcfcochffcaaGreatDoor
open Tryz
open Go.RowKit
variable{v:an}{W:aj}{k:Nat}
def Hj(M:aS)(w:aj)(of many:Int)(i:Nat)(wr:aj):Prop:=
 ∃(a:dC)(c:Nat)(xs:List au),xs.length=i/\(∀x∈xs,kU of many x)/\aP (λi=>M i\/(w.heap.size<=i/\i<w.heap.size+4)) (w.heap.size+4) 30 wr (xL a i c) xs/\aq w wr/\w.heap.size+4<=wr.heap.size/\
  dY wr w (xK #[xI 5,xI of] 136)/\cI wr (w.heap.size+1) (xK iN 30)/\
  cI wr (w.heap.size+1+1+1) (xK #[xI 5,xI 0,xS ⟨#[]⟩,xL a i c] 30)
def mJ {a:Addr}(h:W.cell? a=some v):a.block<W.heap.size:=by
 unfold World.cell? at h;rcases Nat.lt_or_ge a.block W.heap.size with aX|K8
 .exact aX
 .rw[Array.getElem?_eq_none K8]at h;cases h
def bF(W:aj)(o:Obj)(p:Addr)(h:W.cell? p=some v):(W.alloc o).cell? p=some v:=
 (World.cell?_of_block (w:=W) (Qcb W o p.block (mJ h))).trans h
def LC(x:Int):I6 (wrap64 x):=by
 have h:=wrap64_wf x;unfold I6;simpa [Lit.wf,IntKind.min,IntKind.max,IntKind.signed,IntKind.bits]using h
def Zv {n:Int}(h:I6 n): -2305843009213693952<=n.tdiv 4/\n.tdiv 4<=2305843009213693952:=by
 obtain⟨h1,h2⟩:=h;rcases Int.lt_or_le n 0 with h|h
 .have e:n.tdiv 4= -((-n)/4):=by
   have h3:(-n).tdiv 4=(-n)/4:=Int.tdiv_eq_ediv_of_nonneg (by omega);rw[Int.neg_tdiv]at h3;omega
  rw[e];omega
 .rw[Int.tdiv_eq_ediv_of_nonneg h];omega
def Hk(M:aS)(w:aj)(hM:Bd M w)(of n many:Int)(qM:1<=of)(si:of<=4)(hn:I6 n)(Ac:many<=1000):
 xG 83 #[.agg #[xI 5,xI of],xI n,xI many] w λv w'=>∃x,db ⟨5,of⟩ many x/\bS M w' v x:=by
 obtain⟨i0,dz,dX,cY,dA⟩:=info_parts fY;obtain⟨RU,Ys⟩:=Zv hn;obtain⟨QR,hnu⟩:=hn;have HI:Hd (I6 n):=⟨QR,hnu⟩;have hp4:=cq n 4 (by omega);have QS:Hd (∀i,(M i\/(w.heap.size<=i/\i<w.heap.size+4))->i<w.heap.size+4):=λi h=>by rcases h with h|h;have:=hM i h;omega;omega
 go_enter func83,ntmps83;go_wp2_with fail;obtain⟨p,hp⟩:=cM (aH n 4);rw[<-hp]at hp4;have HP:=af hp;go_loopg [9]p(λg iv wr=>∃i:Nat,i<=p/\g=p-i/\iv=xI i/\Hd (Hj M w of many i wr));case atStart=>
  refine⟨0,Qbf _,rfl,rfl,?_⟩;obtain⟨b0,b1,b2,b3,hz,hb⟩:=Uz (w:=w) (o0:=xK #[xI 5,xI of] 136) (o1:=xK iN 30) (o2:=xK #[xS ⟨#[]⟩,xS ⟨#[97]⟩,xS ⟨#[98,99]⟩,xS ⟨#[195,169,116,195,169]⟩,xS ⟨#[97,32,98]⟩,xS ⟨#[122,122,32,116,111,112]⟩,xS ⟨#[48]⟩,xS ⟨#[45,55]⟩] 9) (o3:=xK #[xI 5,xI 0,xS ⟨#[]⟩,xL none 0 0] 30) rfl;exact(show Hj M w of many 0 _ from⟨none,0,[],rfl,λx h=>(by cases h),aP.nil _ _ _ _,hb,by rw[hz];omega,b0,b1,b3⟩)
 case round=>
  obtain⟨i,hi,rfl,rfl,HL⟩:=hrel;obtain⟨a',c',xs,Ad,hxo,hacc,Aa,hsz,kD,aC,bG⟩:=HL.o;obtain⟨t0,t1⟩:=ah kD;obtain⟨r0,r1,r2,r3⟩:=ae aC;obtain⟨v0,v1,v2,v3⟩:=ae bG;obtain⟨f0,f1,f2,f3⟩:=ic aC;have Lb:=af Ad;have HXO:=af hxo;have HA:=af hacc;have NP:=af Aa;have iA:=af kD;have aO:=af aC;have bI:=af bG;by_cases aX:i<p
  .go_upto_region 16 with(go_at_call 78;refine dJ (eS _ _ _ HI.o (by omega) (by omega)) ?_;rw[show aH n (4:Int).toNat=p from HP.o.symm]);have z1:IntKind.i64.wrap (n.tdiv 4)=n.tdiv 4:=Qbe _ (by omega);have z2:IntKind.i64.wrap (n.tdiv 4+(i:Int))=n.tdiv 4+(i:Int):=Qbe _ (by omega);have oQ:Hd (I6 (n.tdiv 4+(i:Int))):=⟨by omega,by omega⟩;go_region_law(first
    |(go_simp;go_at_call 83;refine(Bg (bB (xL a' i c') (λi=>M i\/(w.heap.size<=i/\i<w.heap.size+4))) _ of 0 _ many qM si oQ.o Ac).mono ?_;rintro e w1⟨_,rfl,⟨⟨yk,yn,ys,yl⟩,hy,cs,rfl,bU⟩,aC⟩;obtain⟨av,rfl,bo,j6⟩:=eN.iff.1 bU;obtain⟨ya,yc,rfl,_⟩:=bo.open_;have jU:Hd (aq wr w1):=((Qbg _ wr).drew.trans aC);have fH:=af bU;have HY:=af hy;have s1:=aC.size;simp at s1;have k3:aU w1 (w.heap.size+1+1+1) 3 (xL a' i c'):=(jU.o.cell (p:=⟨w.heap.size+1+1+1,3,none⟩) (by simp;omega)).trans v3;have k1:pd w1 w 1 (xI of):=(jU.o.cell (p:=⟨w.heap.size,1,none⟩) (by simp;omega)).trans t1;have n3:∀o,(w1.alloc o).cell? ⟨w.heap.size+1+1+1,3,none⟩=some (xL a' i c'):=λo=>bF _ _ _ k3;have n0:∀o,(w1.alloc o).cell? ⟨w.heap.size,1,none⟩=some (xI of):=λo=>bF _ _ _ k1;clear aC bU bo j6 hy)
    |(refine cO (α:=au) rfl _ _ _ rfl (λi=>M i\/(w.heap.size<=i/\i<w.heap.size+4)) (w.heap.size+4) 30 i0 _ 56 underlying28 dz dX cY dA rfl (by decide) (.slice a' i c') xs rfl ((HA.o.below jU.o).alloc _) (λ_=>True) _ _ (.mk yk yn ys yl) rfl (b9 _ _ _ _ rfl trivial) (aA.ev fH.o (Ev.ao bO)) (by rw[Lb.o];unfold maxLen;omega) (by rw[Lb.o];omega) (by simp;omega) ?_;rw[Lb.o];intro a2 c2 w2 bu dr aY;have cL:=af bu;have l3:aU w2 (w.heap.size+1+1+1) 3 (xL a' i c'):=(aY.cell (p:=⟨w.heap.size+1+1+1,3,none⟩) (by simp)).trans (bF _ _ _ k3);have l1:pd w2 w 1 (xI of):=(aY.cell (p:=⟨w.heap.size,1,none⟩) (by simp)).trans (bF _ _ _ k1);have l4:w2.frozen? ⟨w.heap.size+1+1+1,3,none⟩=false:=(aY.frozen (p:=⟨w.heap.size+1+1+1,3,none⟩) (by simp)).trans ((bO.frozen (p:=⟨w.heap.size+1+1+1,3,none⟩) (by simp;omega)).trans ((jU.o.frozen (p:=⟨w.heap.size+1+1+1,3,none⟩) (by simp;omega)).trans (ag bI.o 3)));have aL:=af aY;clear bu dr aY));all_goals
    go_wp2;go_roundg(p-(i+1));case measure=>omega
    case rel=>
     refine⟨i+1,by omega,rfl,by go_num,?_⟩;have lJ:∀b,b<w.heap.size+4->w2.heap[b]? =wr.heap[b]? :=λb hb=>(aL.o.block b hb).trans ((Qcb w1 _ b (by omega)).trans (jU.o.block b (by omega)));have jC:=aL.o.size;simp at jC;refine(show Hj M w of many (i+1) _ from⟨a2,c2,xs++[.mk yk yn ys yl],by simp[Lb.o],?_,cL.o.uz (.inr ⟨by simp;omega,by simp⟩) (by simp) _,?_,by simp;omega,?_,?_,?_⟩)
     .intro x hx;rcases Qch.1 hx with h|h
      .exact HXO.o x h
      .simp at h;subst h;exact HY.o
     .exact(((NP.o.trans (jU.o.mono (by omega))).alloc (by omega) _).trans (aL.o.mono (by omega))).setCell (by first|(simp;done)|(simp;omega)) _
     .exact(Qag _ _ _ _ (by first|(simp;done)|(simp;omega))).trans ((lJ _ (by omega)).trans iA.o)
     .exact(Qag _ _ _ _ (by first|(simp;done)|(simp;omega))).trans ((lJ _ (by omega)).trans aO.o)
     .exact Qca w2 _ 3 _ _ _ ((lJ _ (by omega)).trans bI.o)
  .go_wp2_with(go_at_call 78;refine dJ (eS _ _ _ HI.o (by omega) (by omega)) ?_;rw[show aH n (4:Int).toNat=p from HP.o.symm]);refine Qae (v:= .agg #[xI 5,xI 0,xS ⟨#[]⟩,xL a' i c']) (by simp[results,results83,go_sem,r0,r1,r2,r3]) rfl ⟨_,rfl,⟨.mk 5 0 jN xs, .inl ⟨rfl,xs,rfl,by rw[Lb.o];omega,HXO.o⟩,_,rfl,eN.iff.2 ⟨_,rfl,?_,fR⟩⟩,?_⟩
   .have h:=(HA.o.slice QS.o).ev (M':=M) (((((Ev.eG wr (λi h=> .inl h)).setCell (p:=⟨w.heap.size+1,0,none⟩) (.inl (.inr ⟨by simp,by simp⟩)) (xI 5)).setCell (p:=⟨w.heap.size+1,1,none⟩) (.inl (.inr ⟨by simp,by simp⟩)) (xI 0)).setCell (p:=⟨w.heap.size+1,2,none⟩) (.inl (.inr ⟨by simp,by simp⟩)) (xS ⟨#[]⟩)).setCell (p:=⟨w.heap.size+1,3,none⟩) (.inl (.inr ⟨by simp,by simp⟩)) (xL a' i c'));exact h
   .exact(((NP.o.setCell (by simp) _).setCell (by simp) _).setCell (by simp) _).setCell (by simp) _
def Bh(M:aS)(w:aj)(hM:Bd M w)(t:aR)(n many:Int)(ht:aF t=true)(hn:I6 n)(Ac:many<=1000):
 xG 83 #[.agg #[xI t.kind,xI t.of],xI n,xI many] w λv w'=>∃x,db t many x/\bS M w' v x:=by
 obtain⟨k,o⟩:=t;unfold aF at ht;by_cases h5:k=5
 .subst h5;simp at ht;exact Hk M w hM o n many ht.1 ht.2 hn Ac
 .simp[h5]at ht;exact(Bg M w k o n many ht.1 ht.2.1 hn Ac).mono λe w'⟨v,h1,⟨x,h2,h3⟩,h4⟩=>⟨v,h1,⟨x, .inr ⟨h5,h2⟩,h3⟩,h4⟩
def aW(fs:List ay)(many:Int)(vs:List au):Prop:=vs.length=fs.length/\∀(i:Nat)(f:ay)(v:au),fs[i]? =some f->vs[i]? =some v->db f.type many v
def Hl(M:aS)(w:aj)(hM:Bd M w)(c:az)(fv lv:an)(ns:List Int)(many:Int)(hs:ab M w fv c.fields)(hl:ab M w lv ns)(YD:∀y∈ns,I6 y)(WQ:c.fields.length<=8)(R7:∀f∈c.fields,aF f.type=true)(Ac:many<=1000):
 xG 45 #[.agg #[xS c.name,fv],lv,xI many] w λv w'=>∃vs,aW c.fields many vs/\ab M w' v vs:=by
 obtain⟨i0,dz,dX,cY,dA⟩:=info_parts fY;obtain⟨a,bQ,rfl,cK,hm,hc⟩:=hs.open_;obtain⟨al,qgo,rfl,qf2,ud,gw⟩:=hl.open_;clear hs hl;have HC:=af hc;clear hc;have pX:=af gw;clear gw;have QT:=af YD;clear YD;have U3:=af R7;clear R7;generalize hn:c.fields.length=n at*;generalize QR:ns.length=nl at*;have HN:=af hn;clear hn;have YE:=af QR;clear QR;have QS:Hd (∀i,M i->i<w.heap.size+1):=λi h=>Nat.lt_succ_of_lt (hM i h);go_enter func45,ntmps45;go_wp2;go_loopg [7,8,9]n(λg ov iv _ wr=>∃(k:Nat)(a1:dC)(c1:Nat)(vs:List au),k<=n/\g=n-k/\iv=xI k/\ov=xL a1 k c1/\Hd (vs.length=k/\∀(i:Nat)(f:ay)(v:au),c.fields[i]? =some f->vs[i]? =some v->db f.type many v)/\Hd (aP M (w.heap.size+1) 30 wr (xL a1 k c1) vs)/\Hd (aq w wr)/\Hd (dY wr w (xK #[xS c.name,xL a n bQ] 101)));case atStart=>exact⟨0,none,0,[],Qbf _,rfl,rfl,rfl,(show [].length=0/\_ from⟨rfl,λi f v _ h=>by simp at h⟩),(aP.nil _ _ _ _),bO,Qbh _ _⟩
 case round=>
  obtain⟨k,a1,c1,vs,hk,rfl,rfl,rfl,HV,HA,HB,HX⟩:=hrel;have hsz:w.heap.size<wr.heap.size:=(Qaa.1 HX.o).1;obtain⟨g0,g1⟩:=ah HX.o;by_cases aX:k<n
  .obtain⟨b,off,rfl,Dl,cw,aG⟩:=HC.o (by omega);obtain⟨f,hf⟩:=dQ c.fields k (by rw[HN.o];exact aX);obtain⟨cs,⟨rfl,_⟩,bD⟩:=aG k f hf;have q1:aU wr b (off+k*4+1) (xI f.type.kind):=(HB.o.cell (p:=⟨b,off+k*4+1,none⟩) cw).trans (bD 1 _ rfl);have q2:aU wr b (off+k*4+1+1) (xI f.type.of):=(HB.o.cell (p:=⟨b,off+k*4+2,none⟩) cw).trans (bD 2 _ rfl);have Nq:Hd (aF f.type=true):=U3.o f (Qaf hf);clear aG bD;have HF:=af hf;clear hf;have BDM:Hd (Bd (bB (xL a1 k c1) M) wr):=λi h=>by rcases h with h|h;have:=hM i h;omega;exact(HA.o.dU i h).2
   by_cases h0:0<nl
   .obtain⟨bl,qak,rfl,hMl,Gk,QU⟩:=pX.o h0;have WR:k%nl<nl:=Nat.mod_lt _ h0;obtain⟨y,hy⟩:=dQ ns (k%nl) (by rw[YE.o];exact WR);obtain⟨cs,rfl,bD⟩:=QU (k%nl) y hy;have q3:aU wr bl (qak+k%nl) (xI y):=(HB.o.cell (p:=⟨bl,qak+k%nl,none⟩) Gk).trans (by have:=bD 0 _ rfl;rw[show aA.size Int=1 from rfl]at this;simpa using this);obtain⟨hy1,hy2⟩:=QT.o y (Qaf hy);clear QU bD hy;go_wp2_with fail;have HI0:=LC (y+(k:Int));refine(Bh (bB (xL a1 k c1) M) wr BDM.o f.type _ many Nq.o HI0 Ac).mono ?_;rintro e w1⟨_,rfl,⟨⟨yk,yn,ys,yl⟩,hy,cs,rfl,bU⟩,aC⟩;obtain⟨av,rfl,bo,j6⟩:=eN.iff.1 bU;obtain⟨ya,yc,rfl,_⟩:=bo.open_;have s1:=aC.size;have fI:Hd (dY w1 w (xK #[xS c.name,xL (some ⟨b,off,none⟩) n bQ] 101)):=(aC.block w.heap.size hsz).trans HX.o;have Dq:=af (HA.o.below aC);have Gr:Hd (aq w w1):=HB.o.trans (aC.mono (by omega));have HY:=af hy;clear hy;have fH:=af bU;clear bU;clear aC bo j6;have JO:=af HV.o.1;go_wp2_with(at_builtin;refine aZ (α:=au) rfl _ _ _ rfl M (w.heap.size+1) 30 i0 _ 56 underlying28 dz dX cY dA rfl (by decide) (.slice a1 k c1) vs rfl (Dq.o.alloc _) (λ_=>True) _ _ (.mk yk yn ys yl) rfl (b9 _ _ _ _ rfl trivial) (aA.ev fH.o (Ev.ao bO)) (by rw[JO.o];unfold maxLen;omega) (by rw[JO.o];omega) (by simp;omega) ?_;rw[JO.o];intro a2 c2 w2 bu dr aY;have cL:=af bu;have aL:=af aY;clear bu dr aY);go_roundg(n-(k+1));case measure=>omega
    case rel=>
     refine⟨k+1,a2,c2,vs++[.mk yk yn ys yl],by omega,rfl,by go_num,rfl,?_,cL,?_,?_⟩
     .refine(show _/\_ from⟨by simp[JO.o],λi f' v hf hv=> ?_⟩);by_cases hi:i<vs.length
      .rw[Qbc hi]at hv;exact HV.o.2 i f' v hf hv
      .rw[Qbd (by omega)]at hv;have h0:i-vs.length=0:=by
        cases hq:i-vs.length with
        |zero=>rfl
        |succ q=>rw[hq]at hv;simp at hv
       rw[h0]at hv;simp at hv;subst hv;obtain rfl:i=k:=by have:=JO.o;omega
       rw[HF.o]at hf;cases hf;exact HY.o
     .exact(show aq w _ from(Gr.o.alloc (by omega) _).trans (aL.o.mono (by omega)))
     .exact(aL.o.block w.heap.size (by omega)).trans ((Qcb w1 _ w.heap.size (by omega)).trans fI.o)
   .go_wp2_with fail;have HI0:I6 (k:Int):=⟨by omega,by omega⟩;refine(Bh (bB (xL a1 k c1) M) wr BDM.o f.type _ many Nq.o HI0 Ac).mono ?_;rintro e w1⟨_,rfl,⟨⟨yk,yn,ys,yl⟩,hy,cs,rfl,bU⟩,aC⟩;obtain⟨av,rfl,bo,j6⟩:=eN.iff.1 bU;obtain⟨ya,yc,rfl,_⟩:=bo.open_;have s1:=aC.size;have fI:Hd (dY w1 w (xK #[xS c.name,xL (some ⟨b,off,none⟩) n bQ] 101)):=(aC.block w.heap.size hsz).trans HX.o;have Dq:=af (HA.o.below aC);have Gr:Hd (aq w w1):=HB.o.trans (aC.mono (by omega));have HY:=af hy;clear hy;have fH:=af bU;clear bU;clear aC bo j6;have JO:=af HV.o.1;go_wp2_with(at_builtin;refine aZ (α:=au) rfl _ _ _ rfl M (w.heap.size+1) 30 i0 _ 56 underlying28 dz dX cY dA rfl (by decide) (.slice a1 k c1) vs rfl (Dq.o.alloc _) (λ_=>True) _ _ (.mk yk yn ys yl) rfl (b9 _ _ _ _ rfl trivial) (aA.ev fH.o (Ev.ao bO)) (by rw[JO.o];unfold maxLen;omega) (by rw[JO.o];omega) (by simp;omega) ?_;rw[JO.o];intro a2 c2 w2 bu dr aY;have cL:=af bu;have aL:=af aY;clear bu dr aY);go_roundg(n-(k+1));case measure=>omega
    case rel=>
     refine⟨k+1,a2,c2,vs++[.mk yk yn ys yl],by omega,rfl,by go_num,rfl,?_,cL,?_,?_⟩
     .refine(show _/\_ from⟨by simp[JO.o],λi f' v hf hv=> ?_⟩);by_cases hi:i<vs.length
      .rw[Qbc hi]at hv;exact HV.o.2 i f' v hf hv
      .rw[Qbd (by omega)]at hv;have h0:i-vs.length=0:=by
        cases hq:i-vs.length with
        |zero=>rfl
        |succ q=>rw[hq]at hv;simp at hv
       rw[h0]at hv;simp at hv;subst hv;obtain rfl:i=k:=by have:=JO.o;omega
       rw[HF.o]at hf;cases hf;exact HY.o
     .exact(show aq w _ from(Gr.o.alloc (by omega) _).trans (aL.o.mono (by omega)))
     .exact(aL.o.block w.heap.size (by omega)).trans ((Qcb w1 _ w.heap.size (by omega)).trans fI.o)
  .go_wp2;go_ret;obtain rfl:k=n:=by omega
   exact⟨_,rfl,⟨vs,⟨HV.o.1.trans HN.o.symm,HV.o.2⟩,HA.o.slice QS.o⟩,HB.o⟩
def On(c:az)(t:aR)(v:an):Prop:=(∃f∈c.fields,f.type=t/\v= .tuple #[xS f.name,xB true])\/v= .tuple #[xS jN,xB false]
def pr(M:aS)(w:aj)(c:az)(fv:an)(from_:Int)(t:aR)(hs:ab M w fv c.fields)(WQ:c.fields.length<=8)(hn:I6 from_):
 xG 173 #[.agg #[xS c.name,fv],xI from_, .agg #[xI t.kind,xI t.of]] w λv _=>On c t v:=by
 obtain⟨tk,Aq⟩:=t;obtain⟨a,bQ,rfl,cK,hm,hc⟩:=hs.open_;clear hs;have HC:=af hc;clear hc;have HI:=af hn;clear hn;generalize hn:c.fields.length=n at*;have HN:=af hn;clear hn;have hp:=cq from_ 100 (by omega);go_enter func173,ntmps173;go_wp2;go_loopg [6,7,8,9]n(λg r0 r1 iv _ wr=>∃k:Nat,k<=n/\g=n-k/\iv=xI k/\r0=xS ⟨#[]⟩/\r1=xB false/\Hd (aq w wr)/\Hd (dY wr w (xK #[xS c.name,xL a n bQ] 101))/\Hd (cI wr (w.heap.size+1) (xK #[xI tk,xI Aq] 136)));case atStart=>
  obtain⟨b0,b1,hz,hb⟩:=jM (w:=w) (o0:=xK #[xS c.name,xL a n bQ] 101) (o1:=xK #[xI tk,xI Aq] 136) rfl;exact⟨0,Qbf _,rfl,rfl,rfl,rfl,hb,b0,b1⟩
 case round=>
  obtain⟨k,hk,rfl,rfl,rfl,rfl,HB,HX,HY⟩:=hrel;have hsz:w.heap.size+1<wr.heap.size:=(Qaa.1 HY.o).1;obtain⟨g0,g1⟩:=ah HX.o;obtain⟨g2,g3⟩:=ah HY.o;by_cases aX:k<n
  .obtain⟨b,off,rfl,Dl,cw,aG⟩:=HC.o (by omega);obtain⟨p,hpp⟩:=cM (aH from_ 100);rw[<-hpp]at hp;obtain⟨idx,WS⟩:=cM ((p+k)%n);have zV:idx<n:=by rw[WS];exact Nat.mod_lt _ (by omega)
   have z2:Int.tmod ((p:Int)+(k:Int)) (n:Int)=(idx:Int):=by
    rw[Int.tmod_eq_emod_of_nonneg (by omega),WS];simp
   obtain⟨f,hf⟩:=dQ c.fields idx (by rw[HN.o];exact zV);obtain⟨cs,⟨rfl,_⟩,bD⟩:=aG idx f hf;have gw:∀(j:Nat)(u:an),[Value.string f.name,xI f.type.kind,xI f.type.of,xB f.indexed][j]? =some u->aU wr b (off+idx*4+j) u:=λj u hu=>(HB.o.cell (p:=⟨b,off+idx*4+j,none⟩) cw).trans (bD j u hu);have q0:aU wr b (off+idx*4) (xS f.name):=gw 0 _ rfl;have q1:=gw 1 _ rfl;have q2:=gw 2 _ rfl;have q3:=gw 3 _ rfl;have JP:Hd (f∈c.fields):=Qaf hf;have YF:=af hpp;clear hpp;clear aG bD gw hf WS;go_upto_region 4 with fail;go_cut [9](λs9 wx=>s9=xP wr.heap.size/\wx=(wr.alloc (xK #[xS f.name,xI f.type.kind,xI f.type.of,xB f.indexed] 138)).drew);case first=>
    have z1:IntKind.i64.wrap ((p:Int)+(k:Int))=(p:Int)+(k:Int):=Qbe _ (by omega);have z3:(0:Int)<=(idx:Int):=Qba _;have z4:(idx:Int)<(n:Int):=by omega
    have z5:((n:Int)==0)=false:=by simp;omega
    have z6:n≠0:=by omega
    have z8:IntKind.i64.wrap (idx:Int)=(idx:Int):=Qbe _ (by omega);go_region_held3(λw'=>w'.cell? ⟨w.heap.size,1,none⟩=some (xL (some ⟨b,off,none⟩) n bQ)/\w'.cell? ⟨b,off+idx*4,none⟩=some (xS f.name)/\w'.cell? ⟨b,off+idx*4+1,none⟩=some (xI f.type.kind)/\w'.cell? ⟨b,off+idx*4+2,none⟩=some (xI f.type.of)/\w'.cell? ⟨b,off+idx*4+3,none⟩=some (xB f.indexed))
     (first|go_keep)
     (first|(go_at_call 132;refine dJ (iu _ _ _ HI.o (by omega) (by omega)) ?_;rw[show aH from_ (100:Int).toNat=p from YF.o.symm]));all_goals(go_wp2_with fail;go_meet;exact⟨rfl,rfl⟩)
   case rest=>
    obtain⟨rfl,rfl⟩:=hcut;obtain⟨fn,⟨fk,fo⟩,fi⟩:=f;clear z2;by_cases he:fk=tk/\fo=Aq
    .obtain⟨rfl,rfl⟩:=he;go_wp2;go_ret2;exact⟨_,rfl, .inl ⟨_,JP.o,rfl,rfl⟩,(HB.o.alloc (by omega) _).drew⟩
    .by_cases h1:fk=tk
     .have h2:(fo==Aq)=false:=by simp;exactλh=>he ⟨h1,h⟩
      subst h1;clear he;go_wp2;go_roundg(n-(k+1));case measure=>omega
      case rel=>exact⟨k+1,by omega,rfl,by go_num,rfl,rfl,((HB.o.alloc (by omega) _).drew),(Qcb wr _ w.heap.size (by omega)).trans HX.o,(Qcb wr _ (w.heap.size+1) (by omega)).trans HY.o⟩
     .have h2:(fk==tk)=false:=by simpa using h1
      clear he h1;go_wp2;go_roundg(n-(k+1));case measure=>omega
      case rel=>exact⟨k+1,by omega,rfl,by go_num,rfl,rfl,((HB.o.alloc (by omega) _).drew),(Qcb wr _ w.heap.size (by omega)).trans HX.o,(Qcb wr _ (w.heap.size+1) (by omega)).trans HY.o⟩
  .go_wp2;go_ret2;exact⟨_,rfl, .inr rfl,HB.o⟩
def uG(c:az)(s:aT):Prop:=s=⟨#[55]⟩\/∃f∈c.fields,f.type=⟨1,0⟩/\s=f.name
def qc(c:az)(s:aT):Prop:=s=⟨#[34,97,32,98,34]⟩\/∃f∈c.fields,f.type=⟨2,0⟩/\s=f.name
def pA(num txt:aT):List aT:=[⟨#[]⟩,⟨#[51]⟩,num,num++⟨#[32,42,32,50,32,45,32,49]⟩,⟨#[108,101,110,40]⟩++txt++⟨#[41]⟩,
 ⟨#[105,102,40]⟩++num++⟨#[32,62,32,50,44,32]⟩++num++⟨#[44,32,48,32,45,32]⟩++num++⟨#[41]⟩,⟨#[102,105,110,100,40,34,98,34,44,32]⟩++txt++⟨#[41]⟩,num++⟨#[32,47,32]⟩++num]
def mK(num txt:aT):List aT:=[⟨#[]⟩,⟨#[34,120,34]⟩,txt,txt++⟨#[32,38,32,34,45,34,32,38,32]⟩++txt,⟨#[116,101,120,116,40]⟩++num++⟨#[41]⟩,
 ⟨#[108,101,102,116,40]⟩++txt++⟨#[44,32,50,41]⟩,⟨#[102,114,111,109,40]⟩++txt++⟨#[44,32,51,41]⟩,⟨#[105,102,40]⟩++num++⟨#[32,61,32,49,44,32]⟩++txt++⟨#[44,32,34,110,111,34,41]⟩]
def hZ(c:az)(t:aR)(s:aT):Prop:=
 (t=⟨1,0⟩/\∃num txt,uG c num/\qc c txt/\s∈pA num txt)\/(t=⟨2,0⟩/\∃num txt,uG c num/\qc c txt/\s∈mK num txt)\/(t.kind≠1/\t.kind≠2/\(s=⟨#[]⟩\/∃f∈c.fields,f.type=t/\s=f.name))
def Kk {l:List aT}(h:k<l.length):(l.map Value.string).toArray[k]? =some (xS (l.getD k jN))/\l.getD k jN∈l:=by
 have e:l[k]? =some l[k]:=Qac h;constructor
 .simp[List.getD,e]
 .simp[List.getD,e]
def VK(c:az)(w:aj)(v:an)(wx:aj):Prop:=∃s,v=xS s/\uG c s/\wx=w
def SM(c:az)(w:aj)(v:an)(wx:aj):Prop:=∃s,v=xS s/\qc c s/\wx=w
def Hm(M:aS)(w:aj)(c:az)(fv:an)(n:Int)(t:aR)(hs:ab M w fv c.fields)(WQ:c.fields.length<=8)(hn:I6 n)(ht:aF t=true)(lH:∀f∈c.fields,f.name.size<=20):
 xG 133 #[xI n, .agg #[xI t.kind,xI t.of], .agg #[xS c.name,fv]] w λv _=>∃s,v=xS s/\hZ c t s:=by
 obtain⟨tk,Aq⟩:=t;have HS:=af hs;obtain⟨a,bQ,rfl,cK,hm,hc⟩:=hs.open_;clear hs hc;have HI:=af hn;clear hn;have HT:=af ht;clear ht;have qal:=af lH;clear lH;obtain⟨fs,bR⟩:=cM (c.fields);have oQ:=af (show I6 (n.tdiv 2)by
  obtain⟨h1,h2⟩:=HI.o;rcases Int.lt_or_le n 0 with h|h
  .have e:n.tdiv 2= -((-n)/2):=by
    have h3:(-n).tdiv 2=(-n)/2:=Int.tdiv_eq_ediv_of_nonneg (by omega);rw[Int.neg_tdiv]at h3;omega
   rw[e];exact⟨by omega,by omega⟩
  .rw[Int.tdiv_eq_ediv_of_nonneg h];exact⟨by omega,by omega⟩);obtain⟨vj,Cd⟩:=HI.o;go_enter func133,ntmps133;go_wp2_with fail;have kD:aq w ((w.alloc (xK #[xI tk,xI Aq] 136)).alloc (xK #[xS c.name,xL a c.fields.length bQ] 101)):=bO.alloc (by simp) _;refine(pr M _ c _ n ⟨1,0⟩ (HS.o.below kD) WQ HI.o).mono ?_;rintro e w1⟨v1,rfl,RW,aC⟩;have Dn:=af ((aC.block w.heap.size (by simp;omega)).trans (jM (w:=w) rfl).1);have fI:=af ((aC.block (w.heap.size+1) (by simp)).trans (jM (w:=w) rfl).2.1);have aO:Hd (aq w w1):=kD.trans (aC.mono (by simp;omega));have s1:=aC.size;simp at s1;clear kD aC;have DJ:=af (show∃s1 b1,v1= .tuple #[xS s1,xB b1]/\(b1=true->uG c s1)by
  rcases RW with⟨f,hf,ht,rfl⟩|rfl
  .exact⟨_,_,rfl,λ_=> .inr ⟨f,hf,ht,rfl⟩⟩
  .exact⟨_,_,rfl,λh=>by cases h⟩);clear RW;obtain⟨s1',b1,rfl,QV⟩:=DJ.o;clear DJ;obtain⟨p0,p1⟩:=ah Dn.o;obtain⟨p2,p3⟩:=ah fI.o;have qdn:=af QV;clear QV;go_wp2_with fail;refine(pr M _ c _ (n.tdiv 2) ⟨2,0⟩ (HS.o.below aO.o) WQ oQ.o).mono ?_;rintro e w2⟨v2,rfl,Lc,aY⟩;have Dn:=af ((aY.block w.heap.size (by omega)).trans Dn.o);have aL:Hd (aq w w2):=aO.o.trans (aY.mono (by omega));have fI:=af ((aY.block (w.heap.size+1) (by omega)).trans fI.o);have s2:=aY.size;clear aY;have YG:=af (show∃s2 b2,v2= .tuple #[xS s2,xB b2]/\(b2=true->qc c s2)by
  rcases Lc with⟨f,hf,ht,rfl⟩|rfl
  .exact⟨_,_,rfl,λ_=> .inr ⟨f,hf,ht,rfl⟩⟩
  .exact⟨_,_,rfl,λh=>by cases h⟩);clear Lc;obtain⟨s2',b2,rfl,U4⟩:=YG.o;clear YG p0 p1 p2 p3;obtain⟨p0,p1⟩:=ah Dn.o;obtain⟨p2,p3⟩:=ah fI.o;have qam:=af U4;clear U4;go_upto_if 29 with fail;go_cut [7](λs7 wx=>VK c w2 s7 wx);case first=>
  cases b1
  .go_wp2;go_meet;exact⟨_,rfl, .inl rfl,rfl⟩
  .go_wp2;go_meet;exact⟨_,rfl,qdn.o trivial,rfl⟩
 case rest=>
  obtain⟨num,rfl,QV,rfl⟩:=hcut;have QW:=af QV;clear QV;go_upto_if 31 with fail;go_cut [9](λs9 wx=>SM c wc s9 wx);case first=>
   cases b2
   .go_wp2;go_meet;exact⟨_,rfl, .inl rfl,rfl⟩
   .go_wp2;go_meet;exact⟨_,rfl,qam.o trivial,rfl⟩
  case rest=>
   obtain⟨txt,rfl,htx,rfl⟩:=hcut;have WT:=af htx;clear htx;have hsn:num.size<=20:=by
    rcases QW.o with rfl|⟨f,hf,_,rfl⟩
    .decide
    .exact qal.o f hf
   have cm:txt.size<=20:=by
    rcases WT.o with rfl|⟨f,hf,_,rfl⟩
    .decide
    .exact qal.o f hf
   have YC:=cq n 8 (by omega);by_cases h1:tk=1
   .subst h1;have HT0:=af (show Aq=0 by have:=HT.o;simp[aF]at this;exact this);go_wp2_with fail;refine dJ (iu _ _ _ HI.o (by omega) (by omega)) ?_;obtain⟨W,hW⟩:=cM (wc.alloc (.cells ((pA num txt).map Value.string).toArray 9));rw[show wc.alloc (xK #[xS ⟨#[]⟩,xS ⟨#[51]⟩,xS num,xS (num++⟨#[32,42,32,50,32,45,32,49]⟩),xS (⟨#[108,101,110,40]⟩++txt++⟨#[41]⟩),xS (⟨#[105,102,40]⟩++num++⟨#[32,62,32,50,44,32]⟩++num++⟨#[44,32,48,32,45,32]⟩++num++⟨#[41]⟩),xS (⟨#[102,105,110,100,40,34,98,34,44,32]⟩++txt++⟨#[41]⟩),xS (num++⟨#[32,47,32]⟩++num)] 9)=W from hW.symm];obtain⟨c0,c1⟩:=Kk (l:=pA num txt) (k:=aH n 8) YC;have q:pd W wc (aH n 8) (xS ((pA num txt).getD (aH n 8) jN)):=cell_of_heap (sB hW).1 c0;have HWB:=af (sB hW).2.2;have C1:=af c1;clear c1;clear hW c0;go_wp2;go_ret;exact⟨_,rfl,⟨_,rfl, .inl ⟨by rw[HT0.o],num,txt,QW.o,WT.o,C1.o⟩⟩,aL.o.trans (HWB.o.mono (by omega))⟩
   .by_cases h2:tk=2
    .subst h2;have HT0:=af (show Aq=0 by have:=HT.o;simp[aF]at this;exact this);go_wp2_with fail;refine dJ (iu _ _ _ HI.o (by omega) (by omega)) ?_;obtain⟨W,hW⟩:=cM (wc.alloc (.cells ((mK num txt).map Value.string).toArray 9));rw[show wc.alloc (xK #[xS ⟨#[]⟩,xS ⟨#[34,120,34]⟩,xS txt,xS (txt++⟨#[32,38,32,34,45,34,32,38,32]⟩++txt),xS (⟨#[116,101,120,116,40]⟩++num++⟨#[41]⟩),xS (⟨#[108,101,102,116,40]⟩++txt++⟨#[44,32,50,41]⟩),xS (⟨#[102,114,111,109,40]⟩++txt++⟨#[44,32,51,41]⟩),xS (⟨#[105,102,40]⟩++num++⟨#[32,61,32,49,44,32]⟩++txt++⟨#[44,32,34,110,111,34,41]⟩)] 9)=W from hW.symm];obtain⟨c0,c1⟩:=Kk (l:=mK num txt) (k:=aH n 8) YC;have q:pd W wc (aH n 8) (xS ((mK num txt).getD (aH n 8) jN)):=cell_of_heap (sB hW).1 c0;have HWB:=af (sB hW).2.2;have C1:=af c1;clear c1;clear hW c0;go_wp2;go_ret;exact⟨_,rfl,⟨_,rfl, .inr (.inl ⟨by rw[HT0.o],num,txt,QW.o,WT.o,C1.o⟩)⟩,aL.o.trans (HWB.o.mono (by omega))⟩
    .have e1:(tk==1)=false:=by simpa using h1
     have e2:(tk==2)=false:=by simpa using h2
     have H1:=af h1;clear h1;have H2:=af h2;clear h2;go_wp2_with fail;refine(pr M _ c _ n ⟨tk,Aq⟩ (HS.o.below aL.o) WQ HI.o).mono ?_;rintro e w3⟨v3,rfl,hg3,bG⟩;have bI:Hd (aq w w3):=aL.o.trans (bG.mono (by omega));clear bG;rcases hg3 with⟨f,hf,R7,rfl⟩|rfl
     .have HFM:=af hf;clear hf;have U3:=af R7;clear R7;by_cases h3:0<aH n 3
      .have h3':(0:Int)<(aH n 3:Int):=by omega
       go_wp2_with fail;refine dJ (iu _ _ _ HI.o (by omega) (by omega)) ?_;go_wp2;go_ret;exact⟨_,rfl,⟨_,rfl, .inr (.inr ⟨H1.o,H2.o, .inr ⟨f,HFM.o,U3.o,rfl⟩⟩)⟩,bI.o⟩
      .have h3':¬(0:Int)<(aH n 3:Int):=by omega
       go_wp2_with fail;refine dJ (iu _ _ _ HI.o (by omega) (by omega)) ?_;go_wp2;go_ret;exact⟨_,rfl,⟨_,rfl, .inr (.inr ⟨H1.o,H2.o, .inl rfl⟩)⟩,bI.o⟩
     .go_wp2;go_ret;exact⟨_,rfl,⟨_,rfl, .inr (.inr ⟨H1.o,H2.o, .inl rfl⟩)⟩,bI.o⟩
end Go.Proofs.YtccpcfcochffcaaGreatDoor
