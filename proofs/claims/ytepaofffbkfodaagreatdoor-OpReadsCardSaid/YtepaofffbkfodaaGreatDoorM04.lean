/- A part of OpReads's proof; no condition. -/
import Derived.Test.YtepaofffbkfodaaGreatDoorM01
import Derived.Deep.RegionLaw
set_option linter.all false
set_option maxHeartbeats 8000000
set_option maxRecDepth 100000
namespace Go.Proofs.YtepaofffbkfodaaGreatDoor
open Tryz
open Go.RowKit
variable{v:an}{W:aj}{k:Nat}
def GC(M:aN)(w:aj)(of many:Int)(i:Nat)(wr:aj):Prop:=
 ∃(a:fA)(c:Nat)(xs:List aA),xs.length=i/\(∀x∈xs,lh of many x)/\aK (λi=>M i\/(w.heap.size<=i/\i<w.heap.size+4)) (w.heap.size+4) 44 wr (xL a i c) xs/\aq w wr/\w.heap.size+4<=wr.heap.size/\
  di wr w (xK #[xI 5,xI of] 49)/\bR wr (w.heap.size+1) (xK iH 44)/\
  bR wr (w.heap.size+1+1+1) (xK #[xI 5,xI 0,xS ⟨#[]⟩,xL a i c] 44)
def oL {a:Addr}(h:W.cell? a=some v):a.block<W.heap.size:=by
 unfold World.cell? at h;rcases Nat.lt_or_ge a.block W.heap.size with bu|KE
 .exact bu
 .rw[Array.getElem?_eq_none KE]at h;cases h
def cu(W:aj)(o:Obj)(p:Addr)(h:W.cell? p=some v):(W.alloc o).cell? p=some v:=
 (World.cell?_of_block (w:=W) (Qcb W o p.block (oL h))).trans h
def Lk(x:Int):I6 (wrap64 x):=by
 have h:=wrap64_wf x;unfold I6;simpa [Lit.wf,IntKind.min,IntKind.max,IntKind.signed,IntKind.bits]using h
def Zd {n:Int}(h:I6 n): -2305843009213693952<=n.tdiv 4/\n.tdiv 4<=2305843009213693952:=by
 obtain⟨h1,h2⟩:=h;rcases Int.lt_or_le n 0 with h|h
 .have e:n.tdiv 4= -((-n)/4):=by
   have h3:(-n).tdiv 4=(-n)/4:=Int.tdiv_eq_ediv_of_nonneg (by omega);rw[Int.neg_tdiv]at h3;omega
  rw[e];omega
 .rw[Int.tdiv_eq_ediv_of_nonneg h];omega
def GD(M:aN)(w:aj)(hM:Bd M w)(of n many:Int)(oF:1<=of)(ou:of<=4)(hn:I6 n)(rF:many<=1000):
 xG 122 #[.agg #[xI 5,xI of],xI n,xI many] w λv w'=>∃x,dx ⟨5,of⟩ many x/\ct M w' v x:=by
 obtain⟨i0,ed,ej,dO,er⟩:=info_parts gY;obtain⟨Wd,Yc⟩:=Zd hn;obtain⟨QJ,hnu⟩:=hn;have HI:Hd (I6 n):=⟨QJ,hnu⟩;have hp4:=cM n 4 (by omega);have Cy:Hd (∀i,(M i\/(w.heap.size<=i/\i<w.heap.size+4))->i<w.heap.size+4):=λi h=>by rcases h with h|h;have:=hM i h;omega;omega
 go_enter func122,ntmps122;go_wp2_with fail;obtain⟨p,hp⟩:=bS (aJ n 4);rw[<-hp]at hp4;have HP:=af hp;go_loopg [9]p(λg iv wr=>∃i:Nat,i<=p/\g=p-i/\iv=xI i/\Hd (GC M w of many i wr));case atStart=>
  refine⟨0,Qbf _,rfl,rfl,?_⟩;obtain⟨b0,b1,b2,b3,hz,hb⟩:=T7 (w:=w) (o0:=xK #[xI 5,xI of] 49) (o1:=xK iH 44) (o2:=xK #[xS ⟨#[]⟩,xS ⟨#[97]⟩,xS ⟨#[98,99]⟩,xS ⟨#[195,169,116,195,169]⟩,xS ⟨#[97,32,98]⟩,xS ⟨#[122,122,32,116,111,112]⟩,xS ⟨#[48]⟩,xS ⟨#[45,55]⟩] 9) (o3:=xK #[xI 5,xI 0,xS ⟨#[]⟩,xL none 0 0] 44) rfl;exact(show GC M w of many 0 _ from⟨none,0,[],rfl,λx h=>(by cases h),aK.nil _ _ _ _,hb,by rw[hz];omega,b0,b1,b3⟩)
 case round=>
  obtain⟨i,hi,rfl,rfl,HL⟩:=hrel;obtain⟨a',c',xs,KI,hxo,hacc,tm,hsz,lZ,aF,bP⟩:=HL.o;obtain⟨t0,t1⟩:=ah lZ;obtain⟨r0,r1,r2,r3⟩:=ae aF;obtain⟨v0,v1,v2,v3⟩:=ae bP;obtain⟨f0,f1,f2,f3⟩:=iK aF;have Ux:=af KI;have HXO:=af hxo;have HA:=af hacc;have Cz:=af tm;have jN:=af lZ;have aY:=af aF;have bO:=af bP;by_cases bu:i<p
  .go_upto_region 16 with(go_at_call 117;refine cT (eR _ _ _ HI.o (by omega) (by omega)) ?_;rw[show aJ n (4:Int).toNat=p from HP.o.symm]);have z1:IntKind.i64.wrap (n.tdiv 4)=n.tdiv 4:=Qbe _ (by omega);have z2:IntKind.i64.wrap (n.tdiv 4+(i:Int))=n.tdiv 4+(i:Int):=Qbe _ (by omega);have me:Hd (I6 (n.tdiv 4+(i:Int))):=⟨by omega,by omega⟩;go_region_law(first
    |(go_simp;go_at_call 122;refine(Ah (bg (xL a' i c') (λi=>M i\/(w.heap.size<=i/\i<w.heap.size+4))) _ of 0 _ many oF ou me.o rF).mono ?_;rintro e w1⟨_,rfl,⟨⟨yk,yn,ys,yl⟩,hy,cs,rfl,bV⟩,aF⟩;obtain⟨av,rfl,bI,ke⟩:=eZ.iff.1 bV;obtain⟨ya,yc,rfl,_⟩:=bI.open_;have nI:Hd (aq wr w1):=((Qbg _ wr).drew.trans aF);have eX:=af bV;have HY:=af hy;have s1:=aF.size;simp at s1;have k3:bt w1 (w.heap.size+1+1+1) 3 (xL a' i c'):=(nI.o.cell (p:=⟨w.heap.size+1+1+1,3,none⟩) (by simp;omega)).trans v3;have k1:ox w1 w 1 (xI of):=(nI.o.cell (p:=⟨w.heap.size,1,none⟩) (by simp;omega)).trans t1;have n3:∀o,(w1.alloc o).cell? ⟨w.heap.size+1+1+1,3,none⟩=some (xL a' i c'):=λo=>cu _ _ _ k3;have n0:∀o,(w1.alloc o).cell? ⟨w.heap.size,1,none⟩=some (xI of):=λo=>cu _ _ _ k1;clear aF bV bI ke hy)
    |(refine dJ (α:=aA) rfl _ _ _ rfl (λi=>M i\/(w.heap.size<=i/\i<w.heap.size+4)) (w.heap.size+4) 44 i0 _ 56 underlying42 ed ej dO er rfl (by decide) (.slice a' i c') xs rfl ((HA.o.below nI.o).alloc _) (λ_=>True) _ _ (.mk yk yn ys yl) rfl (cD _ _ _ _ rfl trivial) (au.ev eX.o (Ev.ao bM)) (by rw[Ux.o];unfold maxLen;omega) (by rw[Ux.o];omega) (by simp;omega) ?_;rw[Ux.o];intro a2 c2 w2 bj dz bC;have dh:=af bj;have l3:bt w2 (w.heap.size+1+1+1) 3 (xL a' i c'):=(bC.cell (p:=⟨w.heap.size+1+1+1,3,none⟩) (by simp)).trans (cu _ _ _ k3);have l1:ox w2 w 1 (xI of):=(bC.cell (p:=⟨w.heap.size,1,none⟩) (by simp)).trans (cu _ _ _ k1);have l4:w2.frozen? ⟨w.heap.size+1+1+1,3,none⟩=false:=(bC.frozen (p:=⟨w.heap.size+1+1+1,3,none⟩) (by simp)).trans ((bM.frozen (p:=⟨w.heap.size+1+1+1,3,none⟩) (by simp;omega)).trans ((nI.o.frozen (p:=⟨w.heap.size+1+1+1,3,none⟩) (by simp;omega)).trans (ag bO.o 3)));have aQ:=af bC;clear bj dz bC));all_goals
    go_wp2;go_roundg(p-(i+1));case measure=>omega
    case rel=>
     refine⟨i+1,by omega,rfl,by go_num,?_⟩;have hblk:∀b,b<w.heap.size+4->w2.heap[b]? =wr.heap[b]? :=λb hb=>(aQ.o.block b hb).trans ((Qcb w1 _ b (by omega)).trans (nI.o.block b (by omega)));have j6:=aQ.o.size;simp at j6;refine(show GC M w of many (i+1) _ from⟨a2,c2,xs++[.mk yk yn ys yl],by simp[Ux.o],?_,dh.o.vz (.inr ⟨by simp;omega,by simp⟩) (by simp) _,?_,by simp;omega,?_,?_,?_⟩)
     .intro x hx;rcases Qch.1 hx with h|h
      .exact HXO.o x h
      .simp at h;subst h;exact HY.o
     .exact(((Cz.o.trans (nI.o.mono (by omega))).alloc (by omega) _).trans (aQ.o.mono (by omega))).setCell (by first|(simp;done)|(simp;omega)) _
     .exact(Qag _ _ _ _ (by first|(simp;done)|(simp;omega))).trans ((hblk _ (by omega)).trans jN.o)
     .exact(Qag _ _ _ _ (by first|(simp;done)|(simp;omega))).trans ((hblk _ (by omega)).trans aY.o)
     .exact Qca w2 _ 3 _ _ _ ((hblk _ (by omega)).trans bO.o)
  .go_wp2_with(go_at_call 117;refine cT (eR _ _ _ HI.o (by omega) (by omega)) ?_;rw[show aJ n (4:Int).toNat=p from HP.o.symm]);refine Qae (v:= .agg #[xI 5,xI 0,xS ⟨#[]⟩,xL a' i c']) (by simp[results,results122,go_sem,r0,r1,r2,r3]) rfl ⟨_,rfl,⟨.mk 5 0 oe xs, .inl ⟨rfl,xs,rfl,by rw[Ux.o];omega,HXO.o⟩,_,rfl,eZ.iff.2 ⟨_,rfl,?_,jH⟩⟩,?_⟩
   .have h:=(HA.o.slice Cy.o).ev (M':=M) (((((Ev.dD wr (λi h=> .inl h)).setCell (p:=⟨w.heap.size+1,0,none⟩) (.inl (.inr ⟨by simp,by simp⟩)) (xI 5)).setCell (p:=⟨w.heap.size+1,1,none⟩) (.inl (.inr ⟨by simp,by simp⟩)) (xI 0)).setCell (p:=⟨w.heap.size+1,2,none⟩) (.inl (.inr ⟨by simp,by simp⟩)) (xS ⟨#[]⟩)).setCell (p:=⟨w.heap.size+1,3,none⟩) (.inl (.inr ⟨by simp,by simp⟩)) (xL a' i c'));exact h
   .exact(((Cz.o.setCell (by simp) _).setCell (by simp) _).setCell (by simp) _).setCell (by simp) _
def Ai(M:aN)(w:aj)(hM:Bd M w)(t:aT)(n many:Int)(ht:aG t=true)(hn:I6 n)(rF:many<=1000):
 xG 122 #[.agg #[xI t.kind,xI t.of],xI n,xI many] w λv w'=>∃x,dx t many x/\ct M w' v x:=by
 obtain⟨k,o⟩:=t;unfold aG at ht;by_cases h5:k=5
 .subst h5;simp at ht;exact GD M w hM o n many ht.1 ht.2 hn rF
 .simp[h5]at ht;exact(Ah M w k o n many ht.1 ht.2.1 hn rF).mono λe w'⟨v,h1,⟨x,h2,h3⟩,h4⟩=>⟨v,h1,⟨x, .inr ⟨h5,h2⟩,h3⟩,h4⟩
def bh(fs:List az)(many:Int)(vs:List aA):Prop:=vs.length=fs.length/\∀(i:Nat)(f:az)(v:aA),fs[i]? =some f->vs[i]? =some v->dx f.type many v
def GF(M:aN)(w:aj)(hM:Bd M w)(c:ax)(fv lv:an)(ns:List Int)(many:Int)(hs:ab M w fv c.fields)(hl:ab M w lv ns)(hns:∀y∈ns,I6 y)(Wz:c.fields.length<=8)(RI:∀f∈c.fields,aG f.type=true)(rF:many<=1000):
 xG 52 #[.agg #[xS c.name,fv],lv,xI many] w λv w'=>∃vs,bh c.fields many vs/\ab M w' v vs:=by
 obtain⟨i0,ed,ej,dO,er⟩:=info_parts gY;obtain⟨a,bQ,rfl,cV,hm,hc⟩:=hs.open_;obtain⟨al,qgx,rfl,qgf,Ti,l8⟩:=hl.open_;clear hs hl;have HC:=af hc;clear hc;have mP:=af l8;clear l8;have F3:=af hns;clear hns;have HFT:=af RI;clear RI;generalize hn:c.fields.length=n at*;generalize QJ:ns.length=nl at*;have HN:=af hn;clear hn;have HNL:=af QJ;clear QJ;have Cy:Hd (∀i,M i->i<w.heap.size+1):=λi h=>Nat.lt_succ_of_lt (hM i h);go_enter func52,ntmps52;go_wp2;go_loopg [7,8,9]n(λg ov iv _ wr=>∃(k:Nat)(a1:fA)(c1:Nat)(vs:List aA),k<=n/\g=n-k/\iv=xI k/\ov=xL a1 k c1/\Hd (vs.length=k/\∀(i:Nat)(f:az)(v:aA),c.fields[i]? =some f->vs[i]? =some v->dx f.type many v)/\Hd (aK M (w.heap.size+1) 44 wr (xL a1 k c1) vs)/\Hd (aq w wr)/\Hd (di wr w (xK #[xS c.name,xL a n bQ] 47)));case atStart=>exact⟨0,none,0,[],Qbf _,rfl,rfl,rfl,(show [].length=0/\_ from⟨rfl,λi f v _ h=>by simp at h⟩),(aK.nil _ _ _ _),bM,Qbh _ _⟩
 case round=>
  obtain⟨k,a1,c1,vs,hk,rfl,rfl,rfl,HV,HA,HB,HX⟩:=hrel;have hsz:w.heap.size<wr.heap.size:=(Qaa.1 HX.o).1;obtain⟨g0,g1⟩:=ah HX.o;by_cases bu:k<n
  .obtain⟨b,off,rfl,wh,cR,aL⟩:=HC.o (by omega);obtain⟨f,hf⟩:=eB c.fields k (by rw[HN.o];exact bu);obtain⟨cs,⟨rfl,_⟩,bJ⟩:=aL k f hf;have q1:bt wr b (off+k*4+1) (xI f.type.kind):=(HB.o.cell (p:=⟨b,off+k*4+1,none⟩) cR).trans (bJ 1 _ rfl);have q2:bt wr b (off+k*4+1+1) (xI f.type.of):=(HB.o.cell (p:=⟨b,off+k*4+2,none⟩) cR).trans (bJ 2 _ rfl);have Tn:Hd (aG f.type=true):=HFT.o f (Qaf hf);clear aL bJ;have HF:=af hf;clear hf;have BDM:Hd (Bd (bg (xL a1 k c1) M) wr):=λi h=>by rcases h with h|h;have:=hM i h;omega;exact(HA.o.cJ i h).2
   by_cases h0:0<nl
   .obtain⟨bl,qak,rfl,hMl,Fq,QK⟩:=mP.o h0;have WB:k%nl<nl:=Nat.mod_lt _ h0;obtain⟨y,hy⟩:=eB ns (k%nl) (by rw[HNL.o];exact WB);obtain⟨cs,rfl,bJ⟩:=QK (k%nl) y hy;have q3:bt wr bl (qak+k%nl) (xI y):=(HB.o.cell (p:=⟨bl,qak+k%nl,none⟩) Fq).trans (by have:=bJ 0 _ rfl;rw[show au.size Int=1 from rfl]at this;simpa using this);obtain⟨RJ,QL⟩:=F3.o y (Qaf hy);clear QK bJ hy;go_wp2_with fail;have HI0:=Lk (y+(k:Int));refine(Ai (bg (xL a1 k c1) M) wr BDM.o f.type _ many Tn.o HI0 rF).mono ?_;rintro e w1⟨_,rfl,⟨⟨yk,yn,ys,yl⟩,hy,cs,rfl,bV⟩,aF⟩;obtain⟨av,rfl,bI,ke⟩:=eZ.iff.1 bV;obtain⟨ya,yc,rfl,_⟩:=bI.open_;have s1:=aF.size;have fL:Hd (di w1 w (xK #[xS c.name,xL (some ⟨b,off,none⟩) n bQ] 47)):=(aF.block w.heap.size hsz).trans HX.o;have zK:=af (HA.o.below aF);have KJ:Hd (aq w w1):=HB.o.trans (aF.mono (by omega));have HY:=af hy;clear hy;have eX:=af bV;clear bV;clear aF bI ke;have CP:=af HV.o.1;go_wp2_with(at_builtin;refine aW (α:=aA) rfl _ _ _ rfl M (w.heap.size+1) 44 i0 _ 56 underlying42 ed ej dO er rfl (by decide) (.slice a1 k c1) vs rfl (zK.o.alloc _) (λ_=>True) _ _ (.mk yk yn ys yl) rfl (cD _ _ _ _ rfl trivial) (au.ev eX.o (Ev.ao bM)) (by rw[CP.o];unfold maxLen;omega) (by rw[CP.o];omega) (by simp;omega) ?_;rw[CP.o];intro a2 c2 w2 bj dz bC;have dh:=af bj;have aQ:=af bC;clear bj dz bC);go_roundg(n-(k+1));case measure=>omega
    case rel=>
     refine⟨k+1,a2,c2,vs++[.mk yk yn ys yl],by omega,rfl,by go_num,rfl,?_,dh,?_,?_⟩
     .refine(show _/\_ from⟨by simp[CP.o],λi f' v hf hv=> ?_⟩);by_cases hi:i<vs.length
      .rw[Qbc hi]at hv;exact HV.o.2 i f' v hf hv
      .rw[Qbd (by omega)]at hv;have h0:i-vs.length=0:=by
        cases hq:i-vs.length with
        |zero=>rfl
        |succ q=>rw[hq]at hv;simp at hv
       rw[h0]at hv;simp at hv;subst hv;obtain rfl:i=k:=by have:=CP.o;omega
       rw[HF.o]at hf;cases hf;exact HY.o
     .exact(show aq w _ from(KJ.o.alloc (by omega) _).trans (aQ.o.mono (by omega)))
     .exact(aQ.o.block w.heap.size (by omega)).trans ((Qcb w1 _ w.heap.size (by omega)).trans fL.o)
   .go_wp2_with fail;have HI0:I6 (k:Int):=⟨by omega,by omega⟩;refine(Ai (bg (xL a1 k c1) M) wr BDM.o f.type _ many Tn.o HI0 rF).mono ?_;rintro e w1⟨_,rfl,⟨⟨yk,yn,ys,yl⟩,hy,cs,rfl,bV⟩,aF⟩;obtain⟨av,rfl,bI,ke⟩:=eZ.iff.1 bV;obtain⟨ya,yc,rfl,_⟩:=bI.open_;have s1:=aF.size;have fL:Hd (di w1 w (xK #[xS c.name,xL (some ⟨b,off,none⟩) n bQ] 47)):=(aF.block w.heap.size hsz).trans HX.o;have zK:=af (HA.o.below aF);have KJ:Hd (aq w w1):=HB.o.trans (aF.mono (by omega));have HY:=af hy;clear hy;have eX:=af bV;clear bV;clear aF bI ke;have CP:=af HV.o.1;go_wp2_with(at_builtin;refine aW (α:=aA) rfl _ _ _ rfl M (w.heap.size+1) 44 i0 _ 56 underlying42 ed ej dO er rfl (by decide) (.slice a1 k c1) vs rfl (zK.o.alloc _) (λ_=>True) _ _ (.mk yk yn ys yl) rfl (cD _ _ _ _ rfl trivial) (au.ev eX.o (Ev.ao bM)) (by rw[CP.o];unfold maxLen;omega) (by rw[CP.o];omega) (by simp;omega) ?_;rw[CP.o];intro a2 c2 w2 bj dz bC;have dh:=af bj;have aQ:=af bC;clear bj dz bC);go_roundg(n-(k+1));case measure=>omega
    case rel=>
     refine⟨k+1,a2,c2,vs++[.mk yk yn ys yl],by omega,rfl,by go_num,rfl,?_,dh,?_,?_⟩
     .refine(show _/\_ from⟨by simp[CP.o],λi f' v hf hv=> ?_⟩);by_cases hi:i<vs.length
      .rw[Qbc hi]at hv;exact HV.o.2 i f' v hf hv
      .rw[Qbd (by omega)]at hv;have h0:i-vs.length=0:=by
        cases hq:i-vs.length with
        |zero=>rfl
        |succ q=>rw[hq]at hv;simp at hv
       rw[h0]at hv;simp at hv;subst hv;obtain rfl:i=k:=by have:=CP.o;omega
       rw[HF.o]at hf;cases hf;exact HY.o
     .exact(show aq w _ from(KJ.o.alloc (by omega) _).trans (aQ.o.mono (by omega)))
     .exact(aQ.o.block w.heap.size (by omega)).trans ((Qcb w1 _ w.heap.size (by omega)).trans fL.o)
  .go_wp2;go_ret;obtain rfl:k=n:=by omega
   exact⟨_,rfl,⟨vs,⟨HV.o.1.trans HN.o.symm,HV.o.2⟩,HA.o.slice Cy.o⟩,HB.o⟩
def Ol(c:ax)(t:aT)(v:an):Prop:=(∃f∈c.fields,f.type=t/\v= .tuple #[xS f.name,xB true])\/v= .tuple #[xS oe,xB false]
def oM(M:aN)(w:aj)(c:ax)(fv:an)(from_:Int)(t:aT)(hs:ab M w fv c.fields)(Wz:c.fields.length<=8)(hn:I6 from_):
 xG 240 #[.agg #[xS c.name,fv],xI from_, .agg #[xI t.kind,xI t.of]] w λv _=>Ol c t v:=by
 obtain⟨tk,F0⟩:=t;obtain⟨a,bQ,rfl,cV,hm,hc⟩:=hs.open_;clear hs;have HC:=af hc;clear hc;have HI:=af hn;clear hn;generalize hn:c.fields.length=n at*;have HN:=af hn;clear hn;have hp:=cM from_ 100 (by omega);go_enter func240,ntmps240;go_wp2;go_loopg [6,7,8,9]n(λg r0 r1 iv _ wr=>∃k:Nat,k<=n/\g=n-k/\iv=xI k/\r0=xS ⟨#[]⟩/\r1=xB false/\Hd (aq w wr)/\Hd (di wr w (xK #[xS c.name,xL a n bQ] 47))/\Hd (bR wr (w.heap.size+1) (xK #[xI tk,xI F0] 49)));case atStart=>
  obtain⟨b0,b1,hz,hb⟩:=jR (w:=w) (o0:=xK #[xS c.name,xL a n bQ] 47) (o1:=xK #[xI tk,xI F0] 49) rfl;exact⟨0,Qbf _,rfl,rfl,rfl,rfl,hb,b0,b1⟩
 case round=>
  obtain⟨k,hk,rfl,rfl,rfl,rfl,HB,HX,HY⟩:=hrel;have hsz:w.heap.size+1<wr.heap.size:=(Qaa.1 HY.o).1;obtain⟨g0,g1⟩:=ah HX.o;obtain⟨g2,g3⟩:=ah HY.o;by_cases bu:k<n
  .obtain⟨b,off,rfl,wh,cR,aL⟩:=HC.o (by omega);obtain⟨p,hpp⟩:=bS (aJ from_ 100);rw[<-hpp]at hp;obtain⟨idx,WC⟩:=bS ((p+k)%n);have ze:idx<n:=by rw[WC];exact Nat.mod_lt _ (by omega)
   have z2:Int.tmod ((p:Int)+(k:Int)) (n:Int)=(idx:Int):=by
    rw[Int.tmod_eq_emod_of_nonneg (by omega),WC];simp
   obtain⟨f,hf⟩:=eB c.fields idx (by rw[HN.o];exact ze);obtain⟨cs,⟨rfl,_⟩,bJ⟩:=aL idx f hf;have l8:∀(j:Nat)(u:an),[Value.string f.name,xI f.type.kind,xI f.type.of,xB f.indexed][j]? =some u->bt wr b (off+idx*4+j) u:=λj u hu=>(HB.o.cell (p:=⟨b,off+idx*4+j,none⟩) cR).trans (bJ j u hu);have q0:bt wr b (off+idx*4) (xS f.name):=l8 0 _ rfl;have q1:=l8 1 _ rfl;have q2:=l8 2 _ rfl;have q3:=l8 3 _ rfl;have qdh:Hd (f∈c.fields):=Qaf hf;have uG:=af hpp;clear hpp;clear aL bJ l8 hf WC;go_upto_region 4 with fail;go_cut [9](λs9 wx=>s9=xP wr.heap.size/\wx=(wr.alloc (xK #[xS f.name,xI f.type.kind,xI f.type.of,xB f.indexed] 60)).drew);case first=>
    have z1:IntKind.i64.wrap ((p:Int)+(k:Int))=(p:Int)+(k:Int):=Qbe _ (by omega);have z3:(0:Int)<=(idx:Int):=Qba _;have z4:(idx:Int)<(n:Int):=by omega
    have z5:((n:Int)==0)=false:=by simp;omega
    have z6:n≠0:=by omega
    have z8:IntKind.i64.wrap (idx:Int)=(idx:Int):=Qbe _ (by omega);go_region_held3(λw'=>w'.cell? ⟨w.heap.size,1,none⟩=some (xL (some ⟨b,off,none⟩) n bQ)/\w'.cell? ⟨b,off+idx*4,none⟩=some (xS f.name)/\w'.cell? ⟨b,off+idx*4+1,none⟩=some (xI f.type.kind)/\w'.cell? ⟨b,off+idx*4+2,none⟩=some (xI f.type.of)/\w'.cell? ⟨b,off+idx*4+3,none⟩=some (xB f.indexed))
     (first|go_keep)
     (first|(go_at_call 178;refine cT (iy _ _ _ HI.o (by omega) (by omega)) ?_;rw[show aJ from_ (100:Int).toNat=p from uG.o.symm]));all_goals(go_wp2_with fail;go_meet;exact⟨rfl,rfl⟩)
   case rest=>
    obtain⟨rfl,rfl⟩:=hcut;obtain⟨fn,⟨fk,fo⟩,fi⟩:=f;clear z2;by_cases he:fk=tk/\fo=F0
    .obtain⟨rfl,rfl⟩:=he;go_wp2;go_ret2;exact⟨_,rfl, .inl ⟨_,qdh.o,rfl,rfl⟩,(HB.o.alloc (by omega) _).drew⟩
    .by_cases h1:fk=tk
     .have h2:(fo==F0)=false:=by simp;exactλh=>he ⟨h1,h⟩
      subst h1;clear he;go_wp2;go_roundg(n-(k+1));case measure=>omega
      case rel=>exact⟨k+1,by omega,rfl,by go_num,rfl,rfl,((HB.o.alloc (by omega) _).drew),(Qcb wr _ w.heap.size (by omega)).trans HX.o,(Qcb wr _ (w.heap.size+1) (by omega)).trans HY.o⟩
     .have h2:(fk==tk)=false:=by simpa using h1
      clear he h1;go_wp2;go_roundg(n-(k+1));case measure=>omega
      case rel=>exact⟨k+1,by omega,rfl,by go_num,rfl,rfl,((HB.o.alloc (by omega) _).drew),(Qcb wr _ w.heap.size (by omega)).trans HX.o,(Qcb wr _ (w.heap.size+1) (by omega)).trans HY.o⟩
  .go_wp2;go_ret2;exact⟨_,rfl, .inr rfl,HB.o⟩
def tY(c:ax)(s:aM):Prop:=s=⟨#[55]⟩\/∃f∈c.fields,f.type=⟨1,0⟩/\s=f.name
def pQ(c:ax)(s:aM):Prop:=s=⟨#[34,97,32,98,34]⟩\/∃f∈c.fields,f.type=⟨2,0⟩/\s=f.name
def oN(num txt:aM):List aM:=[⟨#[]⟩,⟨#[51]⟩,num,num++⟨#[32,42,32,50,32,45,32,49]⟩,⟨#[108,101,110,40]⟩++txt++⟨#[41]⟩,
 ⟨#[105,102,40]⟩++num++⟨#[32,62,32,50,44,32]⟩++num++⟨#[44,32,48,32,45,32]⟩++num++⟨#[41]⟩,⟨#[102,105,110,100,40,34,98,34,44,32]⟩++txt++⟨#[41]⟩,num++⟨#[32,47,32]⟩++num]
def mn(num txt:aM):List aM:=[⟨#[]⟩,⟨#[34,120,34]⟩,txt,txt++⟨#[32,38,32,34,45,34,32,38,32]⟩++txt,⟨#[116,101,120,116,40]⟩++num++⟨#[41]⟩,
 ⟨#[108,101,102,116,40]⟩++txt++⟨#[44,32,50,41]⟩,⟨#[102,114,111,109,40]⟩++txt++⟨#[44,32,51,41]⟩,⟨#[105,102,40]⟩++num++⟨#[32,61,32,49,44,32]⟩++txt++⟨#[44,32,34,110,111,34,41]⟩]
def gZ(c:ax)(t:aT)(s:aM):Prop:=
 (t=⟨1,0⟩/\∃num txt,tY c num/\pQ c txt/\s∈oN num txt)\/(t=⟨2,0⟩/\∃num txt,tY c num/\pQ c txt/\s∈mn num txt)\/(t.kind≠1/\t.kind≠2/\(s=⟨#[]⟩\/∃f∈c.fields,f.type=t/\s=f.name))
def JN {l:List aM}(h:k<l.length):(l.map Value.string).toArray[k]? =some (xS (l.getD k oe))/\l.getD k oe∈l:=by
 have e:l[k]? =some l[k]:=Qac h;constructor
 .simp[List.getD,e]
 .simp[List.getD,e]
def Vc(c:ax)(w:aj)(v:an)(wx:aj):Prop:=∃s,v=xS s/\tY c s/\wx=w
def Sh(c:ax)(w:aj)(v:an)(wx:aj):Prop:=∃s,v=xS s/\pQ c s/\wx=w
def GG(M:aN)(w:aj)(c:ax)(fv:an)(n:Int)(t:aT)(hs:ab M w fv c.fields)(Wz:c.fields.length<=8)(hn:I6 n)(ht:aG t=true)(mW:∀f∈c.fields,f.name.size<=20):
 xG 179 #[xI n, .agg #[xI t.kind,xI t.of], .agg #[xS c.name,fv]] w λv _=>∃s,v=xS s/\gZ c t s:=by
 obtain⟨tk,F0⟩:=t;have HS:=af hs;obtain⟨a,bQ,rfl,cV,hm,hc⟩:=hs.open_;clear hs hc;have HI:=af hn;clear hn;have HT:=af ht;clear ht;have qal:=af mW;clear mW;obtain⟨fs,cq⟩:=bS (c.fields);have me:=af (show I6 (n.tdiv 2)by
  obtain⟨h1,h2⟩:=HI.o;rcases Int.lt_or_le n 0 with h|h
  .have e:n.tdiv 2= -((-n)/2):=by
    have h3:(-n).tdiv 2=(-n)/2:=Int.tdiv_eq_ediv_of_nonneg (by omega);rw[Int.neg_tdiv]at h3;omega
   rw[e];exact⟨by omega,by omega⟩
  .rw[Int.tdiv_eq_ediv_of_nonneg h];exact⟨by omega,by omega⟩);obtain⟨yN,KD⟩:=HI.o;go_enter func179,ntmps179;go_wp2_with fail;have lZ:aq w ((w.alloc (xK #[xI tk,xI F0] 49)).alloc (xK #[xS c.name,xL a c.fields.length bQ] 47)):=bM.alloc (by simp) _;refine(oM M _ c _ n ⟨1,0⟩ (HS.o.below lZ) Wz HI.o).mono ?_;rintro e w1⟨v1,rfl,ZZ,aF⟩;have uB:=af ((aF.block w.heap.size (by simp;omega)).trans (jR (w:=w) rfl).1);have fL:=af ((aF.block (w.heap.size+1) (by simp)).trans (jR (w:=w) rfl).2.1);have aY:Hd (aq w w1):=lZ.trans (aF.mono (by simp;omega));have s1:=aF.size;simp at s1;clear lZ aF;have RL:=af (show∃s1 b1,v1= .tuple #[xS s1,xB b1]/\(b1=true->tY c s1)by
  rcases ZZ with⟨f,hf,ht,rfl⟩|rfl
  .exact⟨_,_,rfl,λ_=> .inr ⟨f,hf,ht,rfl⟩⟩
  .exact⟨_,_,rfl,λh=>by cases h⟩);clear ZZ;obtain⟨s1',b1,rfl,QM⟩:=RL.o;clear RL;obtain⟨p0,p1⟩:=ah uB.o;obtain⟨p2,p3⟩:=ah fL.o;have qdi:=af QM;clear QM;go_wp2_with fail;refine(oM M _ c _ (n.tdiv 2) ⟨2,0⟩ (HS.o.below aY.o) Wz me.o).mono ?_;rintro e w2⟨v2,rfl,RM,bC⟩;have uB:=af ((bC.block w.heap.size (by omega)).trans uB.o);have aQ:Hd (aq w w2):=aY.o.trans (bC.mono (by omega));have fL:=af ((bC.block (w.heap.size+1) (by omega)).trans fL.o);have s2:=bC.size;clear bC;have To:=af (show∃s2 b2,v2= .tuple #[xS s2,xB b2]/\(b2=true->pQ c s2)by
  rcases RM with⟨f,hf,ht,rfl⟩|rfl
  .exact⟨_,_,rfl,λ_=> .inr ⟨f,hf,ht,rfl⟩⟩
  .exact⟨_,_,rfl,λh=>by cases h⟩);clear RM;obtain⟨s2',b2,rfl,Uy⟩:=To.o;clear To p0 p1 p2 p3;obtain⟨p0,p1⟩:=ah uB.o;obtain⟨p2,p3⟩:=ah fL.o;have qam:=af Uy;clear Uy;go_upto_if 29 with fail;go_cut [7](λs7 wx=>Vc c w2 s7 wx);case first=>
  cases b1
  .go_wp2;go_meet;exact⟨_,rfl, .inl rfl,rfl⟩
  .go_wp2;go_meet;exact⟨_,rfl,qdi.o trivial,rfl⟩
 case rest=>
  obtain⟨num,rfl,QM,rfl⟩:=hcut;have QN:=af QM;clear QM;go_upto_if 31 with fail;go_cut [9](λs9 wx=>Sh c wc s9 wx);case first=>
   cases b2
   .go_wp2;go_meet;exact⟨_,rfl, .inl rfl,rfl⟩
   .go_wp2;go_meet;exact⟨_,rfl,qam.o trivial,rfl⟩
  case rest=>
   obtain⟨txt,rfl,htx,rfl⟩:=hcut;have WE:=af htx;clear htx;have hsn:num.size<=20:=by
    rcases QN.o with rfl|⟨f,hf,_,rfl⟩
    .decide
    .exact qal.o f hf
   have fJ:txt.size<=20:=by
    rcases WE.o with rfl|⟨f,hf,_,rfl⟩
    .decide
    .exact qal.o f hf
   have Yj:=cM n 8 (by omega);by_cases h1:tk=1
   .subst h1;have HT0:=af (show F0=0 by have:=HT.o;simp[aG]at this;exact this);go_wp2_with fail;refine cT (iy _ _ _ HI.o (by omega) (by omega)) ?_;obtain⟨W,hW⟩:=bS (wc.alloc (.cells ((oN num txt).map Value.string).toArray 9));rw[show wc.alloc (xK #[xS ⟨#[]⟩,xS ⟨#[51]⟩,xS num,xS (num++⟨#[32,42,32,50,32,45,32,49]⟩),xS (⟨#[108,101,110,40]⟩++txt++⟨#[41]⟩),xS (⟨#[105,102,40]⟩++num++⟨#[32,62,32,50,44,32]⟩++num++⟨#[44,32,48,32,45,32]⟩++num++⟨#[41]⟩),xS (⟨#[102,105,110,100,40,34,98,34,44,32]⟩++txt++⟨#[41]⟩),xS (num++⟨#[32,47,32]⟩++num)] 9)=W from hW.symm];obtain⟨c0,c1⟩:=JN (l:=oN num txt) (k:=aJ n 8) Yj;have q:ox W wc (aJ n 8) (xS ((oN num txt).getD (aJ n 8) oe)):=cell_of_heap (rO hW).1 c0;have Uz:=af (rO hW).2.2;have C1:=af c1;clear c1;clear hW c0;go_wp2;go_ret;exact⟨_,rfl,⟨_,rfl, .inl ⟨by rw[HT0.o],num,txt,QN.o,WE.o,C1.o⟩⟩,aQ.o.trans (Uz.o.mono (by omega))⟩
   .by_cases h2:tk=2
    .subst h2;have HT0:=af (show F0=0 by have:=HT.o;simp[aG]at this;exact this);go_wp2_with fail;refine cT (iy _ _ _ HI.o (by omega) (by omega)) ?_;obtain⟨W,hW⟩:=bS (wc.alloc (.cells ((mn num txt).map Value.string).toArray 9));rw[show wc.alloc (xK #[xS ⟨#[]⟩,xS ⟨#[34,120,34]⟩,xS txt,xS (txt++⟨#[32,38,32,34,45,34,32,38,32]⟩++txt),xS (⟨#[116,101,120,116,40]⟩++num++⟨#[41]⟩),xS (⟨#[108,101,102,116,40]⟩++txt++⟨#[44,32,50,41]⟩),xS (⟨#[102,114,111,109,40]⟩++txt++⟨#[44,32,51,41]⟩),xS (⟨#[105,102,40]⟩++num++⟨#[32,61,32,49,44,32]⟩++txt++⟨#[44,32,34,110,111,34,41]⟩)] 9)=W from hW.symm];obtain⟨c0,c1⟩:=JN (l:=mn num txt) (k:=aJ n 8) Yj;have q:ox W wc (aJ n 8) (xS ((mn num txt).getD (aJ n 8) oe)):=cell_of_heap (rO hW).1 c0;have Uz:=af (rO hW).2.2;have C1:=af c1;clear c1;clear hW c0;go_wp2;go_ret;exact⟨_,rfl,⟨_,rfl, .inr (.inl ⟨by rw[HT0.o],num,txt,QN.o,WE.o,C1.o⟩)⟩,aQ.o.trans (Uz.o.mono (by omega))⟩
    .have e1:(tk==1)=false:=by simpa using h1
     have e2:(tk==2)=false:=by simpa using h2
     have H1:=af h1;clear h1;have H2:=af h2;clear h2;go_wp2_with fail;refine(oM M _ c _ n ⟨tk,F0⟩ (HS.o.below aQ.o) Wz HI.o).mono ?_;rintro e w3⟨v3,rfl,hg3,bP⟩;have bO:Hd (aq w w3):=aQ.o.trans (bP.mono (by omega));clear bP;rcases hg3 with⟨f,hf,RI,rfl⟩|rfl
     .have HFM:=af hf;clear hf;have HFT:=af RI;clear RI;by_cases h3:0<aJ n 3
      .have h3':(0:Int)<(aJ n 3:Int):=by omega
       go_wp2_with fail;refine cT (iy _ _ _ HI.o (by omega) (by omega)) ?_;go_wp2;go_ret;exact⟨_,rfl,⟨_,rfl, .inr (.inr ⟨H1.o,H2.o, .inr ⟨f,HFM.o,HFT.o,rfl⟩⟩)⟩,bO.o⟩
      .have h3':¬(0:Int)<(aJ n 3:Int):=by omega
       go_wp2_with fail;refine cT (iy _ _ _ HI.o (by omega) (by omega)) ?_;go_wp2;go_ret;exact⟨_,rfl,⟨_,rfl, .inr (.inr ⟨H1.o,H2.o, .inl rfl⟩)⟩,bO.o⟩
     .go_wp2;go_ret;exact⟨_,rfl,⟨_,rfl, .inr (.inr ⟨H1.o,H2.o, .inl rfl⟩)⟩,bO.o⟩
end Go.Proofs.YtepaofffbkfodaaGreatDoor
