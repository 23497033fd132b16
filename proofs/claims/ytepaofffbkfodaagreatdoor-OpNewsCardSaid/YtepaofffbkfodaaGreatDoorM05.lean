/- A part of the proof; no condition. -/
import Derived.Test.YtepaofffbkfodaaGreatDoorM03
import Derived.Test.YtepaofffbkfodaaGreatDoorM04
set_option linter.all false
set_option maxHeartbeats 8000000
set_option maxRecDepth 100000
namespace Go.Proofs.YtepaofffbkfodaaGreatDoor
open Tryz
open Go.RowKit
variable{f:aH}{s nm:aY}{t:TypeId}{c0 c1 c2 c3:aA}{g K:Nat}{W w wx w':ax}{o o0 o1:Obj}{x:aN}{c d:aI}{M:aV}{us:List aJ}
def Jg(c:aI)(x0 x1 x2:aG)(p:Int)(hp:p=1\/p=2)(h0:gq c x0 1)(h1:gq c x1 p)(h2:gq c x2 p):Th c (.mk 6 0 (bL [105,102]) [x0,x1,x2]) ⟨p,0⟩:=by
 intro M w v fv hag hfs;obtain⟨a,cap,rfl,hsl⟩:=eH hag;obtain⟨k0,n0,s0,l0⟩:=x0;obtain⟨k1,n1,s1,l1⟩:=x1;obtain⟨k2,n2,s2,l2⟩:=x2;obtain⟨b,off,a0,c0,rfl,hbl,e00,e01,e02,e03,g0⟩:=kN (i:=0) hsl rfl;have⟨b',off',a1,c1,e,_,e10,e11,e12,e13,g1⟩:=kN (i:=1) hsl rfl;simp only[Qcf,Addr.mk.injEq,and_true]at e;obtain⟨rfl,rfl⟩:=e;have⟨b',off',a2,c2,e,_,e20,e21,e22,e23,g2⟩:=kN (i:=2) hsl rfl;simp only[Qcf,Addr.mk.injEq,and_true]at e;obtain⟨rfl,rfl⟩:=e;simp only[Nat.zero_mul,Nat.add_zero]at e00 e01 e02 e03;simp only[Nat.one_mul]at e10 e11 e12 e13;simp only[Nat.reduceMul]at e20 e21 e22 e23;have iD:=ag hfs;obtain⟨fa,fc,rfl,_⟩:=hfs.aq;have ui:Hd (∀W,aC w W->xC 346 #[.agg #[k0,n0,s0,xL a0 l0.length c0], .agg #[c.ai,xL fa c.ah.length fc]] W (cu (xI 1) W)):=λW hb=>h0 M W _ _ (g0.ae hb) (iD.o.ae hb);have fp:Hd (∀W,aC w W->xC 346 #[.agg #[k1,n1,s1,xL a1 l1.length c1], .agg #[c.ai,xL fa c.ah.length fc]] W (cu p W)):=λW hb=>h1 M W _ _ (g1.ae hb) (iD.o.ae hb);have eZ:Hd (∀W,aC w W->xC 346 #[.agg #[k2,n2,s2,xL a2 l2.length c2], .agg #[c.ai,xL fa c.ah.length fc]] W (cu p W)):=λW hb=>h2 M W _ _ (g2.ae hb) (iD.o.ae hb);have Zy:Hd (∀W,aC w W->bJ W b off k0/\bJ W b (off+1) n0/\bJ W b (off+2) s0/\bJ W b (off+3) (xL a0 l0.length c0)):=λW hb=>⟨(hb.cell (p:=(b,off)) hbl).trans e00,(hb.cell (p:=⟨b,off+1,none⟩) hbl).trans e01,(hb.cell (p:=⟨b,off+2,none⟩) hbl).trans e02,(hb.cell (p:=⟨b,off+3,none⟩) hbl).trans e03⟩;have Zz:Hd (∀W,aC w W->bJ W b (off+4) k1/\bJ W b (off+4+1) n1/\bJ W b (off+4+2) s1/\bJ W b (off+4+3) (xL a1 l1.length c1)):=λW hb=>⟨(hb.cell (p:=⟨b,off+4,none⟩) hbl).trans e10,(hb.cell (p:=⟨b,off+4+1,none⟩) hbl).trans e11,(hb.cell (p:=⟨b,off+4+2,none⟩) hbl).trans e12,(hb.cell (p:=⟨b,off+4+3,none⟩) hbl).trans e13⟩;have ZA:Hd (∀W,aC w W->bJ W b (off+8) k2/\bJ W b (off+8+1) n2/\bJ W b (off+8+2) s2/\bJ W b (off+8+3) (xL a2 l2.length c2)):=λW hb=>⟨(hb.cell (p:=⟨b,off+8,none⟩) hbl).trans e20,(hb.cell (p:=⟨b,off+8+1,none⟩) hbl).trans e21,(hb.cell (p:=⟨b,off+8+2,none⟩) hbl).trans e22,(hb.cell (p:=⟨b,off+8+3,none⟩) hbl).trans e23⟩;clear hag hfs hsl g0 g1 g2 h0 h1 h2 e00 e01 e02 e03 e10 e11 e12 e13 e20 e21 e22 e23;rw[show [aG.mk k0 n0 s0 l0,aG.mk k1 n1 s1 l1,aG.mk k2 n2 s2 l2].length=3 from rfl,show bL [105,102]=⟨#[105,102]⟩from rfl];go_enter func347,ntmps347;go_upto_region 4 with fail;have⟨W,hW⟩:=bY (((w.alloc (xK #[xI 6,xI 0,xS ⟨#[105,102]⟩,xL (b,off) 3 cap] 319)).alloc (xK #[c.ai,xL fa c.ah.length fc] 47)).alloc (xK #[xI 0,xI 0] 49));rw[<-hW];have Xu:=ag (show eR w (xK #[xI 6,xI 0,xS ⟨#[105,102]⟩,xL (b,off) 3 cap] 319) (xK #[c.ai,xL fa c.ah.length fc] 47) W by rw[hW];exact eR.new w _ _);clear hW;go_cut [6](λs6 wx=>s6=xI 1/\Hd (eR w (xK #[xI 6,xI 0,xS ⟨#[105,102]⟩,xL (b,off) 3 cap] 319) (xK #[c.ai,xL fa c.ah.length fc] 47) wx));case first=>
  have⟨z0,z1,z2,z3⟩:=af Xu.o.1;have⟨y0,y1⟩:=ak Xu.o.2.1;have⟨x0,x1,x2,x3⟩:=Zy.o _ Xu.o.2.2.2.1;go_region_law(first|(go_simp;go_at_call 346;refine cC (ui.o _ (by exact Xu.o.2.2.2.1.drew)) λw1 hb1=> ?_;have oy:=ag (Xu.o.drew.ae hb1);clear hb1));all_goals(go_wp2_with fail;go_meet;exact⟨rfl,oy⟩)
 case rest=>
  obtain⟨rfl,nP⟩:=hcut;go_upto_region 5 with fail;go_cut [7](λs7 wx=>s7=xI p/\Hd (eR w (xK #[xI 6,xI 0,xS ⟨#[105,102]⟩,xL (b,off) 3 cap] 319) (xK #[c.ai,xL fa c.ah.length fc] 47) wx));case first=>
   have⟨z0,z1,z2,z3⟩:=af nP.o.1;have⟨y0,y1⟩:=ak nP.o.2.1;have⟨x0,x1,x2,x3⟩:=Zz.o _ nP.o.2.2.2.1;go_region_law(first|(go_simp;go_at_call 346;refine cC (fp.o _ (by exact nP.o.2.2.2.1.drew)) λw1 hb1=> ?_;have oy:=ag (nP.o.drew.ae hb1);clear hb1));all_goals(go_wp2_with fail;go_meet;exact⟨rfl,oy⟩)
  case rest=>
   obtain⟨rfl,fZ⟩:=hcut;go_upto_region 6 with fail;go_cut [8](λs8 wx=>s8=xI p/\Hd (eR w (xK #[xI 6,xI 0,xS ⟨#[105,102]⟩,xL (b,off) 3 cap] 319) (xK #[c.ai,xL fa c.ah.length fc] 47) wx));case first=>
    have⟨z0,z1,z2,z3⟩:=af fZ.o.1;have⟨y0,y1⟩:=ak fZ.o.2.1;have⟨x0,x1,x2,x3⟩:=ZA.o _ fZ.o.2.2.2.1;go_region_law(first|(go_simp;go_at_call 346;refine cC (eZ.o _ (by exact fZ.o.2.2.2.1.drew)) λw1 hb1=> ?_;have oy:=ag (fZ.o.drew.ae hb1);clear hb1));all_goals(go_wp2_with fail;go_meet;exact⟨rfl,oy⟩)
   case rest=>
    obtain⟨rfl,qi⟩:=hcut;have⟨r0,r1⟩:=ak qi.o.2.2.1;have⟨f0,f1⟩:=mu qi.o.2.2.1;have hbf:=qi.o.2.2.2.1;have SC:=ag hbf;clear hbf;clear Zy Zz ZA ui fp eZ Xu nP fZ;rcases hp with rfl|rfl;all_goals
     go_wp2_with fail;refine Qae (v:= .tuple #[.agg #[xI _,xI 0],true]) (by simp[results,results347,go_sem,r0,r1];try rfl) rfl ⟨rfl,?_⟩;exact(SC.o.setCell (by simp;omega) _).setCell (by simp;omega) _
def Bn {l:List UInt8}{x:aG}(h:eu l=some x):iG x=true/\kX x<=8/\eB x<=40:=by
 unfold eu at h;split at h
 .cases h
 .split at h
  .split at h
   .rename_i hc;cases h;exact hc.2
   .cases h
  .cases h
def wM {c:aI}(hc:aX c=true)(hf:f∈c.ah):∃i:Nat,fieldAt c f.ai=i/\c.ah[i]? =some f:=by
 have⟨i,hi⟩:=Qdg hf;exact⟨i,(((bC c).1 hc).2.2 i f (Qad.1 hi).1 hi).2,hi⟩
def Jj(s:aY):bL s.data.toList=s:=(fz rfl).symm
def qN:∀s∈names9,s≠[55]/\s≠[34,97,32,98,34]/\s≠[]:=by decide
def wN {c:aI}(hc:aX c=true)(hn:∀f∈c.ah,f.ai.data.toList∈names9)(hf:f∈c.ah):jw c (tp f.ai.data.toList) f.type:=by
 have⟨h1,h2,_⟩:=qN _ (hn f hf);have⟨i,h3,h4⟩:=wM hc hf;unfold tp;rw[if_neg h1,if_neg h2];unfold fE;rw[Jj];exact F5 c f.ai f i h3 h4
def Jk {c:aI}(hc:aX c=true)(hn:∀f∈c.ah,f.ai.data.toList∈names9)(h:tF c s):s.data.toList∈[55]::names9/\jw c (tp s.data.toList) ⟨1,0⟩:=by
 rcases h with rfl|⟨f,hf,ht,rfl⟩
 .exact⟨by decide,iO c 1 7 (bL []) [] (.inl rfl)⟩
 .exact⟨List.mem_cons_of_mem _ (hn f hf),ht▸wN hc hn hf⟩
def C2 {c:aI}(hc:aX c=true)(hn:∀f∈c.ah,f.ai.data.toList∈names9)(h:pQ c s):s.data.toList∈[34,97,32,98,34]::names9/\jw c (tp s.data.toList) ⟨2,0⟩:=by
 rcases h with rfl|⟨f,hf,ht,rfl⟩
 .exact⟨by decide,iO c 2 0 (bL [97,32,98]) [] (.inr rfl)⟩
 .exact⟨List.mem_cons_of_mem _ (hn f hf),ht▸wN hc hn hf⟩
section
variable {c:aI}{num txt:aG}(hx:jw c num ⟨1,0⟩)(hy:jw c txt ⟨2,0⟩)
include hx hy
def KC:∀x∈oH num txt,jw c x ⟨1,0⟩:=by
 have px:gq c num 1:=iA c num ⟨1,0⟩ (.inl rfl) hx;have py:gq c txt 2:=iA c txt ⟨2,0⟩ (.inr rfl) hy;have pn:∀n,gq c (nE n) 1:=λn=>iA c _ ⟨1,0⟩ (.inl rfl) (iO c 1 n _ _ (.inl rfl));have pt:∀s,gq c (tE s) 2:=λs=>iA c _ ⟨2,0⟩ (.inr rfl) (iO c 2 0 _ _ (.inr rfl));have Xx:∀s x y,(s=[42]\/s=[45]\/s=[47])->gq c x 1->gq c y 1->jw c (Ja s x y) ⟨1,0⟩:=λs x y hs h1 h2=>vR c s x y 1 1 _ h1 h2 (.inr (.inr ⟨hs,rfl,rfl,rfl⟩));have pop:∀s x y,(s=[42]\/s=[45]\/s=[47])->gq c x 1->gq c y 1->gq c (Ja s x y) 1:=λs x y hs h1 h2=>iA c _ ⟨1,0⟩ (.inl rfl) (Xx s x y hs h1 h2);intro x hm;simp only[oH,Qdf,List.not_mem_nil,or_false]at hm;rcases hm with rfl|rfl|rfl|rfl|rfl|rfl|rfl
 .exact iO c 1 3 _ _ (.inl rfl)
 .exact hx
 .exact Xx _ _ _ (.inr (.inl rfl)) (pop _ _ _ (.inl rfl) px (pn 2)) (pn 1)
 .exact call5 c [108,101,110] (by decide) [txt] rfl (λi e u he hu=>by
   match i with
   |0=>simp at he;subst he;have:u=116:=by simpa [fK]using hu.symm
       subst this;exact py
   |n+1=>simp at he)
 .exact tD c _ _ _ (Jg c _ _ _ 1 (.inl rfl) (iA c _ ⟨1,0⟩ (.inl rfl) (vR c [62] _ _ 1 1 _ px (pn 2) (.inr (.inl ⟨.inr rfl,rfl, .inl rfl,rfl⟩)))) px (pop _ _ _ (.inr (.inl rfl)) (pn 0) px))
 .exact call5 c [102,105,110,100] (by decide) [tE [98],txt] rfl (λi e u he hu=>by
   match i with
   |0=>simp at he;subst he;have:u=116:=by simpa [fK]using hu.symm
       subst this;exact pt _
   |1=>simp at he;subst he;have:u=116:=by simpa [fK]using hu.symm
       subst this;exact py
   |n+2=>simp at he)
 .exact Xx _ _ _ (.inr (.inr rfl)) px px
def Gc:∀x∈mE num txt,jw c x ⟨2,0⟩:=by
 have px:gq c num 1:=iA c num ⟨1,0⟩ (.inl rfl) hx;have py:gq c txt 2:=iA c txt ⟨2,0⟩ (.inr rfl) hy;have pn:∀n,gq c (nE n) 1:=λn=>iA c _ ⟨1,0⟩ (.inl rfl) (iO c 1 n _ _ (.inl rfl));have pt:∀s,gq c (tE s) 2:=λs=>iA c _ ⟨2,0⟩ (.inr rfl) (iO c 2 0 _ _ (.inr rfl));have Xx:∀x y,gq c x 2->gq c y 2->jw c (Ja [38] x y) ⟨2,0⟩:=λx y h1 h2=>vR c [38] x y 2 2 _ h1 h2 (.inl ⟨rfl,rfl,rfl,rfl⟩);intro x hm;simp only[mE,Qdf,List.not_mem_nil,or_false]at hm;rcases hm with rfl|rfl|rfl|rfl|rfl|rfl|rfl
 .exact iO c 2 0 _ _ (.inr rfl)
 .exact hy
 .exact Xx _ _ (iA c _ ⟨2,0⟩ (.inr rfl) (Xx _ _ py (pt _))) py
 .exact call5 c [116,101,120,116] (by decide) [num] rfl (λi e u he hu=>by
   match i with
   |0=>simp at he;subst he;have:u=110:=by simpa [fK]using hu.symm
       subst this;exact px
   |n+1=>simp at he)
 .exact call5 c [108,101,102,116] (by decide) [txt,nE 2] rfl (λi e u he hu=>by
   match i with
   |0=>simp at he;subst he;have:u=116:=by simpa [fK]using hu.symm
       subst this;exact py
   |1=>simp at he;subst he;have:u=110:=by simpa [fK]using hu.symm
       subst this;exact pn _
   |n+2=>simp at he)
 .exact call5 c [102,114,111,109] (by decide) [txt,nE 3] rfl (λi e u he hu=>by
   match i with
   |0=>simp at he;subst he;have:u=116:=by simpa [fK]using hu.symm
       subst this;exact py
   |1=>simp at he;subst he;have:u=110:=by simpa [fK]using hu.symm
       subst this;exact pn _
   |n+2=>simp at he)
 .exact tD c _ _ _ (Jg c _ _ _ 2 (.inr rfl) (iA c _ ⟨1,0⟩ (.inl rfl) (vR c [61] _ _ 1 1 _ px (pn 1) (.inr (.inl ⟨.inl rfl,rfl, .inl rfl,rfl⟩)))) py (pt _))
end
def NI {α β:Type}{P:α×β->Bool}{l:List α}{m:List β}(h:(l.zip m).all P=true)(hl:l.length=m.length){a:α}(ha:a∈l):∃b∈m,P (a,b)=true:=by
 have⟨i,hi⟩:=Qdg ha;have vZ:=(Qad.1 hi).1;have hm:m[i]? =some (m[i]'(by omega)):=Qac (by omega);refine⟨_,Qaf hm,List.all_eq_true.1 h _ (Qaf (i:=i) ?_)⟩;rw[List.getElem?_zip_eq_some];exact⟨hi,hm⟩
def qO:eu []=none:=by decide
def rK(c:aI)(t:br)(s:aY):Prop:=s.data.toList=[]\/∃x,eu s.data.toList=some x/\jw c x t
def zV(s:aY)(w:ax)(h:s.data.toList=[]\/∃x,eu s.data.toList=some x):xC 277 #[s] w (cu true w):=by
 rcases h with h|⟨x,h⟩
 .obtain rfl:=fz h;have HC:=ag (CY w);go_enter func277,ntmps277;go_wp2_with fail;refine cC (HC.o) λw1 hb1=> ?_;have bz:=ag hb1;go_wp2;go_ret;exact⟨rfl,bz.o.alloc bz.o.size _⟩
 .have hz:(s.toList==[])=false:=by
   rw[ByteArray.toList_eq];cases hq:s.data.toList with
   |nil=>rw[hq,qO]at h;cases h
   |cons a r=>rfl
  have HC:=ag (Jf s w x h);obtain⟨xk,xn,xs,xl⟩:=x;go_enter func277,ntmps277;go_wp2_with fail;refine(HC.o).mono ?_;rintro e w1⟨v,rfl,hag,hb1⟩;obtain⟨a,cap,rfl,_⟩:=eH hag;have bz:=ag hb1;go_wp2;go_ret;exact⟨rfl,bz.o.alloc bz.o.size _⟩
def C3(c:aI)(t:br)(s:aY)(h:rK c t s)(hc:aX c=true)(hcn:c.ai.size<=maxLen)(M:aV)(w:ax)(hM:Bd M w)(fv:aA)(hfs:ab M w fv c.ah):
 xC 243 #[s, .agg #[c.ai,fv], .agg #[t.an,t.of]] w (cu true w):=by
 have iD:=ag hfs;obtain⟨fa,fc,rfl,_⟩:=hfs.aq;rcases h with h|⟨x,h,hk⟩
 .obtain rfl:=fz h;go_enter func243,ntmps243;go_wp2;go_ret;exact⟨rfl,bU.alloc (by simp) _⟩
 .have hz:(s.toList==[])=false:=by
   rw[ByteArray.toList_eq];cases hq:s.data.toList with
   |nil=>rw[hq,qO]at h;cases h
   |cons a r=>rfl
  have⟨hn1,hn2,hn3⟩:=Bn h;have HT:Hd (∀W v,aC w W->cB M W v x->xC 279 #[v, .agg #[c.ai,xL fa c.ah.length fc]] W (cu (.tuple #[.agg #[t.an,t.of],xI 0]) W)):=λW v hb hag=>Rq c x t hk hn1 hn2 hn3 hc hcn M W v _ hag (iD.o.ae hb);have HC:=ag (λW=>Jf s W x h);obtain⟨xk,xn,xs,xl⟩:=x;obtain⟨tk,FG⟩:=t;go_enter func243,ntmps243;go_wp2_with fail;refine(HC.o _).mono ?_;rintro e w1⟨v,rfl,hag,hb1⟩;have hb0:aC w w1:=(bU.alloc (by simp) _).trans (hb1.mono (by simp;omega));have qcw:cB M w1 v (aG.mk xk xn xs xl):=hag.ev (Ev.dL w1 λi hi=>by have:=hM i hi;unfold fJ;simp;omega);have tg:=ag qcw;obtain⟨a,cap,rfl,_⟩:=eH hag;have ui:=ag ((hb1.block w (by simp;omega)).trans (jZ (w:=w) rfl).1);have fp:=ag ((hb1.block [w] (by simp)).trans (jZ (w:=w) rfl).2.1);have s1:=hb1.size;simp at s1;have⟨c0,c1⟩:=ak ui.o;have⟨t0,t1⟩:=ak fp.o;have n0:w.heap.size≠w1:=by omega
  have n1:w.heap.size+1≠w1:=by omega
  have C0:∀o,(w1.alloc o).cell? (w,0)=some (xS c.ai):=λo=>(World.cell?_of_block (w:=w1) (Qcb w1 o w (by omega))).trans c0;have C1:∀o,(w1.alloc o).cell? (w,1)=some (xL fa c.ah.length fc):=λo=>(World.cell?_of_block (w:=w1) (Qcb w1 o w (by omega))).trans c1;have iW:=ag hb0;go_wp2_with fail;refine cC (HT.o _ _ (by exact iW.o.alloc iW.o.size _) (tg.o.ae bU)) λw2 bE=> ?_;have bg:Hd (aC w w2):=(iW.o.alloc iW.o.size _).trans (bE.mono (by simp;omega));have s2:=bE.size;simp at s2;have HY1:=ag ((bE.block [w] (by simp;omega)).trans ((Qcb w1 _ [w] (by omega)).trans fp.o));have⟨t0,t1⟩:=ak HY1.o;have n2:w.heap.size+1≠w2:=by omega
  have T0:∀o,(w2.alloc o).cell? ([w],0)=some (xI tk):=λo=>(World.cell?_of_block (w:=w2) (Qcb w2 o [w] (by omega))).trans t0;have T1:∀o,(w2.alloc o).cell? ([w],1)=some (xI FG):=λo=>(World.cell?_of_block (w:=w2) (Qcb w2 o [w] (by omega))).trans t1;go_wp2;go_ret;exact⟨rfl,bg.o.alloc bg.o.size _⟩
def nu(x:aN):Prop:=
 (x.an=1/\x.field=⟨#[]⟩/\x.more=⟨#[]⟩/\x.bZ=⟨#[]⟩)\/
 (x.an=2/\x.ai=⟨#[]⟩/\x.more=⟨#[]⟩/\x.type=⟨0,0⟩/\x.cX=⟨#[]⟩/\x.bZ=⟨#[]⟩)\/
 (x.an=3/\x.more=⟨#[]⟩/\x.type=⟨0,0⟩/\x.cX=⟨#[]⟩/\x.bZ=⟨#[]⟩)\/
 (x.an=4/\x.ai=⟨#[]⟩/\x.more=⟨#[]⟩/\x.bZ=⟨#[]⟩)\/
 (x.an=5)\/
 (x.an=6/\x.ai=⟨#[]⟩/\x.more=⟨#[]⟩/\x.type=⟨0,0⟩/\x.cX=⟨#[]⟩/\x.bZ=⟨#[]⟩)
def NJ(x:aN)(h:nu x)(w:ax):
 xC 276 #[.agg #[x.an,x.field,x.ai,x.more,x.type.an,x.type.of,x.cX,x.bZ]] w (cu (.agg #[x.an,x.field,x.ai,x.more,x.type.an,x.type.of,x.cX,x.bZ]) w):=by
 obtain⟨k,f,n,m,⟨tk,tf⟩,e,o⟩:=x;simp only[nu,br.mk.injEq]at h;rcases h with⟨rfl,rfl,rfl,rfl⟩|⟨rfl,rfl,rfl,⟨rfl,rfl⟩,rfl,rfl⟩|⟨rfl,rfl,⟨rfl,rfl⟩,rfl,rfl⟩|⟨rfl,rfl,rfl,rfl⟩|rfl|⟨rfl,rfl,rfl,⟨rfl,rfl⟩,rfl,rfl⟩;all_goals
  dsimp only;go_enter func276,ntmps276;go_wp2_with fail;refine Qae (v:= .agg #[_,_,_,_,_,_,_,_]) (by simp[results,results276,go_sem]) rfl ⟨rfl,?_⟩;repeat(first|exact Qbg _ _|refine Below.setCell ?_ (by simp<;>omega) _|refine Below.alloc ?_ (by simp<;>omega) _)
def aB {c4 c5 c6 c7:Value}(h:W.heap[g]? =some (xK #[c0,c1,c2,c3,c4,c5,c6,c7] t)):
 W.cell? (g,0)=some c0/\W.cell? (g,1)=some c1/\W.cell? (g,2)=some c2/\W.cell? (g,3)=some c3/\W.cell? (g,4)=some c4/\W.cell? (g,5)=some c5/\W.cell? (g,6)=some c6/\W.cell? (g,7)=some c7:=by simp[World.cell?,h]
def uD(w:ax)(o:Obj)(wx:ax):Prop:=wx.heap[w.heap.size]? =some o/\aC w wx/\w.heap.size<wx
theorem uD.ae(h:uD w o wx)(k:aC wx w'):uD w o w':=by
 have:=h.2.2;have:=h.2.1.size;have:=k.size;exact⟨(k.block _ h.2.2).trans h.1,h.2.1.trans (k.mono (by omega)),by omega⟩
theorem uD.drew(h:uD w o wx):uD w o wx.drew:=⟨h.1,h.2.1.drew,h.2.2⟩
def NK(x:aN):Prop:=
 ((x.an=1\/x.an=3\/x.an=5)->aM x.ai=true)/\(x.an=5->aM x.more=true)/\((x.an=1\/x.an=4\/x.an=5)->aR x.type=true)/\
 (x.cX.data.toList=[]\/∃y,eu x.cX.data.toList=some y)/\(x.bZ.data.toList=[]\/∃y,eu x.bZ.data.toList=some y)/\
 x.field.size<=maxLen/\x.ai.size<=maxLen/\x.more.size<=maxLen
def Ge(x:aN)(h:nu x)(hf:NK x)(b:Bool)(hb:(decide (x.an=1)||aM x.field)=b)(w:ax):
 xC 242 #[.agg #[x.an,x.field,x.ai,x.more,x.type.an,x.type.of,x.cX,x.bZ]] w (cu b w):=by
 have HN:Hd (∀w,_):=NJ x h;obtain⟨k,f,n,m,⟨tk,tf⟩,e,o⟩:=x;obtain⟨hn,hm,ht,he,ho,hs1,hs2,qK⟩:=hf;have hk:k=1\/k=2\/k=3\/k=4\/k=5\/k=6:=by simp only[nu]at h;omega
 dsimp only at*;have HT:=ag λhk w=>nS true ⟨tk,tf⟩ w (ht hk);have qW:=ag λhk w=>gp true n w (hn hk) hs2;have A6:=ag λhk w=>gp true m w (hm hk) qK;have HF:=ag λw=>gp (aM f) f w rfl hs1;have Xy:=ag λw=>zV e w he;have TQ:=ag λw=>zV o w ho;clear hn hm ht he ho hs1 hs2 qK h;go_enter func242,ntmps242;go_upto_region 1 with fail;have⟨W,hW⟩:=bY (w.alloc (xK #[k,f,n,m,tk,tf,e,o] 51));rw[<-hW];have HW:=ag (show uD w (xK #[k,f,n,m,tk,tf,e,o] 51) W by rw[hW];exact⟨(rE (w:=w) rfl).1,bU,by simp⟩);clear hW;go_cut [16](λs16 wx=>s16=xB false/\Hd (uD w (xK #[k,f,n,m,tk,tf,e,o] 51) wx));case first=>
  have⟨a0,a1,a2,a3,a4,a5,a6,a7⟩:=aB HW.o.1;have hk1:¬k<1:=by omega
  have hk6:¬6<k:=by omega
  go_region_law(first|(go_simp;go_at_call 276;refine cC (HN.o _) λw1 hb1=> ?_;have oy:=ag (HW.o.drew.ae hb1);clear hb1;have⟨b0,b1,b2,b3,b4,b5,b6,b7⟩:=aB oy.o.1));all_goals(go_wp2_with fail;go_meet;exact⟨rfl,oy⟩)
 case rest=>
  obtain⟨rfl,fZ⟩:=hcut;clear HW HN;have⟨a0,a1,a2,a3,a4,a5,a6,a7⟩:=aB fZ.o.1;rcases hk with rfl|rfl|rfl|rfl|rfl|rfl
  .obtain rfl:true=b:=hb;go_wp2_with fail;refine dw (qW.o (by simp) _) ?_;go_wp2_with fail;refine cC (HT.o (by simp) _) λw3 hb3=> ?_;have qi:=ag (fZ.o.ae hb3);clear hb3;clear a0 a1 a2 a3 a4 a5 a6 a7;have⟨a0,a1,a2,a3,a4,a5,a6,a7⟩:=aB qi.o.1;go_wp2_with fail;refine cC (Xy.o _) λw4 eA=> ?_;have my:=ag (qi.o.ae eA);clear eA;clear a0 a1 a2 a3 a4 a5 a6 a7;have⟨a0,a1,a2,a3,a4,a5,a6,a7⟩:=aB my.o.1;go_wp2_with fail;refine cC (TQ.o _) λw5 iL=> ?_;have qu:=ag (my.o.ae iL);clear iL;clear a0 a1 a2 a3 a4 a5 a6 a7;have⟨a0,a1,a2,a3,a4,a5,a6,a7⟩:=aB qu.o.1;go_wp2;go_ret;exact⟨rfl,qu.o.2.1⟩
  .have hb':aM f=b:=hb;rw[hb']at HF;clear hb hb';go_wp2_with fail;refine dw (HF.o _) ?_;cases b with
   |false=>
    go_wp2;go_ret;exact⟨rfl,fZ.o.2.1⟩
   |true=>
    go_wp2_with fail;refine cC (Xy.o _) λw3 hb3=> ?_;have qi:=ag (fZ.o.ae hb3);clear hb3;clear a0 a1 a2 a3 a4 a5 a6 a7;have⟨a0,a1,a2,a3,a4,a5,a6,a7⟩:=aB qi.o.1;go_wp2_with fail;refine cC (TQ.o _) λw4 eA=> ?_;have my:=ag (qi.o.ae eA);clear eA;clear a0 a1 a2 a3 a4 a5 a6 a7;have⟨a0,a1,a2,a3,a4,a5,a6,a7⟩:=aB my.o.1;go_wp2;go_ret;exact⟨rfl,my.o.2.1⟩
  .have hb':aM f=b:=hb;rw[hb']at HF;clear hb hb';go_wp2_with fail;refine dw (HF.o _) ?_;cases b with
   |false=>
    go_wp2;go_ret;exact⟨rfl,fZ.o.2.1⟩
   |true=>
    go_wp2_with fail;refine dw (qW.o (by simp) _) ?_;go_wp2_with fail;refine cC (Xy.o _) λw3 hb3=> ?_;have qi:=ag (fZ.o.ae hb3);clear hb3;clear a0 a1 a2 a3 a4 a5 a6 a7;have⟨a0,a1,a2,a3,a4,a5,a6,a7⟩:=aB qi.o.1;go_wp2_with fail;refine cC (TQ.o _) λw4 eA=> ?_;have my:=ag (qi.o.ae eA);clear eA;clear a0 a1 a2 a3 a4 a5 a6 a7;have⟨a0,a1,a2,a3,a4,a5,a6,a7⟩:=aB my.o.1;go_wp2;go_ret;exact⟨rfl,my.o.2.1⟩
  .have hb':aM f=b:=hb;rw[hb']at HF;clear hb hb';go_wp2_with fail;refine dw (HF.o _) ?_;cases b with
   |false=>
    go_wp2;go_ret;exact⟨rfl,fZ.o.2.1⟩
   |true=>
    go_wp2_with fail;refine cC (HT.o (by simp) _) λw3 hb3=> ?_;have qi:=ag (fZ.o.ae hb3);clear hb3;clear a0 a1 a2 a3 a4 a5 a6 a7;have⟨a0,a1,a2,a3,a4,a5,a6,a7⟩:=aB qi.o.1;go_wp2_with fail;refine cC (Xy.o _) λw4 eA=> ?_;have my:=ag (qi.o.ae eA);clear eA;clear a0 a1 a2 a3 a4 a5 a6 a7;have⟨a0,a1,a2,a3,a4,a5,a6,a7⟩:=aB my.o.1;go_wp2_with fail;refine cC (TQ.o _) λw5 iL=> ?_;have qu:=ag (my.o.ae iL);clear iL;clear a0 a1 a2 a3 a4 a5 a6 a7;have⟨a0,a1,a2,a3,a4,a5,a6,a7⟩:=aB qu.o.1;go_wp2;go_ret;exact⟨rfl,qu.o.2.1⟩
  .have hb':aM f=b:=hb;rw[hb']at HF;clear hb hb';go_wp2_with fail;refine dw (HF.o _) ?_;cases b with
   |false=>
    go_wp2;go_ret;exact⟨rfl,fZ.o.2.1⟩
   |true=>
    go_wp2_with fail;refine dw (qW.o (by simp) _) ?_;go_wp2_with fail;refine cC (HT.o (by simp) _) λw3 hb3=> ?_;have qi:=ag (fZ.o.ae hb3);clear hb3;clear a0 a1 a2 a3 a4 a5 a6 a7;have⟨a0,a1,a2,a3,a4,a5,a6,a7⟩:=aB qi.o.1;go_wp2_with fail;refine dw (A6.o (by simp) _) ?_;go_wp2_with fail;refine cC (Xy.o _) λw4 eA=> ?_;have my:=ag (qi.o.ae eA);clear eA;clear a0 a1 a2 a3 a4 a5 a6 a7;have⟨a0,a1,a2,a3,a4,a5,a6,a7⟩:=aB my.o.1;go_wp2_with fail;refine cC (TQ.o _) λw5 iL=> ?_;have qu:=ag (my.o.ae iL);clear iL;clear a0 a1 a2 a3 a4 a5 a6 a7;have⟨a0,a1,a2,a3,a4,a5,a6,a7⟩:=aB qu.o.1;go_wp2;go_ret;exact⟨rfl,qu.o.2.1⟩
  .have hb':aM f=b:=hb;rw[hb']at HF;clear hb hb';go_wp2_with fail;refine dw (HF.o _) ?_;cases b with
   |false=>
    go_wp2;go_ret;exact⟨rfl,fZ.o.2.1⟩
   |true=>
    go_wp2_with fail;refine cC (Xy.o _) λw3 hb3=> ?_;have qi:=ag (fZ.o.ae hb3);clear hb3;clear a0 a1 a2 a3 a4 a5 a6 a7;have⟨a0,a1,a2,a3,a4,a5,a6,a7⟩:=aB qi.o.1;go_wp2_with fail;refine cC (TQ.o _) λw4 eA=> ?_;have my:=ag (qi.o.ae eA);clear eA;clear a0 a1 a2 a3 a4 a5 a6 a7;have⟨a0,a1,a2,a3,a4,a5,a6,a7⟩:=aB my.o.1;go_wp2;go_ret;exact⟨rfl,my.o.2.1⟩
structure qA(c:aI)(x:aN):Prop where
 sh:nu x
 ai:(x.an=1\/x.an=3\/x.an=5)->aM x.ai=true
 more:x.an=5->aM x.more=true
 type:(x.an=1\/x.an=4\/x.an=5)->aR x.type=true
 cX:rK c x.type x.cX
 bZ:rK c x.type x.bZ
 s1:x.field.size<=maxLen
 s2:x.ai.size<=maxLen
 s3:x.more.size<=maxLen
theorem qA.Uy(h:qA c x):NK x:=
 ⟨h.ai,h.more,h.type,h.cX.imp_right λ⟨y,h,_⟩=>⟨y,h⟩,h.bZ.imp_right λ⟨y,h,_⟩=>⟨y,h⟩,h.s1,h.s2,h.s3⟩
def hasB(c:aI)(s:aY):Bool:= !decide (fieldAt c s<0)
def wO(c:aI)(s:aY):Int:=match c.ah[(fieldAt c s).toNat]? with|some f=>f.type.an|none=>0
def jo(c:aI)(x:aN):Bool:=
 if x.an=1 then decide ((c.ah.length:Int)<8)&& !hasB c x.ai
 else if x.an=2 then hasB c x.field
 else if x.an=3 then hasB c x.field&& !hasB c x.ai
 else if x.an=4 then hasB c x.field
 else if x.an=5 then hasB c x.field&&decide ((c.ah.length:Int)<8)&& !(x.ai.toList==x.more.toList)&&(!hasB c x.ai||x.ai.toList==x.field.toList)&&(!hasB c x.more||x.more.toList==x.field.toList)
 else hasB c x.field&&decide (wO c x.field<=3)
def qP {a b:aY}(h:(a.toList==b.toList)=true):a=b:=by
 rw[ByteArray.toList_eq,ByteArray.toList_eq,beq_iff_eq]at h;exact(fz h).trans (Jj b)
def Bq(h:hasB c s=true):∃(i:Nat)(f:aH),fieldAt c s=i/\c.ah[i]? =some f/\f.ai=s:=by
 unfold hasB at h;simp only[Bool.not_eq_true',decide_eq_false_iff_not]at h;unfold fieldAt idxOf at h⊢;cases hq:c.ah.findIdx? (λf=>cq f.ai s)with
 |none=>rw[hq]at h;simp at h
 |some i=>
  have⟨hi,hp,_⟩:=List.findIdx?_eq_some_iff_getElem.1 hq;exact⟨i,_,rfl,Qac hi,qP hp⟩
def C4(hc:aX c=true)(h:hasB c s=true):aM s=true:=by
 obtain⟨i,f,_,hf,rfl⟩:=Bq h;have:=(((bC c).1 hc).2.2 i f (Qad.1 hf).1 hf).1;unfold bS at this;simp only[Qce]at this;exact this.1.1
def Bs(hc:aX c=true)(hs:nu x)(h:(decide (x.an=1)||aM x.field)=false):jo c x=false:=by
 simp only[Bool.or_eq_false_iff,decide_eq_false_iff_not]at h;have hn:hasB c x.field=false:=by
  cases hq:hasB c x.field with
  |false=>rfl
  |true=>rw[C4 hc hq]at h;simp at h
 unfold jo;simp[h.1,hn]
def uE(w:ax)(o0 o1:Obj)(wx:ax):Prop:=wx.heap[w.heap.size]? =some o0/\wx.heap[w.heap.size+1]? =some o1/\aC w wx/\w.heap.size+1<wx
theorem uE.ae(h:uE w o0 o1 wx)(k:aC wx w'):uE w o0 o1 w':=by
 obtain⟨h1,h2,h3,h4⟩:=h;have:=h3.size;have:=k.size;exact⟨(k.block _ (by omega)).trans h1,(k.block _ (by omega)).trans h2,h3.trans (k.mono (by omega)),by omega⟩
theorem uE.new(w:ax)(o0 o1:Obj):uE w o0 o1 ((w.alloc o0).alloc o1):=⟨(jZ (w:=w) rfl).1,(jZ (w:=w) rfl).2.1,(jZ (w:=w) rfl).2.2.2,by rw[(jZ (w:=w) rfl).2.2.1];omega⟩
def uF(c:aI)(x:aN)(hp:qA c x)(hc:aX c=true)(hcn:c.ai.size<=maxLen)(b:Bool)(hb:jo c x=b)(M:aV)(w:ax)(hM:Bd M w)(fv:aA)(hfs:ab M w fv c.ah):
 xC 180 #[.agg #[c.ai,fv], .agg #[x.an,x.field,x.ai,x.more,x.type.an,x.type.of,x.cX,x.bZ]] w (cu b w):=by
 have HFM:=ag λbf hbf w=>Ge x hp.sh hp.Uy bf hbf w;have J3:=ag (Bs hc hp.sh);have hk:x.an=1\/x.an=2\/x.an=3\/x.an=4\/x.an=5\/x.an=6:=by have:=hp.sh;simp only[nu]at this;omega
 have HTE:Hd (∀W fv,Bd M W->ab M W fv c.ah->_):=λW fv h1 h2=>C3 c x.type x.cX hp.cX hc hcn M W h1 fv h2;have HTO:Hd (∀W fv,Bd M W->ab M W fv c.ah->_):=λW fv h1 h2=>C3 c x.type x.bZ hp.bZ hc hcn M W h1 fv h2;have HR:Hd (∀W fv,ab M W fv c.ah->_):=λW fv h=>kF M fv W c h hcn hc;have SE:Hd (∀W fv ai at_ is,ab M W fv c.ah->_->_->_):=λW fv ai at_ is h h1 h2=>lO M fv W c ai at_ is h h1 h2;have iD:=ag hfs;obtain⟨fa,fc,rfl,hlc,MD,hcells⟩:=hfs.aq;have zB:=ag hcells;clear hp hfs hcells;obtain⟨k,f,n,m,⟨tk,tf⟩,e,o⟩:=x;dsimp only at*;have⟨bf,hbf⟩:=jN ((decide (k=1)||aM f));have HFB:=ag (HFM.o bf hbf);have⟨i1,hi1⟩:=jN (hasB c f);obtain⟨i2,VR⟩:∃i1,hasB c n=i1:=⟨_,rfl⟩;obtain⟨i3,Qm⟩:∃i1,hasB c m=i1:=⟨_,rfl⟩;obtain⟨p1,hp1⟩:∃p,(if fieldAt c f<0 then 0 else fieldAt c f)=p:=⟨_,rfl⟩;obtain⟨p2,A8⟩:∃p,(if fieldAt c n<0 then 0 else fieldAt c n)=p:=⟨_,rfl⟩;obtain⟨p3,Fl⟩:∃p,(if fieldAt c m<0 then 0 else fieldAt c m)=p:=⟨_,rfl⟩;have jq:Hd (∀W,ab M W (xL fa c.ah.length fc) c.ah->_):=λW h=>SE.o W _ f p1 i1 h hp1 hi1;have yL:Hd (∀W,ab M W (xL fa c.ah.length fc) c.ah->_):=λW h=>SE.o W _ n p2 i2 h A8 VR;have HF3:Hd (∀W,ab M W (xL fa c.ah.length fc) c.ah->_):=λW h=>SE.o W _ m p3 i3 h Fl Qm;have HB:=ag hb;clear hb;have zF:=ag hi1;clear hi1;have mw:=ag VR;clear VR;have sS:=ag Qm;clear Qm;have MJ:=ag hp1;clear hp1;have VM:=ag A8;clear A8;have Xs:=ag Fl;clear Fl;have SC:=ag hbf;clear hbf;clear SE HFM;go_enter func180,ntmps180;go_wp2_with fail;refine cC (HR.o _ _ (iD.o.ae (uE.new _ _ _).2.2.1)) λw1 hb1=> ?_;have nP:Hd (uE w (xK #[c.ai,xL fa c.ah.length fc] 47) (xK #[k,f,n,m,tk,tf,e,o] 51) w1):=(uE.new w _ _).ae hb1;clear hb1;have⟨c0,c1⟩:=ak nP.o.1;have⟨a0,a1,a2,a3,a4,a5,a6,a7⟩:=aB nP.o.2.1;go_wp2_with fail;refine cC (HFB.o _) λw2 bE=> ?_;have fZ:=ag (nP.o.ae bE);clear bE;clear c0 c1 a0 a1 a2 a3 a4 a5 a6 a7;have⟨c0,c1⟩:=ak fZ.o.1;have⟨a0,a1,a2,a3,a4,a5,a6,a7⟩:=aB fZ.o.2.1;cases bf with
 |false=>
  obtain rfl:false=b:=(J3.o SC.o).symm.trans HB.o;go_wp2;go_ret;exact⟨rfl,fZ.o.2.2.1⟩
 |true=>
  go_wp2_with fail;refine cC (jq.o _ (iD.o.ae fZ.o.2.2.1)) λw3 hb3=> ?_;have qi:=ag (fZ.o.ae hb3);clear hb3;clear c0 c1 a0 a1 a2 a3 a4 a5 a6 a7;have⟨c0,c1⟩:=ak qi.o.1;have⟨a0,a1,a2,a3,a4,a5,a6,a7⟩:=aB qi.o.2.1;go_wp2_with fail;refine cC (yL.o _ (iD.o.ae qi.o.2.2.1)) λw4 eA=> ?_;have my:=ag (qi.o.ae eA);clear eA;clear c0 c1 a0 a1 a2 a3 a4 a5 a6 a7;have⟨c0,c1⟩:=ak my.o.1;have⟨a0,a1,a2,a3,a4,a5,a6,a7⟩:=aB my.o.2.1;go_wp2_with fail;refine cC (HF3.o _ (iD.o.ae my.o.2.2.1)) λw5 iL=> ?_;have qu:=ag (my.o.ae iL);clear iL;clear c0 c1 a0 a1 a2 a3 a4 a5 a6 a7;have⟨c0,c1⟩:=ak qu.o.1;have⟨a0,a1,a2,a3,a4,a5,a6,a7⟩:=aB qu.o.2.1;go_wp2_with fail;refine cC (HTE.o _ _ (hM.ae qu.o.2.2.1) (iD.o.ae qu.o.2.2.1)) λw6 jn=> ?_;have qk:=ag (qu.o.ae jn);clear jn;clear c0 c1 a0 a1 a2 a3 a4 a5 a6 a7;have⟨c0,c1⟩:=ak qk.o.1;have⟨a0,a1,a2,a3,a4,a5,a6,a7⟩:=aB qk.o.2.1;rcases hk with rfl|rfl|rfl|rfl|rfl|rfl
  .by_cases hl:(c.ah.length:Int)<8
   .cases i2 with
    |false=>
     obtain rfl:true=b:=by rw[<-HB.o];simp[jo,hl,mw.o]
     go_wp2;go_ret;exact⟨rfl,qk.o.2.2.1⟩
    |true=>
     obtain rfl:false=b:=by rw[<-HB.o];simp[jo,hl,mw.o]
     go_wp2;go_ret;exact⟨rfl,qk.o.2.2.1⟩
   .obtain rfl:false=b:=by rw[<-HB.o];simp[jo,hl]
    go_wp2;go_ret;exact⟨rfl,qk.o.2.2.1⟩
  .cases i1 with
   |false=>
    obtain rfl:false=b:=by rw[<-HB.o];simp[jo,zF.o]
    go_wp2;go_ret;exact⟨rfl,qk.o.2.2.1⟩
   |true=>
    obtain rfl:true=b:=by rw[<-HB.o];simp[jo,zF.o]
    go_wp2;go_ret;exact⟨rfl,qk.o.2.2.1⟩
  .cases i1 with
   |false=>
    obtain rfl:false=b:=by rw[<-HB.o];simp[jo,zF.o]
    go_wp2;go_ret;exact⟨rfl,qk.o.2.2.1⟩
   |true=>
    cases i2 with
    |false=>
     obtain rfl:true=b:=by rw[<-HB.o];simp[jo,zF.o,mw.o]
     go_wp2;go_ret;exact⟨rfl,qk.o.2.2.1⟩
    |true=>
     obtain rfl:false=b:=by rw[<-HB.o];simp[jo,zF.o,mw.o]
     go_wp2;go_ret;exact⟨rfl,qk.o.2.2.1⟩
  .cases i1 with
   |false=>
    obtain rfl:false=b:=by rw[<-HB.o];simp[jo,zF.o]
    go_wp2;go_ret;exact⟨rfl,qk.o.2.2.1⟩
   |true=>
    obtain rfl:true=b:=by rw[<-HB.o];simp[jo,zF.o]
    go_wp2;go_ret;exact⟨rfl,qk.o.2.2.1⟩
  .cases i1 with
   |false=>
    obtain rfl:false=b:=by rw[<-HB.o];simp[jo,zF.o]
    go_wp2;go_ret;exact⟨rfl,qk.o.2.2.1⟩
   |true=>
    by_cases hl:(c.ah.length:Int)<8
    .by_cases hnm:(n.toList==m.toList)=true
     .obtain rfl:false=b:=by rw[<-HB.o];simp[jo,zF.o,hl,hnm]
      go_wp2;go_ret;exact⟨rfl,qk.o.2.2.1⟩
     .cases i2 with
      |false=>
       cases i3 with
       |false=>
        obtain rfl:true=b:=by rw[<-HB.o];simp[jo,zF.o,hl,hnm,mw.o,sS.o]
        go_wp2_with fail;refine cC (HTO.o _ _ (hM.ae qk.o.2.2.1) (iD.o.ae qk.o.2.2.1)) λw7 gP=> ?_;have ur:=ag (qk.o.ae gP);clear gP;clear c0 c1 a0 a1 a2 a3 a4 a5 a6 a7;have⟨c0,c1⟩:=ak ur.o.1;have⟨a0,a1,a2,a3,a4,a5,a6,a7⟩:=aB ur.o.2.1;go_wp2;go_ret;exact⟨rfl,ur.o.2.2.1⟩
       |true=>
        by_cases Cs:(m.toList==f.toList)=true
        .obtain rfl:true=b:=by rw[<-HB.o];simp[jo,zF.o,hl,hnm,mw.o,sS.o,Cs]
         go_wp2_with fail;refine cC (HTO.o _ _ (hM.ae qk.o.2.2.1) (iD.o.ae qk.o.2.2.1)) λw7 gP=> ?_;have ur:=ag (qk.o.ae gP);clear gP;clear c0 c1 a0 a1 a2 a3 a4 a5 a6 a7;have⟨c0,c1⟩:=ak ur.o.1;have⟨a0,a1,a2,a3,a4,a5,a6,a7⟩:=aB ur.o.2.1;go_wp2;go_ret;exact⟨rfl,ur.o.2.2.1⟩
        .obtain rfl:false=b:=by rw[<-HB.o];simp[jo,zF.o,hl,hnm,mw.o,sS.o,Cs]
         go_wp2;go_ret;exact⟨rfl,qk.o.2.2.1⟩
      |true=>
       by_cases hnf:(n.toList==f.toList)=true
       .cases i3 with
        |false=>
         obtain rfl:true=b:=by rw[<-HB.o];simp[jo,zF.o,hl,hnm,mw.o,hnf,sS.o]
         go_wp2_with fail;refine cC (HTO.o _ _ (hM.ae qk.o.2.2.1) (iD.o.ae qk.o.2.2.1)) λw7 gP=> ?_;have ur:=ag (qk.o.ae gP);clear gP;clear c0 c1 a0 a1 a2 a3 a4 a5 a6 a7;have⟨c0,c1⟩:=ak ur.o.1;have⟨a0,a1,a2,a3,a4,a5,a6,a7⟩:=aB ur.o.2.1;go_wp2;go_ret;exact⟨rfl,ur.o.2.2.1⟩
        |true=>
         by_cases Cs:(m.toList==f.toList)=true
         .obtain rfl:true=b:=by rw[<-HB.o];simp[jo,zF.o,hl,hnm,mw.o,hnf,sS.o,Cs]
          go_wp2_with fail;refine cC (HTO.o _ _ (hM.ae qk.o.2.2.1) (iD.o.ae qk.o.2.2.1)) λw7 gP=> ?_;have ur:=ag (qk.o.ae gP);clear gP;clear c0 c1 a0 a1 a2 a3 a4 a5 a6 a7;have⟨c0,c1⟩:=ak ur.o.1;have⟨a0,a1,a2,a3,a4,a5,a6,a7⟩:=aB ur.o.2.1;go_wp2;go_ret;exact⟨rfl,ur.o.2.2.1⟩
         .obtain rfl:false=b:=by rw[<-HB.o];simp[jo,zF.o,hl,hnm,mw.o,hnf,sS.o,Cs]
          go_wp2;go_ret;exact⟨rfl,qk.o.2.2.1⟩
       .obtain rfl:false=b:=by rw[<-HB.o];simp[jo,zF.o,hl,hnm,mw.o,hnf]
        go_wp2;go_ret;exact⟨rfl,qk.o.2.2.1⟩
    .obtain rfl:false=b:=by rw[<-HB.o];simp[jo,zF.o,hl]
     go_wp2;go_ret;exact⟨rfl,qk.o.2.2.1⟩
  .have qfw:fieldAt c f<c.ah.length:=wm c f;cases i1 with
   |false=>
    go_wp2_with fail;refine cC (jq.o _ (iD.o.ae qk.o.2.2.1)) λw7 gP=> ?_;have ur:=ag (qk.o.ae gP);clear gP;clear c0 c1 a0 a1 a2 a3 a4 a5 a6 a7;have⟨c0,c1⟩:=ak ur.o.1;have⟨a0,a1,a2,a3,a4,a5,a6,a7⟩:=aB ur.o.2.1;obtain rfl:false=b:=by rw[<-HB.o];simp[jo,zF.o]
    go_wp2;go_ret;exact⟨rfl,ur.o.2.2.1⟩
   |true=>
    have⟨q,fd,hq,hfd,hfn⟩:=Bq zF.o;obtain rfl:(q:Int)=p1:=by rw[<-MJ.o,hq,if_neg (by omega)]
    have hql:=(Qad.1 hfd).1;obtain⟨bl,off,rfl,hMb,hbl,hcell⟩:=zB.o (by omega);obtain⟨cs,⟨rfl,_⟩,hfc⟩:=hcell q fd hfd;have hc1:bJ w bl (off+q*4+1) fd.type.an:=hfc 1 _ rfl;have hkd:wO c f=fd.type.an:=by unfold wO;rw[hq];simp[hfd]
    go_wp2_with fail;refine cC (jq.o _ (iD.o.ae qk.o.2.2.1)) λw7 gP=> ?_;have ur:=ag (qk.o.ae gP);clear gP;clear c0 c1 a0 a1 a2 a3 a4 a5 a6 a7;have⟨c0,c1⟩:=ak ur.o.1;have⟨a0,a1,a2,a3,a4,a5,a6,a7⟩:=aB ur.o.2.1;have A7:bJ w7 bl (off+q*4+1) fd.type.an:=(ur.o.2.2.1.cell (p:=⟨bl,off+q*4+1,none⟩) hbl).trans hc1;clear hc1 hcell hfc hfn hq hfd;by_cases vq:fd.type.an<=3
    .obtain rfl:true=b:=by rw[<-HB.o];simp[jo,zF.o,hkd,vq]
     go_wp2;go_ret;exact⟨rfl,ur.o.2.2.1⟩
    .obtain rfl:false=b:=by rw[<-HB.o];simp[jo,zF.o,hkd,vq]
     go_wp2;go_ret;exact⟨bK (by simp[vq]),ur.o.2.2.1⟩
def tG {a b:aY}:cq a b=true↔a=b:=⟨λh=>qP h,λh=>by subst h;simp[cq]⟩
def wP {a b:aY}(h:a≠b):cq a b=false:=by
 cases hq:cq a b with
 |false=>rfl
 |true=>exact absurd (tG.1 hq) h
def cJ(x:aN)(f:aH):List aH:=
 if !(cq f.ai x.field)||decide (x.an=1)then[f]
 else if x.an=2 then[]else if x.an=3 then[⟨x.ai,f.type,f.indexed⟩]else if x.an=4 then[⟨f.ai,x.type,false⟩]
 else if x.an=5 then[⟨x.ai,x.type,false⟩,⟨x.more,x.type,false⟩]else[⟨f.ai,f.type,!f.indexed⟩]
def Jl(x:aN):List aH:=if x.an=1 then[⟨x.ai,x.type,false⟩]else[]
def cw(c:aI)(x:aN):aI:=⟨c.ai,c.ah.flatMap (cJ x)++Jl x⟩
def dU(c:aI):aX c=true↔aM c.ai=true/\c.ah.length<=8/\(∀f∈c.ah,bS f=true)/\(c.ah.map (·.ai)).Nodup:=by
 rw[bC];refine and_congr_right λ_=>and_congr_right λ_=>⟨λh=>⟨λf hf=> ?_,?_⟩,λ⟨h1,h2⟩j f hj hf=>⟨h1 f (Qaf hf),?_⟩⟩
 .have⟨i,hi⟩:=Qdg hf;exact(h i f (Qad.1 hi).1 hi).1
 .rw[List.Nodup,List.pairwise_iff_getElem];intro i j hi hj hij e;simp only[Qdc]at hi hj;simp only[List.getElem_map]at e;have a1:=(h i _ hi (Qac hi)).2;have a2:=(h j _ hj (Qac hj)).2;rw[e]at a1;omega
 .refine idxOf_hit (k:=j) (x:=f) (λy hy=> ?_) hf (tG.2 rfl);refine wP λe=> ?_;have⟨i,hi⟩:=Qdg hy;have vZ:i<j:=by
   have:=(Qad.1 hi).1;simp at this;omega
  have Zd:=lN hi;rw[List.Nodup,List.pairwise_iff_getElem]at h2;have hl:=(Qad.1 Zd);have hl2:=(Qad.1 hf);refine h2 i j (by simpa using hl.1) (by simpa using hl2.1) vZ ?_;simp only[List.getElem_map,hl.2,hl2.2,e]
structure iI(c:aI)(s:aY)(pre:List aH)(f:aH)(post:List aH):Prop where
 eq:c.ah=pre++f::post
 ai:f.ai=s
 at_:fieldAt c s=pre.length
 pre_:∀g∈pre,g.ai≠s
 post_:∀g∈post,g.ai≠s
def ny(hc:aX c=true)(h:hasB c s=true):∃pre f post,iI c s pre f post:=by
 obtain⟨i,f,ha,hf,rfl⟩:=Bq h;have⟨hi,he⟩:=Qad.1 hf;have SF:=((dU c).1 hc).2.2.2;have Xz:c.ah=c.ah.take i++f::c.ah.drop (i+1):=by
  rw[<-he,List.getElem_cons_drop,List.take_append_drop]
 rw[Xz]at SF;simp only[List.map_append,List.map_cons,List.nodup_append,List.nodup_cons]at SF;refine⟨c.ah.take i,f,c.ah.drop (i+1),Xz,rfl,by rw[ha,Qdb];omega,λg hg e=> ?_,λg hg e=> ?_⟩
 .exact SF.2.2 g.ai (List.mem_map_of_mem hg) f.ai (List.mem_cons_self) e
 .exact SF.2.1.1 (e▸List.mem_map_of_mem (f:=λg:aH=>g.ai) hg)
def Bt {g:aH}(h:g.ai≠x.field):cJ x g=[g]:=by
 unfold cJ;simp[wP h]
def rL {l:List aH}(h:∀g∈l,g.ai≠x.field):l.flatMap (cJ x)=l:=by
 induction l with
 |nil=>rfl
 |cons a r ih=>
  rw[List.flatMap_cons,Bt (h a List.mem_cons_self),ih λg hg=>h g (List.mem_cons_of_mem _ hg)];rfl
def jb(x:aN)(f:aH):List aH:=
 if x.an=2 then[]else if x.an=3 then[⟨x.ai,f.type,f.indexed⟩]else if x.an=4 then[⟨f.ai,x.type,false⟩]
 else if x.an=5 then[⟨x.ai,x.type,false⟩,⟨x.more,x.type,false⟩]else[⟨f.ai,f.type,!f.indexed⟩]
def fA {pre post:List aH}(h:iI c x.field pre f post)(hk:x.an≠1):cw c x=⟨c.ai,pre++jb x f++post⟩:=by
 have e:cJ x f=jb x f:=by unfold cJ jb;rw[h.ai];simp[tG.2 rfl,hk]
 unfold cw Jl;rw[h.eq,List.flatMap_append,List.flatMap_cons,rL h.pre_,rL h.post_,e];simp[hk]
def pR(hk:x.an=1):cw c x=⟨c.ai,c.ah++[⟨x.ai,x.type,false⟩]⟩:=by
 have e:∀l:List aH,l.flatMap (cJ x)=l:=λl=>by
  induction l with
  |nil=>rfl
  |cons a r ih=>rw[List.flatMap_cons,ih];simp[cJ,hk]
 unfold cw Jl;rw[e,if_pos hk]
def Gf(h:hasB c s=false):∀g∈c.ah,g.ai≠s:=by
 intro g hg e;have⟨i,hi⟩:=Qdg hg;have:=uA hi;rw[e]at this;unfold hasB at h;simp at h;omega
def mH {pre post Tj:List aH}(hc:aX ⟨nm,pre++f::post⟩=true)(hl:pre.length+Tj.length+post.length<=8)(hm:∀g∈Tj,bS g=true)(hn:(Tj.map (·.ai)).Nodup)(hd:∀g∈Tj,∀k,k∈pre\/k∈post->k.ai≠g.ai):
 aX ⟨nm,pre++Tj++post⟩=true:=by
 have⟨h1,h2,h3,h4⟩:=(dU _).1 hc;refine(dU _).2 ⟨h1,by simp;omega,λg hg=> ?_,?_⟩
 .simp only[Qch]at hg;rcases hg with(hg|hg)|hg
  .exact h3 g (by simp[hg])
  .exact hm g hg
  .exact h3 g (by simp[hg])
 .simp only[List.map_append,List.map_cons,List.nodup_append,List.nodup_cons]at h4⊢;refine⟨⟨h4.1,hn,λa ha b hb=> ?_⟩,h4.2.1.2,λa ha b hb=> ?_⟩
  .obtain⟨g,hg,rfl⟩:=Qdh.1 ha;obtain⟨k,hk,rfl⟩:=Qdh.1 hb;exact hd k hk g (.inl hg)
  .rcases Qch.1 ha with ha|ha
   .exact h4.2.2 a ha b (List.mem_cons_of_mem _ hb)
   .obtain⟨g,hg,rfl⟩:=Qdh.1 ha;obtain⟨k,hk,rfl⟩:=Qdh.1 hb;exactλe=>hd g hg k (.inr hk) e.symm
def uG(h:bS f=true):aM f.ai=true/\aR f.type=true/\(f.indexed=true->f.type.an<=3):=by
 unfold bS at h;simp only[Qce,Bool.or_eq_true,Bool.not_eq_true',decide_eq_true_eq]at h;exact⟨h.1.1,h.1.2,λhi=>by rcases h.2 with h|h;rw[hi]at h;cases h;exact h⟩
def mI {n:aY}{t:br}{i:Bool}(hn:aM n=true)(ht:aR t=true)(hi:i=true->t.an<=3):bS ⟨n,t,i⟩=true:=by
 unfold bS;cases i with
 |false=>simp[hn,ht]
 |true=>simp[hn,ht,hi rfl]
def C5(hc:aX c=true)(hp:qA c x)(hb:jo c x=true):aX (cw c x)=true:=by
 have⟨h1,h2,h3,h4⟩:=(dU _).1 hc;have hk:x.an=1\/x.an=2\/x.an=3\/x.an=4\/x.an=5\/x.an=6:=by have:=hp.sh;simp only[nu]at this;omega
 by_cases hk1:x.an=1
 .rw[pR hk1];have hb':=hb;unfold jo at hb';rw[if_pos hk1]at hb';simp only[Qce,decide_eq_true_eq,Bool.not_eq_true']at hb';have hno:=Gf hb'.2;refine(dU _).2 ⟨h1,by simp;omega,λg hg=> ?_,?_⟩
  .simp only[Qch,Qdf,List.not_mem_nil,or_false]at hg;rcases hg with hg|rfl
   .exact h3 g hg
   .exact mI (hp.ai (.inl hk1)) (hp.type (.inl hk1)) (λh=>by cases h)
  .simp only[List.map_append,List.map_cons,List.map_nil,List.nodup_append,List.nodup_cons];refine⟨h4,⟨by simp,by simp⟩,λa ha b hb=> ?_⟩;obtain⟨g,hg,rfl⟩:=Qdh.1 ha;simp at hb;subst hb;exact hno g hg
 .have hf:hasB c x.field=true:=by
   have hb':=hb;unfold jo at hb';rw[if_neg hk1]at hb';rcases hk with h|h|h|h|h|h
   .exact absurd h hk1
   all_goals simp[h]at hb';first|exact hb'|exact hb'.1|exact hb'.1.1|exact hb'.1.1.1.1
  have⟨pre,f,post,ha⟩:=ny hc hf;rw[fA ha hk1];have hc':aX ⟨c.ai,pre++f::post⟩=true:=by rw[<-ha.eq];exact hc
  have hlen:pre.length+1+post.length<=8:=by have:=h2;rw[ha.eq]at this;simp at this;omega
  have hfr:=uG (h3 f (by rw[ha.eq];simp));have hold:∀k,k∈pre\/k∈post->k∈c.ah/\k.ai≠x.field:=λk hk=>by
   rcases hk with hk|hk
   .exact⟨by rw[ha.eq];simp[hk],ha.pre_ k hk⟩
   .exact⟨by rw[ha.eq];simp[hk],ha.post_ k hk⟩
  unfold jo at hb;rw[if_neg hk1]at hb;rcases hk with hk|hk|hk|hk|hk|hk
  .exact absurd hk hk1
  .have e:jb x f=[]:=by simp[jb,hk]
   rw[e];exact mH hc' (by simp;omega) (λg hg=>by simp at hg) (by simp) (λg hg=>by simp at hg)
  .have e:jb x f=[⟨x.ai,f.type,f.indexed⟩]:=by simp[jb,hk]
   simp[hk]at hb;rw[e];refine mH hc' (by simp;omega) (λg hg=> ?_) (by simp) (λg hg k hk=> ?_)
   .simp at hg;subst hg;exact mI (hp.ai (.inr (.inl hk))) hfr.2.1 hfr.2.2
   .simp at hg;subst hg;exact Gf hb.2 k (hold k hk).1
  .have e:jb x f=[⟨f.ai,x.type,false⟩]:=by simp[jb,hk]
   rw[e];refine mH hc' (by simp;omega) (λg hg=> ?_) (by simp) (λg hg k hk=> ?_)
   .simp at hg;subst hg;exact mI hfr.1 (hp.type (.inr (.inl hk))) (λh=>by cases h)
   .simp at hg;subst hg;have:=(hold k hk).2;rw[<-ha.ai]at this;exact this
  .have e:jb x f=[⟨x.ai,x.type,false⟩,⟨x.more,x.type,false⟩]:=by simp[jb,hk]
   simp only[hk]at hb;simp at hb;have hne:x.ai≠x.more:=λh=>hb.1.1.2 (by rw[h]);have ho:∀(s:aY),(hasB c s=false\/s.toList=x.field.toList)->∀k,k∈pre\/k∈post->k.ai≠s:=λs hs k hk=>by
    rcases hs with hs|hs
    .exact Gf hs k (hold k hk).1
    .have:s=x.field:=qP (by simp[hs]);rw[this];exact(hold k hk).2
   rw[e];have hl8:c.ah.length<8:=by have:=hb.1.1.1.2;omega
   have hl9:pre.length+1+post.length<8:=by have:=hl8;rw[ha.eq]at this;simp at this;omega
   refine mH hc' (by simp;omega) (λg hg=> ?_) (by simp[hne]) (λg hg k hk=> ?_)
   .simp at hg;rcases hg with rfl|rfl
    .exact mI (hp.ai (.inr (.inr hk))) (hp.type (.inr (.inr hk))) (λh=>by cases h)
    .exact mI (hp.more hk) (hp.type (.inr (.inr hk))) (λh=>by cases h)
   .simp at hg;rcases hg with rfl|rfl
    .exact ho _ hb.1.2 k hk
    .exact ho _ hb.2 k hk
  .have e:jb x f=[⟨f.ai,f.type,!f.indexed⟩]:=by simp[jb,hk]
   simp[hk]at hb;have vq:f.type.an<=3:=by
    have h:=hb.2;unfold wO at h;rw[ha.at_,ha.eq]at h;simpa using h
   rw[e];refine mH hc' (by simp;omega) (λg hg=> ?_) (by simp) (λg hg k hk=> ?_)
   .simp at hg;subst hg;exact mI hfr.1 hfr.2.1 (λ_=>vq)
   .simp at hg;subst hg;have:=(hold k hk).2;rw[<-ha.ai]at this;exact this
inductive lH(c:aI):aG->br->Prop
 |num(n:Int):0<=n->n<=9->lH c (nE n) ⟨1,0⟩
 |txt(s:List UInt8):s∈([[120],[45],[98],[110,111],[97,32,98]]:List (List UInt8))->lH c (tE s) ⟨2,0⟩
 |fld(f:aH)(i:Nat):fieldAt c f.ai=i->c.ah[i]? =some f->lH c (.mk 3 0 f.ai []) f.type
 |ari(s:List UInt8)(a b:aG):s=[42]\/s=[45]\/s=[47]->lH c a ⟨1,0⟩->lH c b ⟨1,0⟩->lH c (Ja s a b) ⟨1,0⟩
 |cat(a b:aG):lH c a ⟨2,0⟩->lH c b ⟨2,0⟩->lH c (Ja [38] a b) ⟨2,0⟩
 |cmp(s:List UInt8)(a b:aG):s=[61]\/s=[62]->lH c a ⟨1,0⟩->lH c b ⟨1,0⟩->lH c (Ja s a b) ⟨1,0⟩
 |len(a:aG):lH c a ⟨2,0⟩->lH c (mD [108,101,110] [a]) ⟨1,0⟩
 |text(a:aG):lH c a ⟨1,0⟩->lH c (mD [116,101,120,116] [a]) ⟨2,0⟩
 |left(a b:aG):lH c a ⟨2,0⟩->lH c b ⟨1,0⟩->lH c (mD [108,101,102,116] [a,b]) ⟨2,0⟩
 |from_(a b:aG):lH c a ⟨2,0⟩->lH c b ⟨1,0⟩->lH c (mD [102,114,111,109] [a,b]) ⟨2,0⟩
 |find(a b:aG):lH c a ⟨2,0⟩->lH c b ⟨2,0⟩->lH c (mD [102,105,110,100] [a,b]) ⟨1,0⟩
 |ite(a b d:aG)(p:Int):p=1\/p=2->lH c a ⟨1,0⟩->lH c b ⟨p,0⟩->lH c d ⟨p,0⟩->lH c (mD [105,102] [a,b,d]) ⟨p,0⟩
def Gg(hc:aX c=true)(hn:∀f∈c.ah,f.ai.data.toList∈names9)(hf:f∈c.ah):lH c (tp f.ai.data.toList) f.type:=by
 have⟨h1,h2,_⟩:=qN _ (hn f hf);have⟨i,h3,h4⟩:=wM hc hf;unfold tp;rw[if_neg h1,if_neg h2];unfold fE;rw[Jj];exact .fld f i h3 h4
def NL(hc:aX c=true)(hn:∀f∈c.ah,f.ai.data.toList∈names9)(h:tF c s):s.data.toList∈[55]::names9/\lH c (tp s.data.toList) ⟨1,0⟩:=by
 rcases h with rfl|⟨f,hf,ht,rfl⟩
 .exact⟨by decide, .num 7 (by omega) (by omega)⟩
 .exact⟨List.mem_cons_of_mem _ (hn f hf),ht▸Gg hc hn hf⟩
def Jm(hc:aX c=true)(hn:∀f∈c.ah,f.ai.data.toList∈names9)(h:pQ c s):s.data.toList∈[34,97,32,98,34]::names9/\lH c (tp s.data.toList) ⟨2,0⟩:=by
 rcases h with rfl|⟨f,hf,ht,rfl⟩
 .exact⟨by decide, .txt [97,32,98] (by decide)⟩
 .exact⟨List.mem_cons_of_mem _ (hn f hf),ht▸Gg hc hn hf⟩
def Ru {num txt:aG}(hx:lH c num ⟨1,0⟩)(hy:lH c txt ⟨2,0⟩):∀x∈oH num txt,lH c x ⟨1,0⟩:=by
 intro x hm;simp only[oH,Qdf,List.not_mem_nil,or_false]at hm;rcases hm with rfl|rfl|rfl|rfl|rfl|rfl|rfl
 .exact .num 3 (by omega) (by omega)
 .exact hx
 .exact .ari _ _ _ (.inr (.inl rfl)) (.ari _ _ _ (.inl rfl) hx (.num 2 (by omega) (by omega))) (.num 1 (by omega) (by omega))
 .exact .len _ hy
 .exact .ite _ _ _ 1 (.inl rfl) (.cmp _ _ _ (.inr rfl) hx (.num 2 (by omega) (by omega))) hx (.ari _ _ _ (.inr (.inl rfl)) (.num 0 (by omega) (by omega)) hx)
 .exact .find _ _ (.txt _ (by decide)) hy
 .exact .ari _ _ _ (.inr (.inr rfl)) hx hx
def NM {num txt:aG}(hx:lH c num ⟨1,0⟩)(hy:lH c txt ⟨2,0⟩):∀x∈mE num txt,lH c x ⟨2,0⟩:=by
 intro x hm;simp only[mE,Qdf,List.not_mem_nil,or_false]at hm;rcases hm with rfl|rfl|rfl|rfl|rfl|rfl|rfl
 .exact .txt _ (by decide)
 .exact hy
 .exact .cat _ _ (.cat _ _ hy (.txt _ (by decide))) hy
 .exact .text _ hx
 .exact .left _ _ hy (.num 2 (by omega) (by omega))
 .exact .from_ _ _ hy (.num 3 (by omega) (by omega))
 .exact .ite _ _ _ 2 (.inr rfl) (.cmp _ _ _ (.inl rfl) hx (.num 1 (by omega) (by omega))) hy (.txt _ (by decide))
structure NN(c:aI)(t:br)(s:List UInt8)(x:aG):Prop where
 parse:eu s=some x
 an:jw c x t
 ty:lH c x t
def C6(hc:aX c=true)(hn:∀f∈c.ah,f.ai.data.toList∈names9){t:br}(h:ig c t s)(hs:s.data.toList≠[]):∃x,NN c t s.data.toList x:=by
 rcases h with⟨rfl,num,txt,h1,h2,h3⟩|⟨rfl,num,txt,h1,h2,h3⟩|⟨h1,h2,h3⟩
 .have⟨a1,a2⟩:=Jk hc hn h1;have⟨b1,b2⟩:=C2 hc hn h2;have hm:s.data.toList∈Ur num.data.toList txt.data.toList:=by
   simp only[oN,Qdf,List.not_mem_nil,or_false]at h3;rcases h3 with rfl|rfl|rfl|rfl|rfl|rfl|rfl|rfl
   .exact absurd rfl hs
   all_goals simp[Ur,Joins.data_append]
  have hall:=List.all_eq_true.1 (List.all_eq_true.1 Nq _ a1) _ b1;have⟨x,hx,hok⟩:=NI hall rfl hm;exact⟨x,tq hok,KC a2 b2 x hx,Ru (NL hc hn h1).2 (Jm hc hn h2).2 x hx⟩
 .have⟨a1,a2⟩:=Jk hc hn h1;have⟨b1,b2⟩:=C2 hc hn h2;have hm:s.data.toList∈FV num.data.toList txt.data.toList:=by
   simp only[mG,Qdf,List.not_mem_nil,or_false]at h3;rcases h3 with rfl|rfl|rfl|rfl|rfl|rfl|rfl|rfl
   .exact absurd rfl hs
   all_goals simp[FV,Joins.data_append]
  have hall:=List.all_eq_true.1 (List.all_eq_true.1 Kp _ a1) _ b1;have⟨x,hx,hok⟩:=NI hall rfl hm;exact⟨x,tq hok,Gc a2 b2 x hx,NM (NL hc hn h1).2 (Jm hc hn h2).2 x hx⟩
 .rcases h3 with rfl|⟨f,hf,ht,rfl⟩
  .exact absurd rfl hs
  .have h9:=hn f hf;have hok:=List.all_eq_true.1 Kq _ h9;have hk:=wN hc hn hf;have hk2:=Gg hc hn hf;have⟨q1,q2,_⟩:=qN _ h9;unfold tp at hk hk2;rw[if_neg q1,if_neg q2,ht]at hk hk2;exact⟨_,tq hok,hk,hk2⟩
def oO(c:aI)(t:br)(s:aY):Prop:=s.data.toList=[]\/∃x,NN c t s.data.toList x
theorem oO.nV {t:br}(h:oO c t s):rK c t s:=h.imp_right λ⟨x,hx⟩=>⟨x,hx.parse,hx.an⟩
structure jc(c:aI)(x:aN):Prop where
 pre:qA c x
 cX:oO c x.type x.cX
 bZ:oO c x.type x.bZ
 name9:(x.an=1\/x.an=3\/x.an=5)->x.ai.data.toList∈names9
 more9:x.an=5->x.more.data.toList∈names9
structure cN(c:aI):Prop where
 right:aX c=true
 names:∀f∈c.ah,f.ai.data.toList∈names9
 small:c.ai.size<=20
def Bu:∀s∈names9,s.length<=20:=by decide
def wQ(h:s.data.toList∈names9):s.size<=20:=by have:=Bu _ h;rwa [bG]at this
def KD(hg:jc c x)(hf:f.ai.data.toList∈names9):∀g∈jb x f,g.ai.data.toList∈names9:=by
 intro g h;unfold jb at h;split at h
 .simp at h
 .split at h
  .rename_i hk;simp at h;subst h;exact hg.name9 (.inr (.inl hk))
  .split at h
   .simp at h;subst h;exact hf
   .split at h
    .rename_i hk;simp at h;rcases h with rfl|rfl
     .exact hg.name9 (.inr (.inr hk))
     .exact hg.more9 hk
    .simp at h;subst h;exact hf
def Rv(hs:nu x)(hb:jo c x=true)(hk1:x.an≠1):hasB c x.field=true:=by
 have hk:x.an=1\/x.an=2\/x.an=3\/x.an=4\/x.an=5\/x.an=6:=by simp only[nu]at hs;omega
 unfold jo at hb;rw[if_neg hk1]at hb;rcases hk with h|h|h|h|h|h
 .exact absurd h hk1
 all_goals simp[h]at hb;first|exact hb|exact hb.1|exact hb.1.1|exact hb.1.1.1.1
def NP(hc:cN c)(hg:jc c x)(hb:jo c x=true):cN (cw c x):=by
 refine⟨C5 hc.right hg.pre hb,?_,hc.small⟩;by_cases hk:x.an=1
 .rw[pR hk];intro f hf;simp only[Qch,Qdf,List.not_mem_nil,or_false]at hf;rcases hf with hf|rfl
  .exact hc.names f hf
  .exact hg.name9 (.inl hk)
 .have⟨pre,f,post,ha⟩:=ny hc.right (Rv hg.pre.sh hb hk);rw[fA ha hk];have kx:∀g,g∈pre++f::post->g.ai.data.toList∈names9:=λg hg=>hc.names g (by rw[ha.eq];exact hg);intro g h;simp only[Qch]at h;rcases h with(h|h)|h
  .exact kx g (by simp[h])
  .exact KD hg (kx f (by simp)) g h
  .exact kx g (by simp[h])
inductive dm:aI->List aN->aI->Prop
 |nil(c:aI):dm c [] c
 |cons(c d:aI)(x:aN)(l:List aN):jc c x->jo c x=true->dm (cw c x) l d->dm c (x::l) d
theorem dm.ok {l:List aN}(h:dm c l d)(hc:cN c):cN d:=by
 induction h with
 |nil c=>exact hc
 |cons c d x l hg hb _ ih=>exact ih (NP hc hg hb)
theorem dm.snoc {l:List aN}(h:dm c l d)(hg:jc d x)(hb:jo d x=true):dm c (l++[x]) (cw d x):=by
 induction h with
 |nil c=>exact .cons _ _ _ _ hg hb (.nil _)
 |cons c d y l h1 h2 _ ih=>exact .cons _ _ _ _ h1 h2 (ih hg hb)
theorem dm.split {l:List aN}(h:dm c l d)(i:Nat):∃e,dm c (l.take i) e/\dm e (l.drop i) d:=by
 induction h generalizing i with
 |nil c=>exact⟨c,by simpa using dm.nil c,by simpa using dm.nil c⟩
 |cons c d y l h1 h2 h3 ih=>
  cases i with
  |zero=>exact⟨c, .nil c, .cons _ _ _ _ h1 h2 h3⟩
  |succ i=>
   have⟨e,k1,k2⟩:=ih i;exact⟨e, .cons _ _ _ _ h1 h2 k1,k2⟩
theorem dm.eq {e:aI}{l:List aN}(h:dm c l d)(k:dm c l e):d=e:=by
 induction h with
 |nil c=>cases k;rfl
 |cons c d y l h1 h2 h3 ih=>cases k with|cons _ _ _ _ _ _ k3=>exact ih k3
def pS(hK:W=K)(o:Obj):(W.alloc o).heap[K]? =some o:=by subst hK;exact Qbh W o
def zW {α:Type} [aD α]{xs:List α}{cells:Array aA}(css:List (List aA))(hM:¬M K)(hK:bW W K (.cells cells t (0,0)))(hc:cells.toList=css.flatten)(hl:css.length=xs.length)
 (hr:∀(i:Nat)(cs:List aA)(x:α),css[i]? =some cs->xs[i]? =some x->aD.rep M W cs x)(hm:xs.length<=maxLen):ab M W (xL (K,0) xs.length xs.length) xs:=by
 have hsz:∀(n:Nat)(css:List (List aA))(xs:List α),css.length=n->xs.length=n->(∀(i:Nat)(cs:List aA)(x:α),css[i]? =some cs->xs[i]? =some x->aD.rep M W cs x)->css.flatten.length=n*aD.size α:=by
  intro n;induction n with
  |zero=>intro css xs h1 _ _;rw[List.length_eq_zero_iff.1 h1];simp
  |succ n ih=>
   intro css xs h1 h2 h;match css,xs,h1,h2 with
   |c::css,x::xs,h1,h2=>
    rw[List.flatten_cons,Qda,ih css xs (by simpa using h1) (by simpa using h2) (λi cs y hc hy=>h (i+1) cs y (by simpa using hc) (by simpa using hy)),aD.len (h 0 c x rfl rfl),Nat.succ_mul];omega
 refine⟨css,⟨hsz _ css xs hl rfl hr,some ⟨K,0,none⟩,xs.length,rfl,bT,hm,λ_=>⟨K,0,rfl,hM,(Qaa.1 hK).1,λj u hu=> ?_⟩⟩,hl,hr⟩;rw[Nat.zero_add];rw[<-hc]at hu;exact cell_of_heap hK (by simpa using hu)
def Gh(f:aH):List aA:=[xS f.ai,xI f.type.an,xI f.type.of,xB f.indexed]
def mJ(f:aH)(hs:f.ai.size<=maxLen)(hM:¬M K)(hK:bW W K (xK #[f.ai,f.type.an,f.type.of,xB f.indexed] t)):ab M W (xL (K,0) 1 1) [f]:=
 zW [Gh f] hM hK rfl rfl (λi cs x hc hx=>by
  match i with
  |0=>simp at hc hx;subst hc hx;exact⟨rfl,hs⟩
  |n+1=>simp at hc) (by unfold maxLen;simp)
def Gi(f g:aH)(hs:f.ai.size<=maxLen)(hg:g.ai.size<=maxLen)(hM:¬M K)(hK:bW W K (xK #[f.ai,f.type.an,f.type.of,xB f.indexed,g.ai,g.type.an,g.type.of,xB g.indexed] t)):ab M W (xL (K,0) 2 2) [f,g]:=
 zW [Gh f,Gh g] hM hK rfl rfl (λi cs x hc hx=>by
  match i with
  |0=>simp at hc hx;subst hc hx;exact⟨rfl,hs⟩
  |1=>simp at hc hx;subst hc hx;exact⟨rfl,hg⟩
  |n+2=>simp at hc) (by unfold maxLen;simp)
def Gj(x:aN)(f:aH)(hk:x.an=1\/x.an=2\/x.an=3\/x.an=4\/x.an=5\/x.an=6)(hs:f.ai.size<=maxLen)(hs1:x.ai.size<=maxLen)(hs2:x.more.size<=maxLen)(M:aV)(w:ax)(hM:Bd M w):
 xG 244 #[.agg #[xS f.ai,xI f.type.an,xI f.type.of,xB f.indexed], .agg #[xI x.an,xS x.field,xS x.ai,xS x.more,xI x.type.an,xI x.type.of,xS x.cX,xS x.bZ]] w λv w'=>ab M w' v (cJ x f):=by
 have XA:∀K,w.heap.size<=K->¬M K:=λK h hm=>by have:=hM K hm;omega
 obtain⟨k,fi,n,m,⟨tk,tf⟩,e,o⟩:=x;obtain⟨fn,⟨fk,fo⟩,ix⟩:=f;dsimp only at*;by_cases hq:(fn.toList==fi.toList)=true
 .rcases hk with rfl|rfl|rfl|rfl|rfl|rfl
  .have ht:cJ ⟨1,fi,n,m,⟨tk,tf⟩,e,o⟩ ⟨fn,⟨fk,fo⟩,ix⟩=[⟨fn,⟨fk,fo⟩,ix⟩]:=by simp[cJ]
   rw[ht];have HT:=ag ht;go_enter func244,ntmps244;go_wp2;go_ret;exact⟨_,rfl,mJ ⟨fn,⟨fk,fo⟩,ix⟩ hs (XA _ (by omega)) (pS (by simp) _),(by repeat(first|exact Qbg _ _|refine Below.setCell ?_ (by simp<;>omega) _|refine Below.alloc ?_ (by simp<;>omega) _))⟩
  .have ht:cJ ⟨2,fi,n,m,⟨tk,tf⟩,e,o⟩ ⟨fn,⟨fk,fo⟩,ix⟩=[]:=by simp[cJ,cq,hq]
   rw[ht];have HT:=ag ht;go_enter func244,ntmps244;go_wp2;go_ret;exact⟨_,rfl,ab.nil _ _,(by repeat(first|exact Qbg _ _|refine Below.setCell ?_ (by simp<;>omega) _|refine Below.alloc ?_ (by simp<;>omega) _))⟩
  .have ht:cJ ⟨3,fi,n,m,⟨tk,tf⟩,e,o⟩ ⟨fn,⟨fk,fo⟩,ix⟩=[⟨n,⟨fk,fo⟩,ix⟩]:=by simp[cJ,cq,hq]
   rw[ht];have HT:=ag ht;go_enter func244,ntmps244;go_wp2;go_ret;exact⟨_,rfl,mJ ⟨n,⟨fk,fo⟩,ix⟩ hs1 (XA _ (by omega)) (pS (by simp) _),(by repeat(first|exact Qbg _ _|refine Below.setCell ?_ (by simp<;>omega) _|refine Below.alloc ?_ (by simp<;>omega) _))⟩
  .have ht:cJ ⟨4,fi,n,m,⟨tk,tf⟩,e,o⟩ ⟨fn,⟨fk,fo⟩,ix⟩=[⟨fn,⟨tk,tf⟩,false⟩]:=by simp[cJ,cq,hq]
   rw[ht];have HT:=ag ht;go_enter func244,ntmps244;go_wp2;go_ret;exact⟨_,rfl,mJ ⟨fn,⟨tk,tf⟩,false⟩ hs (XA _ (by omega)) (pS (by simp) _),(by repeat(first|exact Qbg _ _|refine Below.setCell ?_ (by simp<;>omega) _|refine Below.alloc ?_ (by simp<;>omega) _))⟩
  .have ht:cJ ⟨5,fi,n,m,⟨tk,tf⟩,e,o⟩ ⟨fn,⟨fk,fo⟩,ix⟩=[⟨n,⟨tk,tf⟩,false⟩,⟨m,⟨tk,tf⟩,false⟩]:=by simp[cJ,cq,hq]
   rw[ht];have HT:=ag ht;go_enter func244,ntmps244;go_wp2;go_ret;exact⟨_,rfl,Gi ⟨n,⟨tk,tf⟩,false⟩ ⟨m,⟨tk,tf⟩,false⟩ hs1 hs2 (XA _ (by omega)) (pS (by simp) _),(by repeat(first|exact Qbg _ _|refine Below.setCell ?_ (by simp<;>omega) _|refine Below.alloc ?_ (by simp<;>omega) _))⟩
  .have ht:cJ ⟨6,fi,n,m,⟨tk,tf⟩,e,o⟩ ⟨fn,⟨fk,fo⟩,ix⟩=[⟨fn,⟨fk,fo⟩,!ix⟩]:=by simp[cJ,cq,hq]
   rw[ht];have HT:=ag ht;go_enter func244,ntmps244;go_wp2;go_ret;exact⟨_,rfl,mJ ⟨fn,⟨fk,fo⟩,!ix⟩ hs (XA _ (by omega)) (pS (by simp) _),(by repeat(first|exact Qbg _ _|refine Below.setCell ?_ (by simp<;>omega) _|refine Below.alloc ?_ (by simp<;>omega) _))⟩
 .have ht:cJ ⟨k,fi,n,m,⟨tk,tf⟩,e,o⟩ ⟨fn,⟨fk,fo⟩,ix⟩=[⟨fn,⟨fk,fo⟩,ix⟩]:=by simp[cJ,cq,hq]
  rw[ht];have HT:=ag ht;go_enter func244,ntmps244;go_wp2;go_ret;exact⟨_,rfl,mJ ⟨fn,⟨fk,fo⟩,ix⟩ hs (XA _ (by omega)) (pS (by simp) _),(by repeat(first|exact Qbg _ _|refine Below.setCell ?_ (by simp<;>omega) _|refine Below.alloc ?_ (by simp<;>omega) _))⟩
def aJ.an:aJ->Int| .mk k _ _ _=>k
def aJ.num:aJ->Int| .mk _ n _ _=>n
def aJ.str:aJ->aY| .mk _ _ s _=>s
def aJ.list:aJ->List aJ| .mk _ _ _ l=>l
def cr(k:Int)(v:aJ):List Int:=if v.an=k then[v.num]else(v.list.filter λi=>decide (i.an=k)).map aJ.num
def kO {k ay j:Int}{v:aJ}(h:lJ k ay v)(hj:j=3\/j=4):(v.list=[]/\(v.an=j->1<=v.num/\v.num<=ay))/\(k=1\/k=2->v.an≠j):=by
 rcases h with⟨rfl,n,rfl,_⟩|⟨rfl,s,rfl,_⟩|⟨hk,rfl|⟨n,rfl,h1,h2⟩⟩
 .exact⟨⟨rfl,λh=>by simp[aJ.an]at h;omega⟩,λ_ h=>by simp[aJ.an]at h;omega⟩
 .exact⟨⟨rfl,λh=>by simp[aJ.an]at h;omega⟩,λ_ h=>by simp[aJ.an]at h;omega⟩
 .exact⟨⟨rfl,λh=>by simp[aJ.an]at h;omega⟩,λh=>by omega⟩
 .exact⟨⟨rfl,λ_=>⟨h1,h2⟩⟩,λh=>by omega⟩
def qQ {t:br}{ay j:Int}{v:aJ}(h:dI t ay v)(hj:j=3\/j=4):∀n∈cr j v,1<=n/\n<=ay:=by
 intro n hn;unfold cr at hn;rcases h with⟨ht,l,rfl,hl,ha⟩|⟨ht,h1⟩
 .rw[if_neg (by simp[aJ.an];omega)]at hn;obtain⟨i,hi,rfl⟩:=Qdh.1 hn;have⟨h2,h3⟩:=List.mem_filter.1 hi;exact(kO (ha i h2) hj).1.2 (by simpa using h3)
 .have⟨⟨h2,h3⟩,_⟩:=kO h1 hj;by_cases hk:v.an=j
  .rw[if_pos hk]at hn;simp at hn;subst hn;exact h3 hk
  .rw[if_neg hk,h2]at hn;simp at hn
def Gr {t:br}{ay j:Int}{v:aJ}(h:dI t ay v)(hj:j=3\/j=4)(ht:t.an=1\/t.an=2):cr j v=[]:=by
 unfold cr;rcases h with⟨h5,_⟩|⟨_,h1⟩
 .omega
 .have⟨⟨h2,_⟩,h3⟩:=kO h1 hj;rw[if_neg (h3 ht),h2];rfl
def kz(t:br):aJ:=if t.an=3\/t.an=4 then .mk 0 0 ow []else .mk t.an 0 ow []
def Jr {t:br}(ht:aR t=true)(ay:Int):dI t ay (kz t)/\cr 3 (kz t)=[]:=by
 unfold aR at ht;by_cases h5:t.an=5
 .have e:kz t= .mk 5 0 ow []:=by unfold kz;rw[if_neg (by omega),h5]
  rw[e];exact⟨.inl ⟨h5,[],rfl,by simp,λx h=>by cases h⟩,rfl⟩
 .rw[if_neg h5]at ht;simp at ht;by_cases Cl:t.an=3\/t.an=4
  .have e:kz t= .mk 0 0 ow []:=by unfold kz;rw[if_pos Cl]
   rw[e];exact⟨.inr ⟨h5, .inr (.inr ⟨Cl, .inl rfl⟩)⟩,rfl⟩
  .have e:kz t= .mk t.an 0 ow []:=by unfold kz;rw[if_neg Cl]
   rw[e];refine⟨.inr ⟨h5,?_⟩,by simp[cr,aJ.an,aJ.list];omega⟩;have:t.an=1\/t.an=2:=by omega
   rcases this with h|h
   .exact .inl ⟨h,0,by rw[h],by omega,by omega⟩
   .exact .inr (.inl ⟨h,ow,by rw[h],by decide,ja [] (by decide) (by decide)⟩)
def Gs(c:aI)(e:aG)(rs:List (List Int)):List Int:=if e.an=3 then rs.getD (fieldAt c e.str).toNat []else[]
def kH(c:aI)(s:aY)(rs:List (List Int)):List Int:=match eu s.data.toList with|some e=>Gs c e rs|none=>[]
def lS(c:aI)(t:br)(ay:Int)(s:aY)(vs:List aJ)(v:aJ):Prop:=dI t ay v/\cr 3 v=kH c s (vs.map (cr 3))
def nA(c:aI)(t:br)(ay:Int)(e:aG)(vs:List aJ)(v:aJ):Prop:=dI t ay v/\(e.an=3->vs[(fieldAt c e.str).toNat]? =some v)
def NZ {c:aI}{e:aG}{t:br}(h:lH c e t):e.an=3\/t.an=1\/t.an=2:=by
 cases h<;>first|exact .inl rfl|exact .inr (.inl rfl)|exact .inr (.inr rfl)|skip
 rename_i hp _ _ _;exact .inr hp
def KN {c:aI}{t:br}{ay:Int}{e:aG}{vs:List aJ}{v:aJ}(hp:eu s.data.toList=some e)(ht:lH c e t)(h:nA c t ay e vs v):lS c t ay s vs v:=by
 refine⟨h.1,?_⟩;unfold kH;rw[hp];unfold Gs;by_cases hk:e.an=3
 .simp only[if_pos hk];rw[List.getD_eq_getElem?_getD,List.getElem?_map,h.2 hk];rfl
 .simp only[if_neg hk];exact Gr h.1 (.inl rfl) ((NZ ht).resolve_left hk)
def N0 {c:aI}{t:br}{ay:Int}{vs:List aJ}(hs:s.data.toList=[])(ht:aR t=true):lS c t ay s vs (kz t):=by
 refine⟨(Jr ht ay).1,?_⟩;rw[(Jr ht ay).2];unfold kH;rw[hs];have:eu []=none:=by decide
 rw[this]
def l6(c:aI)(x:aN)(rs:List (List Int)):List (List Int):=
 if x.an=1 then rs++[kH c x.cX rs]
 else if x.an=2 then rs.take (fieldAt c x.field).toNat++rs.drop ((fieldAt c x.field).toNat+1)
 else if x.an=4 then rs.take (fieldAt c x.field).toNat++kH c x.cX rs::rs.drop ((fieldAt c x.field).toNat+1)
 else if x.an=5 then rs.take (fieldAt c x.field).toNat++kH c x.cX rs::kH c x.bZ rs::rs.drop ((fieldAt c x.field).toNat+1)
 else rs
def gZ(c:aI)(x:aN)(ay:Int)(vs vs':List aJ):Prop:=bA (cw c x).ah ay vs'/\vs'.map (cr 3)=l6 c x (vs.map (cr 3))
theorem bA.nil(ay:Int):bA [] ay []:=⟨rfl,λi f v h=>by simp at h⟩
theorem bA.cons {f:aH}{fs:List aH}{ay:Int}{v:aJ}{vs:List aJ}(h:dI f.type ay v)(k:bA fs ay vs):bA (f::fs) ay (v::vs):=
 ⟨by simp[k.1],λi g u hg hu=>by
   cases i with
   |zero=>simp at hg hu;subst hg hu;exact h
   |succ i=>exact k.2 i g u (by simpa using hg) (by simpa using hu)⟩
theorem bA.Gt {f:aH}{fs:List aH}{ay:Int}{vs:List aJ}(h:bA (f::fs) ay vs):∃v us,vs=v::us/\dI f.type ay v/\bA fs ay us:=by
 obtain⟨h1,h2⟩:=h;cases vs with
 |nil=>simp at h1
 |cons v us=>exact⟨v,us,rfl,h2 0 f v rfl rfl,by simpa using h1,λi g u hg hu=>h2 (i+1) g u (by simpa using hg) (by simpa using hu)⟩
theorem bA.app {fs gs:List aH}{ay:Int}{vs:List aJ}(h:bA fs ay vs)(k:bA gs ay us):bA (fs++gs) ay (vs++us):=by
 induction fs generalizing vs with
 |nil=>have:=h.1;simp at this;subst this;exact k
 |cons f fs ih=>
  obtain⟨v,vs',rfl,h1,h2⟩:=h.Gt;exact(ih h2).cons h1
theorem bA.Yt {fs gs:List aH}{ay:Int}{vs:List aJ}(h:bA (fs++gs) ay vs):bA fs ay (vs.take fs.length)/\bA gs ay (vs.drop fs.length):=by
 induction fs generalizing vs with
 |nil=>exact⟨by simpa using bA.nil ay,by simpa using h⟩
 |cons f fs ih=>
  obtain⟨v,vs',rfl,h1,h2⟩:=bA.Gt h;have⟨k1,k2⟩:=ih h2;exact⟨k1.cons h1,by simpa using k2⟩
theorem bA.ny {fs:List aH}{pre post:List aH}{f:aH}{ay:Int}{vs:List aJ}(h:bA fs ay vs)(e:fs=pre++f::post):bA pre ay (vs.take pre.length)/\bA post ay (vs.drop (pre.length+1))/\∃v,vs[pre.length]? =some v/\dI f.type ay v:=by
 subst e;have⟨h1,h2⟩:=h.Yt;have⟨v,us,e,h3,h4⟩:=h2.Gt;refine⟨h1,?_,v,?_,h3⟩
 .rw[<-List.drop_drop,e];simpa using h4
 .have:(vs.drop pre.length)[0]? =some v:=by rw[e];rfl
  simpa using this
def N2 {c:aI}{x:aN}{ay:Int}{vs:List aJ}{v:aJ}(hk:x.an=1)(h:bA c.ah ay vs)(ht:lS c x.type ay x.cX vs v):gZ c x ay vs (vs++[v]):=by
 refine⟨?_,?_⟩
 .rw[pR hk];exact h.app ((bA.nil ay).cons (f:=⟨x.ai,x.type,false⟩) ht.1)
 .unfold l6;rw[if_pos hk,List.map_append,<-ht.2];rfl
section
variable {c:aI}{x:aN}{ay:Int}{vs:List aJ}{pre post:List aH}{f:aH}
def KO(ha:iI c x.field pre f post)(hk:x.an=2)(h:bA c.ah ay vs):gZ c x ay vs (vs.take pre.length++vs.drop (pre.length+1)):=by
 have⟨h1,h2,_⟩:=h.ny ha.eq;refine⟨?_,?_⟩
 .rw[fA ha (by omega)];have e:jb x f=[]:=by simp[jb,hk]
  rw[e,List.append_nil];exact h1.app h2
 .unfold l6;rw[if_neg (by omega),if_pos hk,ha.at_,List.map_append,List.map_take,List.map_drop];rfl
def KP(ha:iI c x.field pre f post)(hk:x.an=3\/x.an=6)(h:bA c.ah ay vs):gZ c x ay vs vs:=by
 have⟨h1,h2,v,hv,h3⟩:=h.ny ha.eq;have e0:vs=vs.take pre.length++v::vs.drop (pre.length+1):=by
  have⟨hl,he⟩:=Qad.1 hv;rw[<-he,List.getElem_cons_drop,List.take_append_drop]
 refine⟨?_,?_⟩
 .rw[fA ha (by omega)];obtain⟨g,e,hg⟩:∃g:aH,jb x f=[g]/\g.type=f.type:=by
   rcases hk with hk|hk
   .exact⟨⟨x.ai,f.type,f.indexed⟩,by simp[jb,hk],rfl⟩
   .exact⟨⟨f.ai,f.type,!f.indexed⟩,by simp[jb,hk],rfl⟩
  rw[e,e0,List.append_assoc];exact h1.app (h2.cons (by rw[hg];exact h3))
 .unfold l6;rw[if_neg (by omega),if_neg (by omega),if_neg (by omega),if_neg (by omega)]
def KQ(ha:iI c x.field pre f post)(hk:x.an=4)(h:bA c.ah ay vs){v:aJ}(ht:lS c x.type ay x.cX vs v):gZ c x ay vs (vs.take pre.length++v::vs.drop (pre.length+1)):=by
 have⟨h1,h2,_⟩:=h.ny ha.eq;refine⟨?_,?_⟩
 .rw[fA ha (by omega)];have e:jb x f=[⟨f.ai,x.type,false⟩]:=by simp[jb,hk]
  rw[e,List.append_assoc];exact h1.app (h2.cons ht.1)
 .unfold l6;rw[if_neg (by omega),if_neg (by omega),if_pos hk,ha.at_,List.map_append,List.map_cons,List.map_take,List.map_drop,<-ht.2];rfl
def Gu(ha:iI c x.field pre f post)(hk:x.an=5)(h:bA c.ah ay vs){v u:aJ}(ht:lS c x.type ay x.cX vs v)(hu:lS c x.type ay x.bZ vs u):gZ c x ay vs (vs.take pre.length++v::u::vs.drop (pre.length+1)):=by
 have⟨h1,h2,_⟩:=h.ny ha.eq;refine⟨?_,?_⟩
 .rw[fA ha (by omega)];have e:jb x f=[⟨x.ai,x.type,false⟩,⟨x.more,x.type,false⟩]:=by simp[jb,hk]
  rw[e,List.append_assoc];exact h1.app ((h2.cons hu.1).cons ht.1)
 .unfold l6;rw[if_neg (by omega),if_neg (by omega),if_neg (by omega),if_pos hk,ha.at_,List.map_append,List.map_cons,List.map_cons,List.map_take,List.map_drop,<-ht.2,<-hu.2];rfl
end
def pU:aI->List aN->List (List Int)->List (List Int)
 |_,[],rs=>rs
 |c,x::l,rs=>pU (cw c x) l (l6 c x rs)
def BA(c d:aI)(l:List aN)(x:aN)(rs:List (List Int))(h:dm c l d):pU c (l++[x]) rs=l6 d x (pU c l rs):=by
 induction h generalizing rs with
 |nil c=>rfl
 |cons c d y l _ _ _ ih=>exact ih _
end Go.Proofs.YtepaofffbkfodaaGreatDoor
