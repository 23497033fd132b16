/- A part of MarkAsks's proof; no condition. -/
import Derived.Test.YtccpcfcochffcaaGreatDoorM04
import Derived.Test.YtccpcfcochffcaaGreatDoorM05
set_option linter.all false
set_option maxHeartbeats 8000000
set_option maxRecDepth 100000
namespace Go.Proofs.YtccpcfcochffcaaGreatDoor
open Tryz
open Go.RowKit
variable{f:ay}{s nm:aT}{t:TypeId}{c0 c1 c2 c3:an}{g K:Nat}{W w wx w':aj}{o o0 o1:Obj}{x:aB}{c d:az}{M:aS}{us:List au}
def UA(c:az)(x:ax)(t:aR):Prop:=∀(M:aS)(w:aj)(v fv:an),bS M w v x->ab M w fv c.fields->
 xC 231 #[v, .agg #[xS c.name,fv]] w (cN (.tuple #[.agg #[xI t.kind,xI t.of],xB true]) w)
def uF(c:az)(s:aT)(l:List ax)(t:aR)(H:UA c (.mk 6 0 s l) t):jk c (.mk 6 0 s l) t:=by
 intro M w v fv gz bR;have uf:=af gz;have im:=af bR;obtain⟨a,cap,rfl,_⟩:=eA gz;obtain⟨fa,fc,rfl,_⟩:=bR.open_;have HC:Hd (∀W,aq w W->xC 231 #[.agg #[xI 6,xI 0,xS s,xL a l.length cap], .agg #[xS c.name,xL fa c.fields.length fc]] W (cN (.tuple #[.agg #[xI t.kind,xI t.of],xB true]) W)):=λW hb=>H M W _ _ (uf.o.below hb) (im.o.below hb);go_enter func218,ntmps218;go_wp2_with fail;refine cG (HC.o _ (by exact(bO.alloc (by simp) _).alloc (by simp;omega) _)) λw1 aC=> ?_;have HK:=af ((eK.new w _ _).below aC);obtain⟨r0,r1⟩:=ah HK.o.2.2.1;obtain⟨g0,g1⟩:=nu HK.o.2.2.1;go_wp2_with fail;refine Qae (v:= .tuple #[.agg #[xI t.kind,xI t.of],xB true]) (by simp[results,results218,go_sem,r0,r1]) rfl ⟨rfl,?_⟩;exact(HK.o.2.2.2.1.setCell (by simp;omega) _).setCell (by simp;omega) _
def call5(c:az)(s:List UInt8)(hs:s∈nz)(l:List ax)(hl:l.length=(fw s).length)(hp:∀(i:Nat)(e:ax)(u:UInt8),l[i]? =some e->(fw s)[i]? =some u->fX c e (partOf u)):jk c (.mk 6 0 (bL s) l) (sE s):=
 uF c _ l _ (λM w v fv h1 h2=>SI c s hs l hl hp M w v fv h1 h2)
def SJ(c:az)(x:ax)(t:aR)(H:jk c x t)(hn:ir x=true)(hd:kR x<=8)(hs:eo x<=40)(hc:aM c=true)(fS:c.name.size<=maxLen)(M:aS)(w:aj)(v fv:an)(gz:bS M w v x)(bR:ab M w fv c.fields):
 xC 201 #[v, .agg #[xS c.name,fv]] w (cN (.tuple #[.agg #[xI t.kind,xI t.of],xI 0]) w):=by
 obtain⟨xk,xn,xs,xl⟩:=x;have uf:=af gz;have im:=af bR;obtain⟨a,cap,rfl,_⟩:=eA gz;obtain⟨fa,fc,rfl,_⟩:=bR.open_;have HR:Hd (∀W,aq w W->xC 217 #[.agg #[xI xk,xI xn,xS xs,xL a xl.length cap]] W (cN (xB true) W)):=λW hb=>ym M W _ _ (uf.o.below hb) hn hd hs;have QQ:Hd (∀W,aq w W->xC 174 #[.agg #[xS c.name,xL fa c.fields.length fc]] W (cN (xB true) W)):=λW hb=>ko M _ W c (im.o.below hb) fS hc;have HC:Hd (∀W,aq w W->xC 218 #[.agg #[xI xk,xI xn,xS xs,xL a xl.length cap], .agg #[xS c.name,xL fa c.fields.length fc]] W (cN (.tuple #[.agg #[xI t.kind,xI t.of],xB true]) W)):=λW hb=>H M W _ _ (uf.o.below hb) (im.o.below hb);go_enter func201,ntmps201;go_wp2_with fail;refine cG (HR.o _ (by exact(bO.alloc (by simp) _).alloc (by simp;omega) _)) λw1 aC=> ?_;have HK:=af ((eK.new w _ _).below aC);obtain⟨c0,c1⟩:=ah HK.o.2.1;obtain⟨a0,a1,a2,a3⟩:=ae HK.o.1;go_wp2_with fail;refine cG (QQ.o _ (by exact HK.o.2.2.2.1)) λw2 aY=> ?_;have qB:=af (HK.o.below aY);obtain⟨c0,c1⟩:=ah qB.o.2.1;obtain⟨a0,a1,a2,a3⟩:=ae qB.o.1;go_wp2_with fail;refine cG (HC.o _ (by exact qB.o.2.2.2.1)) λw3 bG=> ?_;have lO:=af (qB.o.below bG);obtain⟨r0,r1⟩:=ah lO.o.2.2.1;obtain⟨g0,g1⟩:=nu lO.o.2.2.1;have hsz:=lO.o.2.2.2.2;have iG:w.heap.size+1+1≠w3.heap.size:=by omega
 go_wp2_with fail;obtain⟨z0,z1⟩:=ah (W:=((w3.setCell ⟨w.heap.size+1+1,0,none⟩ (xI t.kind)).setCell ⟨w.heap.size+1+1,1,none⟩ (xI t.of)).alloc (xK #[xI t.kind,xI t.of] 136)) ((Qcb _ _ _ (by simp;omega)).trans (Qca _ _ 1 _ _ _ (Qca _ _ 0 _ _ _ lO.o.2.2.1)));refine Qae (v:= .tuple #[.agg #[xI t.kind,xI t.of],xI 0]) (by simp[results,results201,go_sem];simp[z0,z1]) rfl ⟨rfl,?_⟩;exact((lO.o.2.2.2.1.setCell (by simp;omega) _).setCell (by simp;omega) _).alloc (by simp;omega) _
def Ki(c:az)(x0 x1 x2:ax)(p:Int)(hp:p=1\/p=2)(h0:fX c x0 1)(h1:fX c x1 p)(h2:fX c x2 p):UA c (.mk 6 0 (bL [105,102]) [x0,x1,x2]) ⟨p,0⟩:=by
 intro M w v fv gz bR;obtain⟨a,cap,rfl,bo⟩:=eA gz;obtain⟨k0,n0,s0,l0⟩:=x0;obtain⟨k1,n1,s1,l1⟩:=x1;obtain⟨k2,n2,s2,l2⟩:=x2;obtain⟨b,off,a0,c0,rfl,cw,e00,e01,e02,e03,g0⟩:=kG (i:=0) bo rfl;obtain⟨b',AV,a1,c1,e,_,WM,e11,e12,e13,g1⟩:=kG (i:=1) bo rfl;simp only[Qcf,Addr.mk.injEq,and_true]at e;obtain⟨rfl,rfl⟩:=e;obtain⟨b',AV,a2,c2,e,_,e20,e21,e22,e23,g2⟩:=kG (i:=2) bo rfl;simp only[Qcf,Addr.mk.injEq,and_true]at e;obtain⟨rfl,rfl⟩:=e;simp only[Nat.zero_mul,Nat.add_zero]at e00 e01 e02 e03;simp only[Nat.one_mul]at WM e11 e12 e13;simp only[Nat.reduceMul]at e20 e21 e22 e23;have im:=af bR;obtain⟨fa,fc,rfl,_⟩:=bR.open_;have Dn:Hd (∀W,aq w W->xC 230 #[.agg #[xI k0,xI n0,xS s0,xL a0 l0.length c0], .agg #[xS c.name,xL fa c.fields.length fc]] W (cN (xI 1) W)):=λW hb=>h0 M W _ _ (g0.below hb) (im.o.below hb);have fI:Hd (∀W,aq w W->xC 230 #[.agg #[xI k1,xI n1,xS s1,xL a1 l1.length c1], .agg #[xS c.name,xL fa c.fields.length fc]] W (cN (xI p) W)):=λW hb=>h1 M W _ _ (g1.below hb) (im.o.below hb);have jT:Hd (∀W,aq w W->xC 230 #[.agg #[xI k2,xI n2,xS s2,xL a2 l2.length c2], .agg #[xS c.name,xL fa c.fields.length fc]] W (cN (xI p) W)):=λW hb=>h2 M W _ _ (g2.below hb) (im.o.below hb);have qah:Hd (∀W,aq w W->aU W b off (xI k0)/\aU W b (off+1) (xI n0)/\aU W b (off+2) (xS s0)/\aU W b (off+3) (xL a0 l0.length c0)):=λW hb=>⟨(hb.cell (p:=⟨b,off,none⟩) cw).trans e00,(hb.cell (p:=⟨b,off+1,none⟩) cw).trans e01,(hb.cell (p:=⟨b,off+2,none⟩) cw).trans e02,(hb.cell (p:=⟨b,off+3,none⟩) cw).trans e03⟩;have qai:Hd (∀W,aq w W->aU W b (off+4) (xI k1)/\aU W b (off+4+1) (xI n1)/\aU W b (off+4+2) (xS s1)/\aU W b (off+4+3) (xL a1 l1.length c1)):=λW hb=>⟨(hb.cell (p:=⟨b,off+4,none⟩) cw).trans WM,(hb.cell (p:=⟨b,off+4+1,none⟩) cw).trans e11,(hb.cell (p:=⟨b,off+4+2,none⟩) cw).trans e12,(hb.cell (p:=⟨b,off+4+3,none⟩) cw).trans e13⟩;have qaj:Hd (∀W,aq w W->aU W b (off+8) (xI k2)/\aU W b (off+8+1) (xI n2)/\aU W b (off+8+2) (xS s2)/\aU W b (off+8+3) (xL a2 l2.length c2)):=λW hb=>⟨(hb.cell (p:=⟨b,off+8,none⟩) cw).trans e20,(hb.cell (p:=⟨b,off+8+1,none⟩) cw).trans e21,(hb.cell (p:=⟨b,off+8+2,none⟩) cw).trans e22,(hb.cell (p:=⟨b,off+8+3,none⟩) cw).trans e23⟩;clear gz bR bo g0 g1 g2 h0 h1 h2 e00 e01 e02 e03 WM e11 e12 e13 e20 e21 e22 e23;rw[show [ax.mk k0 n0 s0 l0,ax.mk k1 n1 s1 l1,ax.mk k2 n2 s2 l2].length=3 from rfl,show bL [105,102]=⟨#[105,102]⟩from rfl];go_enter func231,ntmps231;go_upto_region 4 with fail;obtain⟨W,hW⟩:=cM (((w.alloc (xK #[xI 6,xI 0,xS ⟨#[105,102]⟩,xL (some ⟨b,off,none⟩) 3 cap] 287)).alloc (xK #[xS c.name,xL fa c.fields.length fc] 101)).alloc (xK #[xI 0,xI 0] 136));rw[<-hW];have YB:=af (show eK w (xK #[xI 6,xI 0,xS ⟨#[105,102]⟩,xL (some ⟨b,off,none⟩) 3 cap] 287) (xK #[xS c.name,xL fa c.fields.length fc] 101) W by rw[hW];exact eK.new w _ _);clear hW;go_cut [6](λs6 wx=>s6=xI 1/\Hd (eK w (xK #[xI 6,xI 0,xS ⟨#[105,102]⟩,xL (some ⟨b,off,none⟩) 3 cap] 287) (xK #[xS c.name,xL fa c.fields.length fc] 101) wx));case first=>
  obtain⟨z0,z1,z2,z3⟩:=ae YB.o.1;obtain⟨y0,y1⟩:=ah YB.o.2.1;obtain⟨x0,x1,x2,x3⟩:=qah.o _ YB.o.2.2.2.1;go_region_law(first|(go_simp;go_at_call 230;refine cG (Dn.o _ (by exact YB.o.2.2.2.1.drew)) λw1 aC=> ?_;have mj:=af (YB.o.drew.below aC);clear aC));all_goals(go_wp2_with fail;go_meet;exact⟨rfl,mj⟩)
 case rest=>
  obtain⟨rfl,jU⟩:=hcut;go_upto_region 5 with fail;go_cut [7](λs7 wx=>s7=xI p/\Hd (eK w (xK #[xI 6,xI 0,xS ⟨#[105,102]⟩,xL (some ⟨b,off,none⟩) 3 cap] 287) (xK #[xS c.name,xL fa c.fields.length fc] 101) wx));case first=>
   obtain⟨z0,z1,z2,z3⟩:=ae jU.o.1;obtain⟨y0,y1⟩:=ah jU.o.2.1;obtain⟨x0,x1,x2,x3⟩:=qai.o _ jU.o.2.2.2.1;go_region_law(first|(go_simp;go_at_call 230;refine cG (fI.o _ (by exact jU.o.2.2.2.1.drew)) λw1 aC=> ?_;have mj:=af (jU.o.drew.below aC);clear aC));all_goals(go_wp2_with fail;go_meet;exact⟨rfl,mj⟩)
  case rest=>
   obtain⟨rfl,fQ⟩:=hcut;go_upto_region 6 with fail;go_cut [8](λs8 wx=>s8=xI p/\Hd (eK w (xK #[xI 6,xI 0,xS ⟨#[105,102]⟩,xL (some ⟨b,off,none⟩) 3 cap] 287) (xK #[xS c.name,xL fa c.fields.length fc] 101) wx));case first=>
    obtain⟨z0,z1,z2,z3⟩:=ae fQ.o.1;obtain⟨y0,y1⟩:=ah fQ.o.2.1;obtain⟨x0,x1,x2,x3⟩:=qaj.o _ fQ.o.2.2.2.1;go_region_law(first|(go_simp;go_at_call 230;refine cG (jT.o _ (by exact fQ.o.2.2.2.1.drew)) λw1 aC=> ?_;have mj:=af (fQ.o.drew.below aC);clear aC));all_goals(go_wp2_with fail;go_meet;exact⟨rfl,mj⟩)
   case rest=>
    obtain⟨rfl,qA⟩:=hcut;obtain⟨r0,r1⟩:=ah qA.o.2.2.1;obtain⟨f0,f1⟩:=nu qA.o.2.2.1;have GR:=qA.o.2.2.2.1;have TZ:=af GR;clear GR;clear qah qai qaj Dn fI jT YB jU fQ;rcases hp with rfl|rfl;all_goals
     go_wp2_with fail;refine Qae (v:= .tuple #[.agg #[xI _,xI 0],xB true]) (by simp[results,results231,go_sem,r0,r1];try rfl) rfl ⟨rfl,?_⟩;exact(TZ.o.setCell (by simp;omega) _).setCell (by simp;omega) _
def Cq {l:List UInt8}{x:ax}(h:ed l=some x):ir x=true/\kR x<=8/\eo x<=40:=by
 unfold ed at h;split at h
 .cases h
 .split at h
  .split at h
   .rename_i hc;cases h;exact hc.2
   .cases h
  .cases h
def yr {c:az}(hc:aM c=true)(hf:f∈c.fields):∃i:Nat,fieldAt c f.name=i/\c.fields[i]? =some f:=by
 obtain⟨i,hi⟩:=List.getElem?_of_mem hf;exact⟨i,(((bc c).1 hc).2.2 i f (Qad.1 hi).1 hi).2,hi⟩
def Kl(s:aT):bL s.data.toList=s:=(ff rfl).symm
def rF:∀s∈names9,s≠[55]/\s≠[34,97,32,98,34]/\s≠[]:=by decide
def yt {c:az}(hc:aM c=true)(hn:∀f∈c.fields,f.name.data.toList∈names9)(hf:f∈c.fields):jk c (uu f.name.data.toList) f.type:=by
 obtain⟨h1,h2,_⟩:=rF _ (hn f hf);obtain⟨i,h3,h4⟩:=yr hc hf;unfold uu;rw[if_neg h1,if_neg h2];unfold fE;rw[Kl];exact Hg c f.name f i h3 h4
def Km {c:az}(hc:aM c=true)(hn:∀f∈c.fields,f.name.data.toList∈names9)(h:uG c s):s.data.toList∈[55]::names9/\jk c (uu s.data.toList) ⟨1,0⟩:=by
 rcases h with rfl|⟨f,hf,ht,rfl⟩
 .exact⟨by decide,iC c 1 7 (bL []) [] (.inl rfl)⟩
 .exact⟨List.mem_cons_of_mem _ (hn f hf),ht▸yt hc hn hf⟩
def D9 {c:az}(hc:aM c=true)(hn:∀f∈c.fields,f.name.data.toList∈names9)(h:qc c s):s.data.toList∈[34,97,32,98,34]::names9/\jk c (uu s.data.toList) ⟨2,0⟩:=by
 rcases h with rfl|⟨f,hf,ht,rfl⟩
 .exact⟨by decide,iC c 2 0 (bL [97,32,98]) [] (.inr rfl)⟩
 .exact⟨List.mem_cons_of_mem _ (hn f hf),ht▸yt hc hn hf⟩
section
variable {c:az}{num txt:ax}(hx:jk c num ⟨1,0⟩)(hy:jk c txt ⟨2,0⟩)
include hx hy
def LD:∀x∈pg num txt,jk c x ⟨1,0⟩:=by
 have px:fX c num 1:=ig c num ⟨1,0⟩ (.inl rfl) hx;have py:fX c txt 2:=ig c txt ⟨2,0⟩ (.inr rfl) hy;have pn:∀n,fX c (nE n) 1:=λn=>ig c _ ⟨1,0⟩ (.inl rfl) (iC c 1 n _ _ (.inl rfl));have pt:∀s,fX c (tE s) 2:=λs=>ig c _ ⟨2,0⟩ (.inr rfl) (iC c 2 0 _ _ (.inr rfl));have YH:∀s x y,(s=[42]\/s=[45]\/s=[47])->fX c x 1->fX c y 1->jk c (Kc s x y) ⟨1,0⟩:=λs x y hs h1 h2=>xd c s x y 1 1 _ h1 h2 (.inr (.inr ⟨hs,rfl,rfl,rfl⟩));have pop:∀s x y,(s=[42]\/s=[45]\/s=[47])->fX c x 1->fX c y 1->fX c (Kc s x y) 1:=λs x y hs h1 h2=>ig c _ ⟨1,0⟩ (.inl rfl) (YH s x y hs h1 h2);intro x hm;simp only[pg,Qdf,List.not_mem_nil,or_false]at hm;rcases hm with rfl|rfl|rfl|rfl|rfl|rfl|rfl
 .exact iC c 1 3 _ _ (.inl rfl)
 .exact hx
 .exact YH _ _ _ (.inr (.inl rfl)) (pop _ _ _ (.inl rfl) px (pn 2)) (pn 1)
 .exact call5 c [108,101,110] (by decide) [txt] rfl (λi e u he hu=>by
   match i with
   |0=>simp at he;subst he;have:u=116:=by simpa [fw]using hu.symm
       subst this;exact py
   |n+1=>simp at he)
 .exact uF c _ _ _ (Ki c _ _ _ 1 (.inl rfl) (ig c _ ⟨1,0⟩ (.inl rfl) (xd c [62] _ _ 1 1 _ px (pn 2) (.inr (.inl ⟨.inr rfl,rfl, .inl rfl,rfl⟩)))) px (pop _ _ _ (.inr (.inl rfl)) (pn 0) px))
 .exact call5 c [102,105,110,100] (by decide) [tE [98],txt] rfl (λi e u he hu=>by
   match i with
   |0=>simp at he;subst he;have:u=116:=by simpa [fw]using hu.symm
       subst this;exact pt _
   |1=>simp at he;subst he;have:u=116:=by simpa [fw]using hu.symm
       subst this;exact py
   |n+2=>simp at he)
 .exact YH _ _ _ (.inr (.inr rfl)) px px
def Hn:∀x∈mG num txt,jk c x ⟨2,0⟩:=by
 have px:fX c num 1:=ig c num ⟨1,0⟩ (.inl rfl) hx;have py:fX c txt 2:=ig c txt ⟨2,0⟩ (.inr rfl) hy;have pn:∀n,fX c (nE n) 1:=λn=>ig c _ ⟨1,0⟩ (.inl rfl) (iC c 1 n _ _ (.inl rfl));have pt:∀s,fX c (tE s) 2:=λs=>ig c _ ⟨2,0⟩ (.inr rfl) (iC c 2 0 _ _ (.inr rfl));have YH:∀x y,fX c x 2->fX c y 2->jk c (Kc [38] x y) ⟨2,0⟩:=λx y h1 h2=>xd c [38] x y 2 2 _ h1 h2 (.inl ⟨rfl,rfl,rfl,rfl⟩);intro x hm;simp only[mG,Qdf,List.not_mem_nil,or_false]at hm;rcases hm with rfl|rfl|rfl|rfl|rfl|rfl|rfl
 .exact iC c 2 0 _ _ (.inr rfl)
 .exact hy
 .exact YH _ _ (ig c _ ⟨2,0⟩ (.inr rfl) (YH _ _ py (pt _))) py
 .exact call5 c [116,101,120,116] (by decide) [num] rfl (λi e u he hu=>by
   match i with
   |0=>simp at he;subst he;have:u=110:=by simpa [fw]using hu.symm
       subst this;exact px
   |n+1=>simp at he)
 .exact call5 c [108,101,102,116] (by decide) [txt,nE 2] rfl (λi e u he hu=>by
   match i with
   |0=>simp at he;subst he;have:u=116:=by simpa [fw]using hu.symm
       subst this;exact py
   |1=>simp at he;subst he;have:u=110:=by simpa [fw]using hu.symm
       subst this;exact pn _
   |n+2=>simp at he)
 .exact call5 c [102,114,111,109] (by decide) [txt,nE 3] rfl (λi e u he hu=>by
   match i with
   |0=>simp at he;subst he;have:u=116:=by simpa [fw]using hu.symm
       subst this;exact py
   |1=>simp at he;subst he;have:u=110:=by simpa [fw]using hu.symm
       subst this;exact pn _
   |n+2=>simp at he)
 .exact uF c _ _ _ (Ki c _ _ _ 2 (.inr rfl) (ig c _ ⟨1,0⟩ (.inl rfl) (xd c [61] _ _ 1 1 _ px (pn 1) (.inr (.inl ⟨.inl rfl,rfl, .inl rfl,rfl⟩)))) py (pt _))
end
def Oo {α β:Type}{P:α×β->Bool}{l:List α}{m:List β}(h:(l.zip m).all P=true)(hl:l.length=m.length){a:α}(ha:a∈l):∃b∈m,P (a,b)=true:=by
 obtain⟨i,hi⟩:=List.getElem?_of_mem ha;have zV:=(Qad.1 hi).1;have hm:m[i]? =some (m[i]'(by omega)):=Qac (by omega);refine⟨_,Qaf hm,List.all_eq_true.1 h _ (Qaf (i:=i) ?_)⟩;rw[List.getElem?_zip_eq_some];exact⟨hi,hm⟩
def rG:ed []=none:=by decide
def sH(c:az)(t:aR)(s:aT):Prop:=s.data.toList=[]\/∃x,ed s.data.toList=some x/\jk c x t
def Bi(s:aT)(w:aj)(h:s.data.toList=[]\/∃x,ed s.data.toList=some x):xC 199 #[xS s] w (cN (xB true) w):=by
 rcases h with h|⟨x,h⟩
 .obtain rfl:=ff h;have HC:=af (D7 w);go_enter func199,ntmps199;go_wp2_with fail;refine cG (HC.o) λw1 aC=> ?_;have aO:=af aC;go_wp2;go_ret;exact⟨rfl,aO.o.alloc aO.o.size _⟩
 .have hz:(s.toList==[])=false:=by
   rw[ByteArray.toList_eq];cases hq:s.data.toList with
   |nil=>rw[hq,rG]at h;cases h
   |cons a r=>rfl
  have HC:=af (Kh s w x h);obtain⟨xk,xn,xs,xl⟩:=x;go_enter func199,ntmps199;go_wp2_with fail;refine(HC.o).mono ?_;rintro e w1⟨v,rfl,gz,aC⟩;obtain⟨a,cap,rfl,_⟩:=eA gz;have aO:=af aC;go_wp2;go_ret;exact⟨rfl,aO.o.alloc aO.o.size _⟩
def Ea(c:az)(t:aR)(s:aT)(h:sH c t s)(hc:aM c=true)(fS:c.name.size<=maxLen)(M:aS)(w:aj)(hM:Bd M w)(fv:an)(bR:ab M w fv c.fields):
 xC 176 #[xS s, .agg #[xS c.name,fv], .agg #[xI t.kind,xI t.of]] w (cN (xB true) w):=by
 have im:=af bR;obtain⟨fa,fc,rfl,_⟩:=bR.open_;rcases h with h|⟨x,h,hk⟩
 .obtain rfl:=ff h;go_enter func176,ntmps176;go_wp2;go_ret;exact⟨rfl,bO.alloc (by simp) _⟩
 .have hz:(s.toList==[])=false:=by
   rw[ByteArray.toList_eq];cases hq:s.data.toList with
   |nil=>rw[hq,rG]at h;cases h
   |cons a r=>rfl
  obtain⟨vj,Cd,hn3⟩:=Cq h;have HT:Hd (∀W v,aq w W->bS M W v x->xC 201 #[v, .agg #[xS c.name,xL fa c.fields.length fc]] W (cN (.tuple #[.agg #[xI t.kind,xI t.of],xI 0]) W)):=λW v hb gz=>SJ c x t hk vj Cd hn3 hc fS M W v _ gz (im.o.below hb);have HC:=af (λW=>Kh s W x h);obtain⟨xk,xn,xs,xl⟩:=x;obtain⟨tk,Aq⟩:=t;go_enter func176,ntmps176;go_wp2_with fail;refine(HC.o _).mono ?_;rintro e w1⟨v,rfl,gz,aC⟩;have kD:aq w w1:=(bO.alloc (by simp) _).trans (aC.mono (by simp;omega));have qdo:bS M w1 v (ax.mk xk xn xs xl):=gz.ev (Ev.eG w1 λi hi=>by have:=hM i hi;unfold fp;simp;omega);have uf:=af qdo;obtain⟨a,cap,rfl,_⟩:=eA gz;have Dn:=af ((aC.block w.heap.size (by simp;omega)).trans (jM (w:=w) rfl).1);have fI:=af ((aC.block (w.heap.size+1) (by simp)).trans (jM (w:=w) rfl).2.1);have s1:=aC.size;simp at s1;obtain⟨c0,c1⟩:=ah Dn.o;obtain⟨t0,t1⟩:=ah fI.o;have n0:w.heap.size≠w1.heap.size:=by omega
  have n1:w.heap.size+1≠w1.heap.size:=by omega
  have C0:∀o,(w1.alloc o).cell? ⟨w.heap.size,0,none⟩=some (xS c.name):=λo=>(World.cell?_of_block (w:=w1) (Qcb w1 o w.heap.size (by omega))).trans c0;have C1:∀o,(w1.alloc o).cell? ⟨w.heap.size,1,none⟩=some (xL fa c.fields.length fc):=λo=>(World.cell?_of_block (w:=w1) (Qcb w1 o w.heap.size (by omega))).trans c1;have iA:=af kD;go_wp2_with fail;refine cG (HT.o _ _ (by exact iA.o.alloc iA.o.size _) (uf.o.below bO)) λw2 aY=> ?_;have aL:Hd (aq w w2):=(iA.o.alloc iA.o.size _).trans (aY.mono (by simp;omega));have s2:=aY.size;simp at s2;have HY1:=af ((aY.block (w.heap.size+1) (by simp;omega)).trans ((Qcb w1 _ (w.heap.size+1) (by omega)).trans fI.o));obtain⟨t0,t1⟩:=ah HY1.o;have n2:w.heap.size+1≠w2.heap.size:=by omega
  have T0:∀o,(w2.alloc o).cell? ⟨w.heap.size+1,0,none⟩=some (xI tk):=λo=>(World.cell?_of_block (w:=w2) (Qcb w2 o (w.heap.size+1) (by omega))).trans t0;have T1:∀o,(w2.alloc o).cell? ⟨w.heap.size+1,1,none⟩=some (xI Aq):=λo=>(World.cell?_of_block (w:=w2) (Qcb w2 o (w.heap.size+1) (by omega))).trans t1;go_wp2;go_ret;exact⟨rfl,aL.o.alloc aL.o.size _⟩
def nB(x:aB):Prop:=
 (x.kind=1/\x.field=⟨#[]⟩/\x.more=⟨#[]⟩/\x.other=⟨#[]⟩)\/
 (x.kind=2/\x.name=⟨#[]⟩/\x.more=⟨#[]⟩/\x.type=⟨0,0⟩/\x.expr=⟨#[]⟩/\x.other=⟨#[]⟩)\/
 (x.kind=3/\x.more=⟨#[]⟩/\x.type=⟨0,0⟩/\x.expr=⟨#[]⟩/\x.other=⟨#[]⟩)\/
 (x.kind=4/\x.name=⟨#[]⟩/\x.more=⟨#[]⟩/\x.other=⟨#[]⟩)\/
 (x.kind=5)\/
 (x.kind=6/\x.name=⟨#[]⟩/\x.more=⟨#[]⟩/\x.type=⟨0,0⟩/\x.expr=⟨#[]⟩/\x.other=⟨#[]⟩)
def Oq(x:aB)(h:nB x)(w:aj):
 xC 198 #[.agg #[xI x.kind,xS x.field,xS x.name,xS x.more,xI x.type.kind,xI x.type.of,xS x.expr,xS x.other]] w (cN (.agg #[xI x.kind,xS x.field,xS x.name,xS x.more,xI x.type.kind,xI x.type.of,xS x.expr,xS x.other]) w):=by
 obtain⟨k,f,n,m,⟨tk,tf⟩,e,o⟩:=x;simp only[nB,aR.mk.injEq]at h;rcases h with⟨rfl,rfl,rfl,rfl⟩|⟨rfl,rfl,rfl,⟨rfl,rfl⟩,rfl,rfl⟩|⟨rfl,rfl,⟨rfl,rfl⟩,rfl,rfl⟩|⟨rfl,rfl,rfl,rfl⟩|rfl|⟨rfl,rfl,rfl,⟨rfl,rfl⟩,rfl,rfl⟩;all_goals
  dsimp only;go_enter func198,ntmps198;go_wp2_with fail;refine Qae (v:= .agg #[_,_,_,_,_,_,_,_]) (by simp[results,results198,go_sem]) rfl ⟨rfl,?_⟩;repeat(first|exact Qbg _ _|refine Below.setCell ?_ (by simp<;>omega) _|refine Below.alloc ?_ (by simp<;>omega) _)
def ak {c4 c5 c6 c7:Value}(h:W.heap[g]? =some (xK #[c0,c1,c2,c3,c4,c5,c6,c7] t)):
 W.cell? ⟨g,0,none⟩=some c0/\W.cell? ⟨g,1,none⟩=some c1/\W.cell? ⟨g,2,none⟩=some c2/\W.cell? ⟨g,3,none⟩=some c3/\W.cell? ⟨g,4,none⟩=some c4/\W.cell? ⟨g,5,none⟩=some c5/\W.cell? ⟨g,6,none⟩=some c6/\W.cell? ⟨g,7,none⟩=some c7:=by simp[World.cell?,h]
def vB(w:aj)(o:Obj)(wx:aj):Prop:=wx.heap[w.heap.size]? =some o/\aq w wx/\w.heap.size<wx.heap.size
theorem vB.below(h:vB w o wx)(k:aq wx w'):vB w o w':=by
 have:=h.2.2;have:=h.2.1.size;have:=k.size;exact⟨(k.block _ h.2.2).trans h.1,h.2.1.trans (k.mono (by omega)),by omega⟩
theorem vB.drew(h:vB w o wx):vB w o wx.drew:=⟨h.1,h.2.1.drew,h.2.2⟩
def Ot(x:aB):Prop:=
 ((x.kind=1\/x.kind=3\/x.kind=5)->aE x.name=true)/\(x.kind=5->aE x.more=true)/\((x.kind=1\/x.kind=4\/x.kind=5)->aF x.type=true)/\
 (x.expr.data.toList=[]\/∃y,ed x.expr.data.toList=some y)/\(x.other.data.toList=[]\/∃y,ed x.other.data.toList=some y)/\
 x.field.size<=maxLen/\x.name.size<=maxLen/\x.more.size<=maxLen
def Ho(x:aB)(h:nB x)(hf:Ot x)(b:Bool)(hb:(decide (x.kind=1)||aE x.field)=b)(w:aj):
 xC 175 #[.agg #[xI x.kind,xS x.field,xS x.name,xS x.more,xI x.type.kind,xI x.type.of,xS x.expr,xS x.other]] w (cN (xB b) w):=by
 have HN:Hd (∀w,_):=Oq x h;obtain⟨k,f,n,m,⟨tk,tf⟩,e,o⟩:=x;obtain⟨hn,hm,ht,he,ho,dB,jC,rS⟩:=hf;have hk:k=1\/k=2\/k=3\/k=4\/k=5\/k=6:=by simp only[nB]at h;omega
 dsimp only at*;have HT:=af λhk w=>ot true ⟨tk,tf⟩ w (ht hk);have oZ:=af λhk w=>eR true n w (hn hk) jC;have HMO:=af λhk w=>eR true m w (hm hk) rS;have HF:=af λw=>eR (aE f) f w rfl dB;have YI:=af λw=>Bi e w he;have YJ:=af λw=>Bi o w ho;clear hn hm ht he ho dB jC rS h;go_enter func175,ntmps175;go_upto_region 1 with fail;obtain⟨W,hW⟩:=cM (w.alloc (xK #[xI k,xS f,xS n,xS m,xI tk,xI tf,xS e,xS o] 159));rw[<-hW];have HW:=af (show vB w (xK #[xI k,xS f,xS n,xS m,xI tk,xI tf,xS e,xS o] 159) W by rw[hW];exact⟨(sB (w:=w) rfl).1,bO,by simp⟩);clear hW;go_cut [16](λs16 wx=>s16=xB false/\Hd (vB w (xK #[xI k,xS f,xS n,xS m,xI tk,xI tf,xS e,xS o] 159) wx));case first=>
  obtain⟨a0,a1,a2,a3,a4,a5,a6,a7⟩:=ak HW.o.1;have qM:¬k<1:=by omega
  have hk6:¬6<k:=by omega
  go_region_law(first|(go_simp;go_at_call 198;refine cG (HN.o _) λw1 aC=> ?_;have mj:=af (HW.o.drew.below aC);clear aC;obtain⟨b0,b1,b2,b3,b4,b5,b6,b7⟩:=ak mj.o.1));all_goals(go_wp2_with fail;go_meet;exact⟨rfl,mj⟩)
 case rest=>
  obtain⟨rfl,fQ⟩:=hcut;clear HW HN;obtain⟨a0,a1,a2,a3,a4,a5,a6,a7⟩:=ak fQ.o.1;rcases hk with rfl|rfl|rfl|rfl|rfl|rfl
  .obtain rfl:true=b:=hb;go_wp2_with fail;refine dJ (oZ.o (by simp) _) ?_;go_wp2_with fail;refine cG (HT.o (by simp) _) λw3 bG=> ?_;have qA:=af (fQ.o.below bG);clear bG;clear a0 a1 a2 a3 a4 a5 a6 a7;obtain⟨a0,a1,a2,a3,a4,a5,a6,a7⟩:=ak qA.o.1;go_wp2_with fail;refine cG (YI.o _) λw4 dT=> ?_;have qC:=af (qA.o.below dT);clear dT;clear a0 a1 a2 a3 a4 a5 a6 a7;obtain⟨a0,a1,a2,a3,a4,a5,a6,a7⟩:=ak qC.o.1;go_wp2_with fail;refine cG (YJ.o _) λw5 lL=> ?_;have qD:=af (qC.o.below lL);clear lL;clear a0 a1 a2 a3 a4 a5 a6 a7;obtain⟨a0,a1,a2,a3,a4,a5,a6,a7⟩:=ak qD.o.1;go_wp2;go_ret;exact⟨rfl,qD.o.2.1⟩
  .have iI:aE f=b:=hb;rw[iI]at HF;clear hb iI;go_wp2_with fail;refine dJ (HF.o _) ?_;cases b with
   |false=>
    go_wp2;go_ret;exact⟨rfl,fQ.o.2.1⟩
   |true=>
    go_wp2_with fail;refine cG (YI.o _) λw3 bG=> ?_;have qA:=af (fQ.o.below bG);clear bG;clear a0 a1 a2 a3 a4 a5 a6 a7;obtain⟨a0,a1,a2,a3,a4,a5,a6,a7⟩:=ak qA.o.1;go_wp2_with fail;refine cG (YJ.o _) λw4 dT=> ?_;have qC:=af (qA.o.below dT);clear dT;clear a0 a1 a2 a3 a4 a5 a6 a7;obtain⟨a0,a1,a2,a3,a4,a5,a6,a7⟩:=ak qC.o.1;go_wp2;go_ret;exact⟨rfl,qC.o.2.1⟩
  .have iI:aE f=b:=hb;rw[iI]at HF;clear hb iI;go_wp2_with fail;refine dJ (HF.o _) ?_;cases b with
   |false=>
    go_wp2;go_ret;exact⟨rfl,fQ.o.2.1⟩
   |true=>
    go_wp2_with fail;refine dJ (oZ.o (by simp) _) ?_;go_wp2_with fail;refine cG (YI.o _) λw3 bG=> ?_;have qA:=af (fQ.o.below bG);clear bG;clear a0 a1 a2 a3 a4 a5 a6 a7;obtain⟨a0,a1,a2,a3,a4,a5,a6,a7⟩:=ak qA.o.1;go_wp2_with fail;refine cG (YJ.o _) λw4 dT=> ?_;have qC:=af (qA.o.below dT);clear dT;clear a0 a1 a2 a3 a4 a5 a6 a7;obtain⟨a0,a1,a2,a3,a4,a5,a6,a7⟩:=ak qC.o.1;go_wp2;go_ret;exact⟨rfl,qC.o.2.1⟩
  .have iI:aE f=b:=hb;rw[iI]at HF;clear hb iI;go_wp2_with fail;refine dJ (HF.o _) ?_;cases b with
   |false=>
    go_wp2;go_ret;exact⟨rfl,fQ.o.2.1⟩
   |true=>
    go_wp2_with fail;refine cG (HT.o (by simp) _) λw3 bG=> ?_;have qA:=af (fQ.o.below bG);clear bG;clear a0 a1 a2 a3 a4 a5 a6 a7;obtain⟨a0,a1,a2,a3,a4,a5,a6,a7⟩:=ak qA.o.1;go_wp2_with fail;refine cG (YI.o _) λw4 dT=> ?_;have qC:=af (qA.o.below dT);clear dT;clear a0 a1 a2 a3 a4 a5 a6 a7;obtain⟨a0,a1,a2,a3,a4,a5,a6,a7⟩:=ak qC.o.1;go_wp2_with fail;refine cG (YJ.o _) λw5 lL=> ?_;have qD:=af (qC.o.below lL);clear lL;clear a0 a1 a2 a3 a4 a5 a6 a7;obtain⟨a0,a1,a2,a3,a4,a5,a6,a7⟩:=ak qD.o.1;go_wp2;go_ret;exact⟨rfl,qD.o.2.1⟩
  .have iI:aE f=b:=hb;rw[iI]at HF;clear hb iI;go_wp2_with fail;refine dJ (HF.o _) ?_;cases b with
   |false=>
    go_wp2;go_ret;exact⟨rfl,fQ.o.2.1⟩
   |true=>
    go_wp2_with fail;refine dJ (oZ.o (by simp) _) ?_;go_wp2_with fail;refine cG (HT.o (by simp) _) λw3 bG=> ?_;have qA:=af (fQ.o.below bG);clear bG;clear a0 a1 a2 a3 a4 a5 a6 a7;obtain⟨a0,a1,a2,a3,a4,a5,a6,a7⟩:=ak qA.o.1;go_wp2_with fail;refine dJ (HMO.o (by simp) _) ?_;go_wp2_with fail;refine cG (YI.o _) λw4 dT=> ?_;have qC:=af (qA.o.below dT);clear dT;clear a0 a1 a2 a3 a4 a5 a6 a7;obtain⟨a0,a1,a2,a3,a4,a5,a6,a7⟩:=ak qC.o.1;go_wp2_with fail;refine cG (YJ.o _) λw5 lL=> ?_;have qD:=af (qC.o.below lL);clear lL;clear a0 a1 a2 a3 a4 a5 a6 a7;obtain⟨a0,a1,a2,a3,a4,a5,a6,a7⟩:=ak qD.o.1;go_wp2;go_ret;exact⟨rfl,qD.o.2.1⟩
  .have iI:aE f=b:=hb;rw[iI]at HF;clear hb iI;go_wp2_with fail;refine dJ (HF.o _) ?_;cases b with
   |false=>
    go_wp2;go_ret;exact⟨rfl,fQ.o.2.1⟩
   |true=>
    go_wp2_with fail;refine cG (YI.o _) λw3 bG=> ?_;have qA:=af (fQ.o.below bG);clear bG;clear a0 a1 a2 a3 a4 a5 a6 a7;obtain⟨a0,a1,a2,a3,a4,a5,a6,a7⟩:=ak qA.o.1;go_wp2_with fail;refine cG (YJ.o _) λw4 dT=> ?_;have qC:=af (qA.o.below dT);clear dT;clear a0 a1 a2 a3 a4 a5 a6 a7;obtain⟨a0,a1,a2,a3,a4,a5,a6,a7⟩:=ak qC.o.1;go_wp2;go_ret;exact⟨rfl,qC.o.2.1⟩
structure qT(c:az)(x:aB):Prop where
 sh:nB x
 name:(x.kind=1\/x.kind=3\/x.kind=5)->aE x.name=true
 more:x.kind=5->aE x.more=true
 type:(x.kind=1\/x.kind=4\/x.kind=5)->aF x.type=true
 expr:sH c x.type x.expr
 other:sH c x.type x.other
 s1:x.field.size<=maxLen
 s2:x.name.size<=maxLen
 s3:x.more.size<=maxLen
theorem qT.VL(h:qT c x):Ot x:=
 ⟨h.name,h.more,h.type,h.expr.imp_right λ⟨y,h,_⟩=>⟨y,h⟩,h.other.imp_right λ⟨y,h,_⟩=>⟨y,h⟩,h.s1,h.s2,h.s3⟩
def hasB(c:az)(s:aT):Bool:= !decide (fieldAt c s<0)
def yu(c:az)(s:aT):Int:=match c.fields[(fieldAt c s).toNat]? with|some f=>f.type.kind|none=>0
def jf(c:az)(x:aB):Bool:=
 if x.kind=1 then decide ((c.fields.length:Int)<8)&& !hasB c x.name
 else if x.kind=2 then hasB c x.field
 else if x.kind=3 then hasB c x.field&& !hasB c x.name
 else if x.kind=4 then hasB c x.field
 else if x.kind=5 then hasB c x.field&&decide ((c.fields.length:Int)<8)&& !(x.name.toList==x.more.toList)&&(!hasB c x.name||x.name.toList==x.field.toList)&&(!hasB c x.more||x.more.toList==x.field.toList)
 else hasB c x.field&&decide (yu c x.field<=3)
def uH {a b:aT}(h:(a.toList==b.toList)=true):a=b:=by
 rw[ByteArray.toList_eq,ByteArray.toList_eq,beq_iff_eq]at h;exact(ff h).trans (Kl b)
def Cr(h:hasB c s=true):∃(i:Nat)(f:ay),fieldAt c s=i/\c.fields[i]? =some f/\f.name=s:=by
 unfold hasB at h;simp only[Bool.not_eq_true',decide_eq_false_iff_not]at h;unfold fieldAt idxOf at h⊢;cases hq:c.fields.findIdx? (λf=>bV f.name s)with
 |none=>rw[hq]at h;simp at h
 |some i=>
  obtain⟨hi,hp,_⟩:=List.findIdx?_eq_some_iff_getElem.1 hq;exact⟨i,_,rfl,Qac hi,uH hp⟩
def Eb(hc:aM c=true)(h:hasB c s=true):aE s=true:=by
 obtain⟨i,f,_,hf,rfl⟩:=Cr h;have:=(((bc c).1 hc).2.2 i f (Qad.1 hf).1 hf).1;unfold bC at this;simp only[Qce]at this;exact this.1.1
def Cs(hc:aM c=true)(hs:nB x)(h:(decide (x.kind=1)||aE x.field)=false):jf c x=false:=by
 simp only[Bool.or_eq_false_iff,decide_eq_false_iff_not]at h;have hn:hasB c x.field=false:=by
  cases hq:hasB c x.field with
  |false=>rfl
  |true=>rw[Eb hc hq]at h;simp at h
 unfold jf;simp[h.1,hn]
def vC(w:aj)(o0 o1:Obj)(wx:aj):Prop:=wx.heap[w.heap.size]? =some o0/\wx.heap[w.heap.size+1]? =some o1/\aq w wx/\w.heap.size+1<wx.heap.size
theorem vC.below(h:vC w o0 o1 wx)(k:aq wx w'):vC w o0 o1 w':=by
 obtain⟨h1,h2,h3,h4⟩:=h;have:=h3.size;have:=k.size;exact⟨(k.block _ (by omega)).trans h1,(k.block _ (by omega)).trans h2,h3.trans (k.mono (by omega)),by omega⟩
theorem vC.new(w:aj)(o0 o1:Obj):vC w o0 o1 ((w.alloc o0).alloc o1):=⟨(jM (w:=w) rfl).1,(jM (w:=w) rfl).2.1,(jM (w:=w) rfl).2.2.2,by rw[(jM (w:=w) rfl).2.2.1];omega⟩
def vD(c:az)(x:aB)(hp:qT c x)(hc:aM c=true)(fS:c.name.size<=maxLen)(b:Bool)(hb:jf c x=b)(M:aS)(w:aj)(hM:Bd M w)(fv:an)(bR:ab M w fv c.fields):
 xC 134 #[.agg #[xS c.name,fv], .agg #[xI x.kind,xS x.field,xS x.name,xS x.more,xI x.type.kind,xI x.type.of,xS x.expr,xS x.other]] w (cN (xB b) w):=by
 have HFM:=af λbf GR w=>Ho x hp.sh hp.VL bf GR w;have HUN:=af (Cs hc hp.sh);have hk:x.kind=1\/x.kind=2\/x.kind=3\/x.kind=4\/x.kind=5\/x.kind=6:=by have:=hp.sh;simp only[nB]at this;omega
 have HTE:Hd (∀W fv,Bd M W->ab M W fv c.fields->_):=λW fv h1 h2=>Ea c x.type x.expr hp.expr hc fS M W h1 fv h2;have T2:Hd (∀W fv,Bd M W->ab M W fv c.fields->_):=λW fv h1 h2=>Ea c x.type x.other hp.other hc fS M W h1 fv h2;have HR:Hd (∀W fv,ab M W fv c.fields->_):=λW fv h=>ko M fv W c h fS hc;have QX:Hd (∀W fv name at_ is,ab M W fv c.fields->_->_->_):=λW fv name at_ is h h1 h2=>lT M fv W c name at_ is h h1 h2;have im:=af bR;obtain⟨fa,fc,rfl,AW,wP,aw⟩:=bR.open_;have tP:=af aw;clear hp bR aw;obtain⟨k,f,n,m,⟨tk,tf⟩,e,o⟩:=x;dsimp only at*;obtain⟨bf,GR⟩:=fx ((decide (k=1)||aE f));have HFB:=af (HFM.o bf GR);obtain⟨i1,TU⟩:=fx (hasB c f);obtain⟨i2,U5⟩:∃i1,hasB c n=i1:=⟨_,rfl⟩;obtain⟨i3,QY⟩:∃i1,hasB c m=i1:=⟨_,rfl⟩;obtain⟨p1,vm⟩:∃p,(if fieldAt c f<0 then 0 else fieldAt c f)=p:=⟨_,rfl⟩;obtain⟨p2,Ae⟩:∃p,(if fieldAt c n<0 then 0 else fieldAt c n)=p:=⟨_,rfl⟩;obtain⟨p3,Du⟩:∃p,(if fieldAt c m<0 then 0 else fieldAt c m)=p:=⟨_,rfl⟩;have lI:Hd (∀W,ab M W (xL fa c.fields.length fc) c.fields->_):=λW h=>QX.o W _ f p1 i1 h vm TU;have xN:Hd (∀W,ab M W (xL fa c.fields.length fc) c.fields->_):=λW h=>QX.o W _ n p2 i2 h Ae U5;have HF3:Hd (∀W,ab M W (xL fa c.fields.length fc) c.fields->_):=λW h=>QX.o W _ m p3 i3 h Du QY;have HB:=af hb;clear hb;have wD:=af TU;clear TU;have oQ:=af U5;clear U5;have vo:=af QY;clear QY;have Np:=af vm;clear vm;have GP:=af Ae;clear Ae;have JJ:=af Du;clear Du;have TZ:=af GR;clear GR;clear QX HFM;go_enter func134,ntmps134;go_wp2_with fail;refine cG (HR.o _ _ (im.o.below (vC.new _ _ _).2.2.1)) λw1 aC=> ?_;have jU:Hd (vC w (xK #[xS c.name,xL fa c.fields.length fc] 101) (xK #[xI k,xS f,xS n,xS m,xI tk,xI tf,xS e,xS o] 159) w1):=(vC.new w _ _).below aC;clear aC;obtain⟨c0,c1⟩:=ah jU.o.1;obtain⟨a0,a1,a2,a3,a4,a5,a6,a7⟩:=ak jU.o.2.1;go_wp2_with fail;refine cG (HFB.o _) λw2 aY=> ?_;have fQ:=af (jU.o.below aY);clear aY;clear c0 c1 a0 a1 a2 a3 a4 a5 a6 a7;obtain⟨c0,c1⟩:=ah fQ.o.1;obtain⟨a0,a1,a2,a3,a4,a5,a6,a7⟩:=ak fQ.o.2.1;cases bf with
 |false=>
  obtain rfl:false=b:=(HUN.o TZ.o).symm.trans HB.o;go_wp2;go_ret;exact⟨rfl,fQ.o.2.2.1⟩
 |true=>
  go_wp2_with fail;refine cG (lI.o _ (im.o.below fQ.o.2.2.1)) λw3 bG=> ?_;have qA:=af (fQ.o.below bG);clear bG;clear c0 c1 a0 a1 a2 a3 a4 a5 a6 a7;obtain⟨c0,c1⟩:=ah qA.o.1;obtain⟨a0,a1,a2,a3,a4,a5,a6,a7⟩:=ak qA.o.2.1;go_wp2_with fail;refine cG (xN.o _ (im.o.below qA.o.2.2.1)) λw4 dT=> ?_;have qC:=af (qA.o.below dT);clear dT;clear c0 c1 a0 a1 a2 a3 a4 a5 a6 a7;obtain⟨c0,c1⟩:=ah qC.o.1;obtain⟨a0,a1,a2,a3,a4,a5,a6,a7⟩:=ak qC.o.2.1;go_wp2_with fail;refine cG (HF3.o _ (im.o.below qC.o.2.2.1)) λw5 lL=> ?_;have qD:=af (qC.o.below lL);clear lL;clear c0 c1 a0 a1 a2 a3 a4 a5 a6 a7;obtain⟨c0,c1⟩:=ah qD.o.1;obtain⟨a0,a1,a2,a3,a4,a5,a6,a7⟩:=ak qD.o.2.1;go_wp2_with fail;refine cG (HTE.o _ _ (hM.below qD.o.2.2.1) (im.o.below qD.o.2.2.1)) λw6 sj=> ?_;have oT:=af (qD.o.below sj);clear sj;clear c0 c1 a0 a1 a2 a3 a4 a5 a6 a7;obtain⟨c0,c1⟩:=ah oT.o.1;obtain⟨a0,a1,a2,a3,a4,a5,a6,a7⟩:=ak oT.o.2.1;rcases hk with rfl|rfl|rfl|rfl|rfl|rfl
  .by_cases hl:(c.fields.length:Int)<8
   .cases i2 with
    |false=>
     obtain rfl:true=b:=by rw[<-HB.o];simp[jf,hl,oQ.o]
     go_wp2;go_ret;exact⟨rfl,oT.o.2.2.1⟩
    |true=>
     obtain rfl:false=b:=by rw[<-HB.o];simp[jf,hl,oQ.o]
     go_wp2;go_ret;exact⟨rfl,oT.o.2.2.1⟩
   .obtain rfl:false=b:=by rw[<-HB.o];simp[jf,hl]
    go_wp2;go_ret;exact⟨rfl,oT.o.2.2.1⟩
  .cases i1 with
   |false=>
    obtain rfl:false=b:=by rw[<-HB.o];simp[jf,wD.o]
    go_wp2;go_ret;exact⟨rfl,oT.o.2.2.1⟩
   |true=>
    obtain rfl:true=b:=by rw[<-HB.o];simp[jf,wD.o]
    go_wp2;go_ret;exact⟨rfl,oT.o.2.2.1⟩
  .cases i1 with
   |false=>
    obtain rfl:false=b:=by rw[<-HB.o];simp[jf,wD.o]
    go_wp2;go_ret;exact⟨rfl,oT.o.2.2.1⟩
   |true=>
    cases i2 with
    |false=>
     obtain rfl:true=b:=by rw[<-HB.o];simp[jf,wD.o,oQ.o]
     go_wp2;go_ret;exact⟨rfl,oT.o.2.2.1⟩
    |true=>
     obtain rfl:false=b:=by rw[<-HB.o];simp[jf,wD.o,oQ.o]
     go_wp2;go_ret;exact⟨rfl,oT.o.2.2.1⟩
  .cases i1 with
   |false=>
    obtain rfl:false=b:=by rw[<-HB.o];simp[jf,wD.o]
    go_wp2;go_ret;exact⟨rfl,oT.o.2.2.1⟩
   |true=>
    obtain rfl:true=b:=by rw[<-HB.o];simp[jf,wD.o]
    go_wp2;go_ret;exact⟨rfl,oT.o.2.2.1⟩
  .cases i1 with
   |false=>
    obtain rfl:false=b:=by rw[<-HB.o];simp[jf,wD.o]
    go_wp2;go_ret;exact⟨rfl,oT.o.2.2.1⟩
   |true=>
    by_cases hl:(c.fields.length:Int)<8
    .by_cases lH:(n.toList==m.toList)=true
     .obtain rfl:false=b:=by rw[<-HB.o];simp[jf,wD.o,hl,lH]
      go_wp2;go_ret;exact⟨rfl,oT.o.2.2.1⟩
     .cases i2 with
      |false=>
       cases i3 with
       |false=>
        obtain rfl:true=b:=by rw[<-HB.o];simp[jf,wD.o,hl,lH,oQ.o,vo.o]
        go_wp2_with fail;refine cG (T2.o _ _ (hM.below oT.o.2.2.1) (im.o.below oT.o.2.2.1)) λw7 iK=> ?_;have vp:=af (oT.o.below iK);clear iK;clear c0 c1 a0 a1 a2 a3 a4 a5 a6 a7;obtain⟨c0,c1⟩:=ah vp.o.1;obtain⟨a0,a1,a2,a3,a4,a5,a6,a7⟩:=ak vp.o.2.1;go_wp2;go_ret;exact⟨rfl,vp.o.2.2.1⟩
       |true=>
        by_cases DK:(m.toList==f.toList)=true
        .obtain rfl:true=b:=by rw[<-HB.o];simp[jf,wD.o,hl,lH,oQ.o,vo.o,DK]
         go_wp2_with fail;refine cG (T2.o _ _ (hM.below oT.o.2.2.1) (im.o.below oT.o.2.2.1)) λw7 iK=> ?_;have vp:=af (oT.o.below iK);clear iK;clear c0 c1 a0 a1 a2 a3 a4 a5 a6 a7;obtain⟨c0,c1⟩:=ah vp.o.1;obtain⟨a0,a1,a2,a3,a4,a5,a6,a7⟩:=ak vp.o.2.1;go_wp2;go_ret;exact⟨rfl,vp.o.2.2.1⟩
        .obtain rfl:false=b:=by rw[<-HB.o];simp[jf,wD.o,hl,lH,oQ.o,vo.o,DK]
         go_wp2;go_ret;exact⟨rfl,oT.o.2.2.1⟩
      |true=>
       by_cases WU:(n.toList==f.toList)=true
       .cases i3 with
        |false=>
         obtain rfl:true=b:=by rw[<-HB.o];simp[jf,wD.o,hl,lH,oQ.o,WU,vo.o]
         go_wp2_with fail;refine cG (T2.o _ _ (hM.below oT.o.2.2.1) (im.o.below oT.o.2.2.1)) λw7 iK=> ?_;have vp:=af (oT.o.below iK);clear iK;clear c0 c1 a0 a1 a2 a3 a4 a5 a6 a7;obtain⟨c0,c1⟩:=ah vp.o.1;obtain⟨a0,a1,a2,a3,a4,a5,a6,a7⟩:=ak vp.o.2.1;go_wp2;go_ret;exact⟨rfl,vp.o.2.2.1⟩
        |true=>
         by_cases DK:(m.toList==f.toList)=true
         .obtain rfl:true=b:=by rw[<-HB.o];simp[jf,wD.o,hl,lH,oQ.o,WU,vo.o,DK]
          go_wp2_with fail;refine cG (T2.o _ _ (hM.below oT.o.2.2.1) (im.o.below oT.o.2.2.1)) λw7 iK=> ?_;have vp:=af (oT.o.below iK);clear iK;clear c0 c1 a0 a1 a2 a3 a4 a5 a6 a7;obtain⟨c0,c1⟩:=ah vp.o.1;obtain⟨a0,a1,a2,a3,a4,a5,a6,a7⟩:=ak vp.o.2.1;go_wp2;go_ret;exact⟨rfl,vp.o.2.2.1⟩
         .obtain rfl:false=b:=by rw[<-HB.o];simp[jf,wD.o,hl,lH,oQ.o,WU,vo.o,DK]
          go_wp2;go_ret;exact⟨rfl,oT.o.2.2.1⟩
       .obtain rfl:false=b:=by rw[<-HB.o];simp[jf,wD.o,hl,lH,oQ.o,WU]
        go_wp2;go_ret;exact⟨rfl,oT.o.2.2.1⟩
    .obtain rfl:false=b:=by rw[<-HB.o];simp[jf,wD.o,hl]
     go_wp2;go_ret;exact⟨rfl,oT.o.2.2.1⟩
  .have qgp:fieldAt c f<c.fields.length:=rE c f;cases i1 with
   |false=>
    go_wp2_with fail;refine cG (lI.o _ (im.o.below oT.o.2.2.1)) λw7 iK=> ?_;have vp:=af (oT.o.below iK);clear iK;clear c0 c1 a0 a1 a2 a3 a4 a5 a6 a7;obtain⟨c0,c1⟩:=ah vp.o.1;obtain⟨a0,a1,a2,a3,a4,a5,a6,a7⟩:=ak vp.o.2.1;obtain rfl:false=b:=by rw[<-HB.o];simp[jf,wD.o]
    go_wp2;go_ret;exact⟨rfl,vp.o.2.2.1⟩
   |true=>
    obtain⟨q,fd,hq,AX,WV⟩:=Cr wD.o;obtain rfl:(q:Int)=p1:=by rw[<-Np.o,hq,if_neg (by omega)]
    have hql:=(Qad.1 AX).1;obtain⟨bl,off,rfl,Dl,cw,aG⟩:=tP.o (by omega);obtain⟨cs,⟨rfl,_⟩,hfc⟩:=aG q fd AX;have iB:aU w bl (off+q*4+1) (xI fd.type.kind):=hfc 1 _ rfl;have NL:yu c f=fd.type.kind:=by unfold yu;rw[hq];simp[AX]
    go_wp2_with fail;refine cG (lI.o _ (im.o.below oT.o.2.2.1)) λw7 iK=> ?_;have vp:=af (oT.o.below iK);clear iK;clear c0 c1 a0 a1 a2 a3 a4 a5 a6 a7;obtain⟨c0,c1⟩:=ah vp.o.1;obtain⟨a0,a1,a2,a3,a4,a5,a6,a7⟩:=ak vp.o.2.1;have jh:aU w7 bl (off+q*4+1) (xI fd.type.kind):=(vp.o.2.2.1.cell (p:=⟨bl,off+q*4+1,none⟩) cw).trans iB;clear iB aG hfc WV hq AX;by_cases DL:fd.type.kind<=3
    .obtain rfl:true=b:=by rw[<-HB.o];simp[jf,wD.o,NL,DL]
     go_wp2;go_ret;exact⟨rfl,vp.o.2.2.1⟩
    .obtain rfl:false=b:=by rw[<-HB.o];simp[jf,wD.o,NL,DL]
     go_wp2;go_ret;exact⟨ba (by simp[DL]),vp.o.2.2.1⟩
def uI {a b:aT}:bV a b=true↔a=b:=⟨λh=>uH h,λh=>by subst h;simp[bV]⟩
def Ec {a b:aT}(h:a≠b):bV a b=false:=by
 cases hq:bV a b with
 |false=>rfl
 |true=>exact absurd (uI.1 hq) h
def cr(x:aB)(f:ay):List ay:=
 if !(bV f.name x.field)||decide (x.kind=1)then[f]
 else if x.kind=2 then[]else if x.kind=3 then[⟨x.name,f.type,f.indexed⟩]else if x.kind=4 then[⟨f.name,x.type,false⟩]
 else if x.kind=5 then[⟨x.name,x.type,false⟩,⟨x.more,x.type,false⟩]else[⟨f.name,f.type,!f.indexed⟩]
def Kn(x:aB):List ay:=if x.kind=1 then[⟨x.name,x.type,false⟩]else[]
def bT(c:az)(x:aB):az:=⟨c.name,c.fields.flatMap (cr x)++Kn x⟩
def dV(c:az):aM c=true↔aE c.name=true/\c.fields.length<=8/\(∀f∈c.fields,bC f=true)/\(c.fields.map (·.name)).Nodup:=by
 rw[bc];refine and_congr_right λ_=>and_congr_right λ_=>⟨λh=>⟨λf hf=> ?_,?_⟩,λ⟨h1,h2⟩j f hj hf=>⟨h1 f (Qaf hf),?_⟩⟩
 .obtain⟨i,hi⟩:=List.getElem?_of_mem hf;exact(h i f (Qad.1 hi).1 hi).1
 .rw[List.Nodup,List.pairwise_iff_getElem];intro i j hi hj hij e;simp only[Qdc]at hi hj;simp only[List.getElem_map]at e;have a1:=(h i _ hi (Qac hi)).2;have a2:=(h j _ hj (Qac hj)).2;rw[e]at a1;omega
 .refine idxOf_hit (k:=j) (x:=f) (λy hy=> ?_) hf (uI.2 rfl);refine Ec λe=> ?_;obtain⟨i,hi⟩:=List.getElem?_of_mem hy;have zV:i<j:=by
   have:=(Qad.1 hi).1;simp at this;omega
  have TO:=lS hi;rw[List.Nodup,List.pairwise_iff_getElem]at h2;have hl:=(Qad.1 TO);have zU:=(Qad.1 hf);refine h2 i j (by simpa using hl.1) (by simpa using zU.1) zV ?_;simp only[List.getElem_map,hl.2,zU.2,e]
structure iy(c:az)(s:aT)(pre:List ay)(f:ay)(post:List ay):Prop where
 eq:c.fields=pre++f::post
 name:f.name=s
 at_:fieldAt c s=pre.length
 pre_:∀g∈pre,g.name≠s
 post_:∀g∈post,g.name≠s
def nC(hc:aM c=true)(h:hasB c s=true):∃pre f post,iy c s pre f post:=by
 obtain⟨i,f,ha,hf,rfl⟩:=Cr h;obtain⟨hi,he⟩:=Qad.1 hf;have R8:=((dV c).1 hc).2.2.2;have YK:c.fields=c.fields.take i++f::c.fields.drop (i+1):=by
  rw[<-he,List.getElem_cons_drop,List.take_append_drop]
 rw[YK]at R8;simp only[List.map_append,List.map_cons,List.nodup_append,List.nodup_cons]at R8;refine⟨c.fields.take i,f,c.fields.drop (i+1),YK,rfl,by rw[ha,Qdb];omega,λg hg e=> ?_,λg hg e=> ?_⟩
 .exact R8.2.2 g.name (List.mem_map_of_mem hg) f.name (List.mem_cons_self) e
 .exact R8.2.1.1 (e▸List.mem_map_of_mem (f:=λg:ay=>g.name) hg)
def Ct {g:ay}(h:g.name≠x.field):cr x g=[g]:=by
 unfold cr;simp[Ec h]
def sI {l:List ay}(h:∀g∈l,g.name≠x.field):l.flatMap (cr x)=l:=by
 induction l with
 |nil=>rfl
 |cons a r ih=>
  rw[List.flatMap_cons,Ct (h a List.mem_cons_self),ih λg hg=>h g (List.mem_cons_of_mem _ hg)];rfl
def iS(x:aB)(f:ay):List ay:=
 if x.kind=2 then[]else if x.kind=3 then[⟨x.name,f.type,f.indexed⟩]else if x.kind=4 then[⟨f.name,x.type,false⟩]
 else if x.kind=5 then[⟨x.name,x.type,false⟩,⟨x.more,x.type,false⟩]else[⟨f.name,f.type,!f.indexed⟩]
def fg {pre post:List ay}(h:iy c x.field pre f post)(hk:x.kind≠1):bT c x=⟨c.name,pre++iS x f++post⟩:=by
 have e:cr x f=iS x f:=by unfold cr iS;rw[h.name];simp[uI.2 rfl,hk]
 unfold bT Kn;rw[h.eq,List.flatMap_append,List.flatMap_cons,sI h.pre_,sI h.post_,e];simp[hk]
def qe(hk:x.kind=1):bT c x=⟨c.name,c.fields++[⟨x.name,x.type,false⟩]⟩:=by
 have e:∀l:List ay,l.flatMap (cr x)=l:=λl=>by
  induction l with
  |nil=>rfl
  |cons a r ih=>rw[List.flatMap_cons,ih];simp[cr,hk]
 unfold bT Kn;rw[e,if_pos hk]
def Hp(h:hasB c s=false):∀g∈c.fields,g.name≠s:=by
 intro g hg e;obtain⟨i,hi⟩:=List.getElem?_of_mem hg;have:=vy hi;rw[e]at this;unfold hasB at h;simp at h;omega
def mL {pre post UC:List ay}(hc:aM ⟨nm,pre++f::post⟩=true)(hl:pre.length+UC.length+post.length<=8)(hm:∀g∈UC,bC g=true)(hn:(UC.map (·.name)).Nodup)(hd:∀g∈UC,∀k,k∈pre\/k∈post->k.name≠g.name):
 aM ⟨nm,pre++UC++post⟩=true:=by
 obtain⟨h1,h2,h3,h4⟩:=(dV _).1 hc;refine(dV _).2 ⟨h1,by simp;omega,λg hg=> ?_,?_⟩
 .simp only[Qch]at hg;rcases hg with(hg|hg)|hg
  .exact h3 g (by simp[hg])
  .exact hm g hg
  .exact h3 g (by simp[hg])
 .simp only[List.map_append,List.map_cons,List.nodup_append,List.nodup_cons]at h4⊢;refine⟨⟨h4.1,hn,λa ha b hb=> ?_⟩,h4.2.1.2,λa ha b hb=> ?_⟩
  .obtain⟨g,hg,rfl⟩:=List.mem_map.1 ha;obtain⟨k,hk,rfl⟩:=List.mem_map.1 hb;exact hd k hk g (.inl hg)
  .rcases Qch.1 ha with ha|ha
   .exact h4.2.2 a ha b (List.mem_cons_of_mem _ hb)
   .obtain⟨g,hg,rfl⟩:=List.mem_map.1 ha;obtain⟨k,hk,rfl⟩:=List.mem_map.1 hb;exactλe=>hd g hg k (.inr hk) e.symm
def vE(h:bC f=true):aE f.name=true/\aF f.type=true/\(f.indexed=true->f.type.kind<=3):=by
 unfold bC at h;simp only[Qce,Bool.or_eq_true,Bool.not_eq_true',decide_eq_true_eq]at h;exact⟨h.1.1,h.1.2,λhi=>by rcases h.2 with h|h;rw[hi]at h;cases h;exact h⟩
def mM {n:aT}{t:aR}{i:Bool}(hn:aE n=true)(ht:aF t=true)(hi:i=true->t.kind<=3):bC ⟨n,t,i⟩=true:=by
 unfold bC;cases i with
 |false=>simp[hn,ht]
 |true=>simp[hn,ht,hi rfl]
def Ed(hc:aM c=true)(hp:qT c x)(hb:jf c x=true):aM (bT c x)=true:=by
 obtain⟨h1,h2,h3,h4⟩:=(dV _).1 hc;have hk:x.kind=1\/x.kind=2\/x.kind=3\/x.kind=4\/x.kind=5\/x.kind=6:=by have:=hp.sh;simp only[nB]at this;omega
 by_cases qM:x.kind=1
 .rw[qe qM];have iI:=hb;unfold jf at iI;rw[if_pos qM]at iI;simp only[Qce,decide_eq_true_eq,Bool.not_eq_true']at iI;have Gi:=Hp iI.2;refine(dV _).2 ⟨h1,by simp;omega,λg hg=> ?_,?_⟩
  .simp only[Qch,Qdf,List.not_mem_nil,or_false]at hg;rcases hg with hg|rfl
   .exact h3 g hg
   .exact mM (hp.name (.inl qM)) (hp.type (.inl qM)) (λh=>by cases h)
  .simp only[List.map_append,List.map_cons,List.map_nil,List.nodup_append,List.nodup_cons];refine⟨h4,⟨by simp,by simp⟩,λa ha b hb=> ?_⟩;obtain⟨g,hg,rfl⟩:=List.mem_map.1 ha;simp at hb;subst hb;exact Gi g hg
 .have hf:hasB c x.field=true:=by
   have iI:=hb;unfold jf at iI;rw[if_neg qM]at iI;rcases hk with h|h|h|h|h|h
   .exact absurd h qM
   all_goals simp[h]at iI;first|exact iI|exact iI.1|exact iI.1.1|exact iI.1.1.1.1
  obtain⟨pre,f,post,ha⟩:=nC hc hf;rw[fg ha qM];have hc':aM ⟨c.name,pre++f::post⟩=true:=by rw[<-ha.eq];exact hc
  have hlen:pre.length+1+post.length<=8:=by have:=h2;rw[ha.eq]at this;simp at this;omega
  have oU:=vE (h3 f (by rw[ha.eq];simp));have hold:∀k,k∈pre\/k∈post->k∈c.fields/\k.name≠x.field:=λk hk=>by
   rcases hk with hk|hk
   .exact⟨by rw[ha.eq];simp[hk],ha.pre_ k hk⟩
   .exact⟨by rw[ha.eq];simp[hk],ha.post_ k hk⟩
  unfold jf at hb;rw[if_neg qM]at hb;rcases hk with hk|hk|hk|hk|hk|hk
  .exact absurd hk qM
  .have e:iS x f=[]:=by simp[iS,hk]
   rw[e];exact mL hc' (by simp;omega) (λg hg=>by simp at hg) (by simp) (λg hg=>by simp at hg)
  .have e:iS x f=[⟨x.name,f.type,f.indexed⟩]:=by simp[iS,hk]
   simp[hk]at hb;rw[e];refine mL hc' (by simp;omega) (λg hg=> ?_) (by simp) (λg hg k hk=> ?_)
   .simp at hg;subst hg;exact mM (hp.name (.inr (.inl hk))) oU.2.1 oU.2.2
   .simp at hg;subst hg;exact Hp hb.2 k (hold k hk).1
  .have e:iS x f=[⟨f.name,x.type,false⟩]:=by simp[iS,hk]
   rw[e];refine mL hc' (by simp;omega) (λg hg=> ?_) (by simp) (λg hg k hk=> ?_)
   .simp at hg;subst hg;exact mM oU.1 (hp.type (.inr (.inl hk))) (λh=>by cases h)
   .simp at hg;subst hg;have:=(hold k hk).2;rw[<-ha.name]at this;exact this
  .have e:iS x f=[⟨x.name,x.type,false⟩,⟨x.more,x.type,false⟩]:=by simp[iS,hk]
   simp only[hk]at hb;simp at hb;have iG:x.name≠x.more:=λh=>hb.1.1.2 (by rw[h]);have ho:∀(s:aT),(hasB c s=false\/s.toList=x.field.toList)->∀k,k∈pre\/k∈post->k.name≠s:=λs hs k hk=>by
    rcases hs with hs|hs
    .exact Hp hs k (hold k hk).1
    .have:s=x.field:=uH (by simp[hs]);rw[this];exact(hold k hk).2
   rw[e];have YL:c.fields.length<8:=by have:=hb.1.1.1.2;omega
   have hl9:pre.length+1+post.length<8:=by have:=YL;rw[ha.eq]at this;simp at this;omega
   refine mL hc' (by simp;omega) (λg hg=> ?_) (by simp[iG]) (λg hg k hk=> ?_)
   .simp at hg;rcases hg with rfl|rfl
    .exact mM (hp.name (.inr (.inr hk))) (hp.type (.inr (.inr hk))) (λh=>by cases h)
    .exact mM (hp.more hk) (hp.type (.inr (.inr hk))) (λh=>by cases h)
   .simp at hg;rcases hg with rfl|rfl
    .exact ho _ hb.1.2 k hk
    .exact ho _ hb.2 k hk
  .have e:iS x f=[⟨f.name,f.type,!f.indexed⟩]:=by simp[iS,hk]
   simp[hk]at hb;have DL:f.type.kind<=3:=by
    have h:=hb.2;unfold yu at h;rw[ha.at_,ha.eq]at h;simpa using h
   rw[e];refine mL hc' (by simp;omega) (λg hg=> ?_) (by simp) (λg hg k hk=> ?_)
   .simp at hg;subst hg;exact mM oU.1 oU.2.1 (λ_=>DL)
   .simp at hg;subst hg;have:=(hold k hk).2;rw[<-ha.name]at this;exact this
inductive lN(c:az):ax->aR->Prop
 |num(n:Int):0<=n->n<=9->lN c (nE n) ⟨1,0⟩
 |txt(s:List UInt8):s∈([[120],[45],[98],[110,111],[97,32,98]]:List (List UInt8))->lN c (tE s) ⟨2,0⟩
 |fld(f:ay)(i:Nat):fieldAt c f.name=i->c.fields[i]? =some f->lN c (.mk 3 0 f.name []) f.type
 |ari(s:List UInt8)(a b:ax):s=[42]\/s=[45]\/s=[47]->lN c a ⟨1,0⟩->lN c b ⟨1,0⟩->lN c (Kc s a b) ⟨1,0⟩
 |cat(a b:ax):lN c a ⟨2,0⟩->lN c b ⟨2,0⟩->lN c (Kc [38] a b) ⟨2,0⟩
 |cmp(s:List UInt8)(a b:ax):s=[61]\/s=[62]->lN c a ⟨1,0⟩->lN c b ⟨1,0⟩->lN c (Kc s a b) ⟨1,0⟩
 |len(a:ax):lN c a ⟨2,0⟩->lN c (mF [108,101,110] [a]) ⟨1,0⟩
 |text(a:ax):lN c a ⟨1,0⟩->lN c (mF [116,101,120,116] [a]) ⟨2,0⟩
 |left(a b:ax):lN c a ⟨2,0⟩->lN c b ⟨1,0⟩->lN c (mF [108,101,102,116] [a,b]) ⟨2,0⟩
 |from_(a b:ax):lN c a ⟨2,0⟩->lN c b ⟨1,0⟩->lN c (mF [102,114,111,109] [a,b]) ⟨2,0⟩
 |find(a b:ax):lN c a ⟨2,0⟩->lN c b ⟨2,0⟩->lN c (mF [102,105,110,100] [a,b]) ⟨1,0⟩
 |ite(a b d:ax)(p:Int):p=1\/p=2->lN c a ⟨1,0⟩->lN c b ⟨p,0⟩->lN c d ⟨p,0⟩->lN c (mF [105,102] [a,b,d]) ⟨p,0⟩
def Hq(hc:aM c=true)(hn:∀f∈c.fields,f.name.data.toList∈names9)(hf:f∈c.fields):lN c (uu f.name.data.toList) f.type:=by
 obtain⟨h1,h2,_⟩:=rF _ (hn f hf);obtain⟨i,h3,h4⟩:=yr hc hf;unfold uu;rw[if_neg h1,if_neg h2];unfold fE;rw[Kl];exact .fld f i h3 h4
def Ou(hc:aM c=true)(hn:∀f∈c.fields,f.name.data.toList∈names9)(h:uG c s):s.data.toList∈[55]::names9/\lN c (uu s.data.toList) ⟨1,0⟩:=by
 rcases h with rfl|⟨f,hf,ht,rfl⟩
 .exact⟨by decide, .num 7 (by omega) (by omega)⟩
 .exact⟨List.mem_cons_of_mem _ (hn f hf),ht▸Hq hc hn hf⟩
def Ko(hc:aM c=true)(hn:∀f∈c.fields,f.name.data.toList∈names9)(h:qc c s):s.data.toList∈[34,97,32,98,34]::names9/\lN c (uu s.data.toList) ⟨2,0⟩:=by
 rcases h with rfl|⟨f,hf,ht,rfl⟩
 .exact⟨by decide, .txt [97,32,98] (by decide)⟩
 .exact⟨List.mem_cons_of_mem _ (hn f hf),ht▸Hq hc hn hf⟩
def SN {num txt:ax}(hx:lN c num ⟨1,0⟩)(hy:lN c txt ⟨2,0⟩):∀x∈pg num txt,lN c x ⟨1,0⟩:=by
 intro x hm;simp only[pg,Qdf,List.not_mem_nil,or_false]at hm;rcases hm with rfl|rfl|rfl|rfl|rfl|rfl|rfl
 .exact .num 3 (by omega) (by omega)
 .exact hx
 .exact .ari _ _ _ (.inr (.inl rfl)) (.ari _ _ _ (.inl rfl) hx (.num 2 (by omega) (by omega))) (.num 1 (by omega) (by omega))
 .exact .len _ hy
 .exact .ite _ _ _ 1 (.inl rfl) (.cmp _ _ _ (.inr rfl) hx (.num 2 (by omega) (by omega))) hx (.ari _ _ _ (.inr (.inl rfl)) (.num 0 (by omega) (by omega)) hx)
 .exact .find _ _ (.txt _ (by decide)) hy
 .exact .ari _ _ _ (.inr (.inr rfl)) hx hx
def Ov {num txt:ax}(hx:lN c num ⟨1,0⟩)(hy:lN c txt ⟨2,0⟩):∀x∈mG num txt,lN c x ⟨2,0⟩:=by
 intro x hm;simp only[mG,Qdf,List.not_mem_nil,or_false]at hm;rcases hm with rfl|rfl|rfl|rfl|rfl|rfl|rfl
 .exact .txt _ (by decide)
 .exact hy
 .exact .cat _ _ (.cat _ _ hy (.txt _ (by decide))) hy
 .exact .text _ hx
 .exact .left _ _ hy (.num 2 (by omega) (by omega))
 .exact .from_ _ _ hy (.num 3 (by omega) (by omega))
 .exact .ite _ _ _ 2 (.inr rfl) (.cmp _ _ _ (.inl rfl) hx (.num 1 (by omega) (by omega))) hy (.txt _ (by decide))
structure Ow(c:az)(t:aR)(s:List UInt8)(x:ax):Prop where
 parse:ed s=some x
 kind:jk c x t
 ty:lN c x t
def Ee(hc:aM c=true)(hn:∀f∈c.fields,f.name.data.toList∈names9){t:aR}(h:hZ c t s)(hs:s.data.toList≠[]):∃x,Ow c t s.data.toList x:=by
 rcases h with⟨rfl,num,txt,h1,h2,h3⟩|⟨rfl,num,txt,h1,h2,h3⟩|⟨h1,h2,h3⟩
 .obtain⟨a1,a2⟩:=Km hc hn h1;obtain⟨b1,b2⟩:=D9 hc hn h2;have hm:s.data.toList∈VE num.data.toList txt.data.toList:=by
   simp only[pA,Qdf,List.not_mem_nil,or_false]at h3;rcases h3 with rfl|rfl|rfl|rfl|rfl|rfl|rfl|rfl
   .exact absurd rfl hs
   all_goals simp[VE,Joins.data_append]
  have hall:=List.all_eq_true.1 (List.all_eq_true.1 N7 _ a1) _ b1;obtain⟨x,hx,oS⟩:=Oo hall rfl hm;exact⟨x,uw oS,LD a2 b2 x hx,SN (Ou hc hn h1).2 (Ko hc hn h2).2 x hx⟩
 .obtain⟨a1,a2⟩:=Km hc hn h1;obtain⟨b1,b2⟩:=D9 hc hn h2;have hm:s.data.toList∈G5 num.data.toList txt.data.toList:=by
   simp only[mK,Qdf,List.not_mem_nil,or_false]at h3;rcases h3 with rfl|rfl|rfl|rfl|rfl|rfl|rfl|rfl
   .exact absurd rfl hs
   all_goals simp[G5,Joins.data_append]
  have hall:=List.all_eq_true.1 (List.all_eq_true.1 Lr _ a1) _ b1;obtain⟨x,hx,oS⟩:=Oo hall rfl hm;exact⟨x,uw oS,Hn a2 b2 x hx,Ov (Ou hc hn h1).2 (Ko hc hn h2).2 x hx⟩
 .rcases h3 with rfl|⟨f,hf,ht,rfl⟩
  .exact absurd rfl hs
  .have h9:=hn f hf;have oS:=List.all_eq_true.1 Ls _ h9;have hk:=yt hc hn hf;have si:=Hq hc hn hf;obtain⟨q1,q2,_⟩:=rF _ h9;unfold uu at hk si;rw[if_neg q1,if_neg q2,ht]at hk si;exact⟨_,uw oS,hk,si⟩
def pB(c:az)(t:aR)(s:aT):Prop:=s.data.toList=[]\/∃x,Ow c t s.data.toList x
theorem pB.oy {t:aR}(h:pB c t s):sH c t s:=h.imp_right λ⟨x,hx⟩=>⟨x,hx.parse,hx.kind⟩
structure iT(c:az)(x:aB):Prop where
 pre:qT c x
 expr:pB c x.type x.expr
 other:pB c x.type x.other
 name9:(x.kind=1\/x.kind=3\/x.kind=5)->x.name.data.toList∈names9
 more9:x.kind=5->x.more.data.toList∈names9
structure cA(c:az):Prop where
 right:aM c=true
 names:∀f∈c.fields,f.name.data.toList∈names9
 small:c.name.size<=20
def Cu:∀s∈names9,s.length<=20:=by decide
def yx(h:s.data.toList∈names9):s.size<=20:=by have:=Cu _ h;rwa [bh]at this
def LF(hg:iT c x)(hf:f.name.data.toList∈names9):∀g∈iS x f,g.name.data.toList∈names9:=by
 intro g h;unfold iS at h;split at h
 .simp at h
 .split at h
  .rename_i hk;simp at h;subst h;exact hg.name9 (.inr (.inl hk))
  .split at h
   .simp at h;subst h;exact hf
   .split at h
    .rename_i hk;simp at h;rcases h with rfl|rfl
     .exact hg.name9 (.inr (.inr hk))
     .exact hg.more9 hk
    .simp at h;subst h;exact hf
def SO(hs:nB x)(hb:jf c x=true)(qM:x.kind≠1):hasB c x.field=true:=by
 have hk:x.kind=1\/x.kind=2\/x.kind=3\/x.kind=4\/x.kind=5\/x.kind=6:=by simp only[nB]at hs;omega
 unfold jf at hb;rw[if_neg qM]at hb;rcases hk with h|h|h|h|h|h
 .exact absurd h qM
 all_goals simp[h]at hb;first|exact hb|exact hb.1|exact hb.1.1|exact hb.1.1.1.1
def Ox(hc:cA c)(hg:iT c x)(hb:jf c x=true):cA (bT c x):=by
 refine⟨Ed hc.right hg.pre hb,?_,hc.small⟩;by_cases hk:x.kind=1
 .rw[qe hk];intro f hf;simp only[Qch,Qdf,List.not_mem_nil,or_false]at hf;rcases hf with hf|rfl
  .exact hc.names f hf
  .exact hg.name9 (.inl hk)
 .obtain⟨pre,f,post,ha⟩:=nC hc.right (SO hg.pre.sh hb hk);rw[fg ha hk];have jn:∀g,g∈pre++f::post->g.name.data.toList∈names9:=λg hg=>hc.names g (by rw[ha.eq];exact hg);intro g h;simp only[Qch]at h;rcases h with(h|h)|h
  .exact jn g (by simp[h])
  .exact LF hg (jn f (by simp)) g h
  .exact jn g (by simp[h])
inductive cU:az->List aB->az->Prop
 |nil(c:az):cU c [] c
 |cons(c d:az)(x:aB)(l:List aB):iT c x->jf c x=true->cU (bT c x) l d->cU c (x::l) d
theorem cU.ok {l:List aB}(h:cU c l d)(hc:cA c):cA d:=by
 induction h with
 |nil c=>exact hc
 |cons c d x l hg hb _ ih=>exact ih (Ox hc hg hb)
theorem cU.snoc {l:List aB}(h:cU c l d)(hg:iT d x)(hb:jf d x=true):cU c (l++[x]) (bT d x):=by
 induction h with
 |nil c=>exact .cons _ _ _ _ hg hb (.nil _)
 |cons c d y l h1 h2 _ ih=>exact .cons _ _ _ _ h1 h2 (ih hg hb)
theorem cU.split {l:List aB}(h:cU c l d)(i:Nat):∃e,cU c (l.take i) e/\cU e (l.drop i) d:=by
 induction h generalizing i with
 |nil c=>exact⟨c,by simpa using cU.nil c,by simpa using cU.nil c⟩
 |cons c d y l h1 h2 h3 ih=>
  cases i with
  |zero=>exact⟨c, .nil c, .cons _ _ _ _ h1 h2 h3⟩
  |succ i=>
   obtain⟨e,k1,k2⟩:=ih i;exact⟨e, .cons _ _ _ _ h1 h2 k1,k2⟩
theorem cU.eq {e:az}{l:List aB}(h:cU c l d)(k:cU c l e):d=e:=by
 induction h with
 |nil c=>cases k;rfl
 |cons c d y l h1 h2 h3 ih=>cases k with|cons _ _ _ _ _ _ k3=>exact ih k3
def qg(hK:W.heap.size=K)(o:Obj):(W.alloc o).heap[K]? =some o:=by subst hK;exact Qbh W o
def Bj {α:Type} [aA α]{xs:List α}{cells:Array an}(css:List (List an))(hM:¬M K)(hK:cI W K (.cells cells t (0,0)))(hc:cells.toList=css.flatten)(hl:css.length=xs.length)
 (hr:∀(i:Nat)(cs:List an)(x:α),css[i]? =some cs->xs[i]? =some x->aA.rep M W cs x)(hm:xs.length<=maxLen):ab M W (xL (some ⟨K,0,none⟩) xs.length xs.length) xs:=by
 have hsz:∀(n:Nat)(css:List (List an))(xs:List α),css.length=n->xs.length=n->(∀(i:Nat)(cs:List an)(x:α),css[i]? =some cs->xs[i]? =some x->aA.rep M W cs x)->css.flatten.length=n*aA.size α:=by
  intro n;induction n with
  |zero=>intro css xs h1 _ _;rw[List.length_eq_zero_iff.1 h1];simp
  |succ n ih=>
   intro css xs h1 h2 h;match css,xs,h1,h2 with
   |c::css,x::xs,h1,h2=>
    rw[List.flatten_cons,Qda,ih css xs (by simpa using h1) (by simpa using h2) (λi cs y hc hy=>h (i+1) cs y (by simpa using hc) (by simpa using hy)),aA.len (h 0 c x rfl rfl),Nat.succ_mul];omega
 refine⟨css,⟨hsz _ css xs hl rfl hr,some ⟨K,0,none⟩,xs.length,rfl,bq,hm,λ_=>⟨K,0,rfl,hM,(Qaa.1 hK).1,λj u hu=> ?_⟩⟩,hl,hr⟩;rw[Nat.zero_add];rw[<-hc]at hu;exact cell_of_heap hK (by simpa using hu)
def Hr(f:ay):List an:=[xS f.name,xI f.type.kind,xI f.type.of,xB f.indexed]
def mN(f:ay)(hs:f.name.size<=maxLen)(hM:¬M K)(hK:cI W K (xK #[xS f.name,xI f.type.kind,xI f.type.of,xB f.indexed] t)):ab M W (xL (some ⟨K,0,none⟩) 1 1) [f]:=
 Bj [Hr f] hM hK rfl rfl (λi cs x hc hx=>by
  match i with
  |0=>simp at hc hx;subst hc hx;exact⟨rfl,hs⟩
  |n+1=>simp at hc) (by unfold maxLen;simp)
def Hs(f g:ay)(hs:f.name.size<=maxLen)(hg:g.name.size<=maxLen)(hM:¬M K)(hK:cI W K (xK #[xS f.name,xI f.type.kind,xI f.type.of,xB f.indexed,xS g.name,xI g.type.kind,xI g.type.of,xB g.indexed] t)):ab M W (xL (some ⟨K,0,none⟩) 2 2) [f,g]:=
 Bj [Hr f,Hr g] hM hK rfl rfl (λi cs x hc hx=>by
  match i with
  |0=>simp at hc hx;subst hc hx;exact⟨rfl,hs⟩
  |1=>simp at hc hx;subst hc hx;exact⟨rfl,hg⟩
  |n+2=>simp at hc) (by unfold maxLen;simp)
def Ht(x:aB)(f:ay)(hk:x.kind=1\/x.kind=2\/x.kind=3\/x.kind=4\/x.kind=5\/x.kind=6)(hs:f.name.size<=maxLen)(dB:x.name.size<=maxLen)(jC:x.more.size<=maxLen)(M:aS)(w:aj)(hM:Bd M w):
 xG 177 #[.agg #[xS f.name,xI f.type.kind,xI f.type.of,xB f.indexed], .agg #[xI x.kind,xS x.field,xS x.name,xS x.more,xI x.type.kind,xI x.type.of,xS x.expr,xS x.other]] w λv w'=>ab M w' v (cr x f):=by
 have YM:∀K,w.heap.size<=K->¬M K:=λK h hm=>by have:=hM K hm;omega
 obtain⟨k,fi,n,m,⟨tk,tf⟩,e,o⟩:=x;obtain⟨fn,⟨fk,fo⟩,ix⟩:=f;dsimp only at*;by_cases hq:(fn.toList==fi.toList)=true
 .rcases hk with rfl|rfl|rfl|rfl|rfl|rfl
  .have ht:cr ⟨1,fi,n,m,⟨tk,tf⟩,e,o⟩ ⟨fn,⟨fk,fo⟩,ix⟩=[⟨fn,⟨fk,fo⟩,ix⟩]:=by simp[cr]
   rw[ht];have HT:=af ht;go_enter func177,ntmps177;go_wp2;go_ret;exact⟨_,rfl,mN ⟨fn,⟨fk,fo⟩,ix⟩ hs (YM _ (by omega)) (qg (by simp) _),(by repeat(first|exact Qbg _ _|refine Below.setCell ?_ (by simp<;>omega) _|refine Below.alloc ?_ (by simp<;>omega) _))⟩
  .have ht:cr ⟨2,fi,n,m,⟨tk,tf⟩,e,o⟩ ⟨fn,⟨fk,fo⟩,ix⟩=[]:=by simp[cr,bV,hq]
   rw[ht];have HT:=af ht;go_enter func177,ntmps177;go_wp2;go_ret;exact⟨_,rfl,ab.nil _ _,(by repeat(first|exact Qbg _ _|refine Below.setCell ?_ (by simp<;>omega) _|refine Below.alloc ?_ (by simp<;>omega) _))⟩
  .have ht:cr ⟨3,fi,n,m,⟨tk,tf⟩,e,o⟩ ⟨fn,⟨fk,fo⟩,ix⟩=[⟨n,⟨fk,fo⟩,ix⟩]:=by simp[cr,bV,hq]
   rw[ht];have HT:=af ht;go_enter func177,ntmps177;go_wp2;go_ret;exact⟨_,rfl,mN ⟨n,⟨fk,fo⟩,ix⟩ dB (YM _ (by omega)) (qg (by simp) _),(by repeat(first|exact Qbg _ _|refine Below.setCell ?_ (by simp<;>omega) _|refine Below.alloc ?_ (by simp<;>omega) _))⟩
  .have ht:cr ⟨4,fi,n,m,⟨tk,tf⟩,e,o⟩ ⟨fn,⟨fk,fo⟩,ix⟩=[⟨fn,⟨tk,tf⟩,false⟩]:=by simp[cr,bV,hq]
   rw[ht];have HT:=af ht;go_enter func177,ntmps177;go_wp2;go_ret;exact⟨_,rfl,mN ⟨fn,⟨tk,tf⟩,false⟩ hs (YM _ (by omega)) (qg (by simp) _),(by repeat(first|exact Qbg _ _|refine Below.setCell ?_ (by simp<;>omega) _|refine Below.alloc ?_ (by simp<;>omega) _))⟩
  .have ht:cr ⟨5,fi,n,m,⟨tk,tf⟩,e,o⟩ ⟨fn,⟨fk,fo⟩,ix⟩=[⟨n,⟨tk,tf⟩,false⟩,⟨m,⟨tk,tf⟩,false⟩]:=by simp[cr,bV,hq]
   rw[ht];have HT:=af ht;go_enter func177,ntmps177;go_wp2;go_ret;exact⟨_,rfl,Hs ⟨n,⟨tk,tf⟩,false⟩ ⟨m,⟨tk,tf⟩,false⟩ dB jC (YM _ (by omega)) (qg (by simp) _),(by repeat(first|exact Qbg _ _|refine Below.setCell ?_ (by simp<;>omega) _|refine Below.alloc ?_ (by simp<;>omega) _))⟩
  .have ht:cr ⟨6,fi,n,m,⟨tk,tf⟩,e,o⟩ ⟨fn,⟨fk,fo⟩,ix⟩=[⟨fn,⟨fk,fo⟩,!ix⟩]:=by simp[cr,bV,hq]
   rw[ht];have HT:=af ht;go_enter func177,ntmps177;go_wp2;go_ret;exact⟨_,rfl,mN ⟨fn,⟨fk,fo⟩,!ix⟩ hs (YM _ (by omega)) (qg (by simp) _),(by repeat(first|exact Qbg _ _|refine Below.setCell ?_ (by simp<;>omega) _|refine Below.alloc ?_ (by simp<;>omega) _))⟩
 .have ht:cr ⟨k,fi,n,m,⟨tk,tf⟩,e,o⟩ ⟨fn,⟨fk,fo⟩,ix⟩=[⟨fn,⟨fk,fo⟩,ix⟩]:=by simp[cr,bV,hq]
  rw[ht];have HT:=af ht;go_enter func177,ntmps177;go_wp2;go_ret;exact⟨_,rfl,mN ⟨fn,⟨fk,fo⟩,ix⟩ hs (YM _ (by omega)) (qg (by simp) _),(by repeat(first|exact Qbg _ _|refine Below.setCell ?_ (by simp<;>omega) _|refine Below.alloc ?_ (by simp<;>omega) _))⟩
def au.kind:au->Int| .mk k _ _ _=>k
def au.num:au->Int| .mk _ n _ _=>n
def au.str:au->aT| .mk _ _ s _=>s
def au.list:au->List au| .mk _ _ _ l=>l
def bw(k:Int)(v:au):List Int:=if v.kind=k then[v.num]else(v.list.filter λi=>decide (i.kind=k)).map au.num
def iE {k many j:Int}{v:au}(h:kU k many v)(hj:j=3\/j=4):(v.list=[]/\(v.kind=j->1<=v.num/\v.num<=many))/\(k=1\/k=2->v.kind≠j):=by
 rcases h with⟨rfl,n,rfl,_⟩|⟨rfl,s,rfl,_⟩|⟨hk,rfl|⟨n,rfl,h1,h2⟩⟩
 .exact⟨⟨rfl,λh=>by simp[au.kind]at h;omega⟩,λ_ h=>by simp[au.kind]at h;omega⟩
 .exact⟨⟨rfl,λh=>by simp[au.kind]at h;omega⟩,λ_ h=>by simp[au.kind]at h;omega⟩
 .exact⟨⟨rfl,λh=>by simp[au.kind]at h;omega⟩,λh=>by omega⟩
 .exact⟨⟨rfl,λ_=>⟨h1,h2⟩⟩,λh=>by omega⟩
def nF {t:aR}{many j:Int}{v:au}(h:db t many v)(hj:j=3\/j=4):∀n∈bw j v,1<=n/\n<=many:=by
 intro n hn;unfold bw at hn;rcases h with⟨ht,l,rfl,hl,ha⟩|⟨ht,h1⟩
 .rw[if_neg (by simp[au.kind];omega)]at hn;obtain⟨i,hi,rfl⟩:=List.mem_map.1 hn;obtain⟨h2,h3⟩:=List.mem_filter.1 hi;exact(iE (ha i h2) hj).1.2 (by simpa using h3)
 .obtain⟨⟨h2,h3⟩,_⟩:=iE h1 hj;by_cases hk:v.kind=j
  .rw[if_pos hk]at hn;simp at hn;subst hn;exact h3 hk
  .rw[if_neg hk,h2]at hn;simp at hn
def H9 {t:aR}{many j:Int}{v:au}(h:db t many v)(hj:j=3\/j=4)(ht:t.kind=1\/t.kind=2):bw j v=[]:=by
 unfold bw;rcases h with⟨h5,_⟩|⟨_,h1⟩
 .omega
 .obtain⟨⟨h2,_⟩,h3⟩:=iE h1 hj;rw[if_neg (h3 ht),h2];rfl
def j9(t:aR):au:=if t.kind=3\/t.kind=4 then .mk 0 0 jN []else .mk t.kind 0 jN []
def Kt {t:aR}(ht:aF t=true)(many:Int):db t many (j9 t)/\bw 3 (j9 t)=[]:=by
 unfold aF at ht;by_cases h5:t.kind=5
 .have e:j9 t= .mk 5 0 jN []:=by unfold j9;rw[if_neg (by omega),h5]
  rw[e];exact⟨.inl ⟨h5,[],rfl,by simp,λx h=>by cases h⟩,rfl⟩
 .rw[if_neg h5]at ht;simp at ht;by_cases wR:t.kind=3\/t.kind=4
  .have e:j9 t= .mk 0 0 jN []:=by unfold j9;rw[if_pos wR]
   rw[e];exact⟨.inr ⟨h5, .inr (.inr ⟨wR, .inl rfl⟩)⟩,rfl⟩
  .have e:j9 t= .mk t.kind 0 jN []:=by unfold j9;rw[if_neg wR]
   rw[e];refine⟨.inr ⟨h5,?_⟩,by simp[bw,au.kind,au.list];omega⟩;have:t.kind=1\/t.kind=2:=by omega
   rcases this with h|h
   .exact .inl ⟨h,0,by rw[h],by omega,by omega⟩
   .exact .inr (.inl ⟨h,jN,by rw[h],by decide,iR [] (by decide) (by decide)⟩)
def Ia(c:az)(e:ax)(rs:List (List Int)):List Int:=if e.kind=3 then rs.getD (fieldAt c e.str).toNat []else[]
def kq(c:az)(s:aT)(rs:List (List Int)):List Int:=match ed s.data.toList with|some e=>Ia c e rs|none=>[]
def lW(c:az)(t:aR)(many:Int)(s:aT)(vs:List au)(v:au):Prop:=db t many v/\bw 3 v=kq c s (vs.map (bw 3))
def nG(c:az)(t:aR)(many:Int)(e:ax)(vs:List au)(v:au):Prop:=db t many v/\(e.kind=3->vs[(fieldAt c e.str).toNat]? =some v)
def OG {c:az}{e:ax}{t:aR}(h:lN c e t):e.kind=3\/t.kind=1\/t.kind=2:=by
 cases h<;>first|exact .inl rfl|exact .inr (.inl rfl)|exact .inr (.inr rfl)|skip
 rename_i hp _ _ _;exact .inr hp
def LO {c:az}{t:aR}{many:Int}{e:ax}{vs:List au}{v:au}(hp:ed s.data.toList=some e)(ht:lN c e t)(h:nG c t many e vs v):lW c t many s vs v:=by
 refine⟨h.1,?_⟩;unfold kq;rw[hp];unfold Ia;by_cases hk:e.kind=3
 .simp only[if_pos hk];rw[List.getD_eq_getElem?_getD,List.getElem?_map,h.2 hk];rfl
 .simp only[if_neg hk];exact H9 h.1 (.inl rfl) ((OG ht).resolve_left hk)
def OH {c:az}{t:aR}{many:Int}{vs:List au}(hs:s.data.toList=[])(ht:aF t=true):lW c t many s vs (j9 t):=by
 refine⟨(Kt ht many).1,?_⟩;rw[(Kt ht many).2];unfold kq;rw[hs];have:ed []=none:=by decide
 rw[this]
def mo(c:az)(x:aB)(rs:List (List Int)):List (List Int):=
 if x.kind=1 then rs++[kq c x.expr rs]
 else if x.kind=2 then rs.take (fieldAt c x.field).toNat++rs.drop ((fieldAt c x.field).toNat+1)
 else if x.kind=4 then rs.take (fieldAt c x.field).toNat++kq c x.expr rs::rs.drop ((fieldAt c x.field).toNat+1)
 else if x.kind=5 then rs.take (fieldAt c x.field).toNat++kq c x.expr rs::kq c x.other rs::rs.drop ((fieldAt c x.field).toNat+1)
 else rs
def gW(c:az)(x:aB)(many:Int)(vs vs':List au):Prop:=aW (bT c x).fields many vs'/\vs'.map (bw 3)=mo c x (vs.map (bw 3))
theorem aW.nil(many:Int):aW [] many []:=⟨rfl,λi f v h=>by simp at h⟩
theorem aW.cons {f:ay}{fs:List ay}{many:Int}{v:au}{vs:List au}(h:db f.type many v)(k:aW fs many vs):aW (f::fs) many (v::vs):=
 ⟨by simp[k.1],λi g u hg hu=>by
   cases i with
   |zero=>simp at hg hu;subst hg hu;exact h
   |succ i=>exact k.2 i g u (by simpa using hg) (by simpa using hu)⟩
theorem aW.Ib {f:ay}{fs:List ay}{many:Int}{vs:List au}(h:aW (f::fs) many vs):∃v us,vs=v::us/\db f.type many v/\aW fs many us:=by
 obtain⟨h1,h2⟩:=h;cases vs with
 |nil=>simp at h1
 |cons v us=>exact⟨v,us,rfl,h2 0 f v rfl rfl,by simpa using h1,λi g u hg hu=>h2 (i+1) g u (by simpa using hg) (by simpa using hu)⟩
theorem aW.app {fs gs:List ay}{many:Int}{vs:List au}(h:aW fs many vs)(k:aW gs many us):aW (fs++gs) many (vs++us):=by
 induction fs generalizing vs with
 |nil=>have:=h.1;simp at this;subst this;exact k
 |cons f fs ih=>
  obtain⟨v,vs',rfl,h1,h2⟩:=h.Ib;exact(ih h2).cons h1
theorem aW.Zy {fs gs:List ay}{many:Int}{vs:List au}(h:aW (fs++gs) many vs):aW fs many (vs.take fs.length)/\aW gs many (vs.drop fs.length):=by
 induction fs generalizing vs with
 |nil=>exact⟨by simpa using aW.nil many,by simpa using h⟩
 |cons f fs ih=>
  obtain⟨v,vs',rfl,h1,h2⟩:=aW.Ib h;obtain⟨k1,k2⟩:=ih h2;exact⟨k1.cons h1,by simpa using k2⟩
theorem aW.nC {fs:List ay}{pre post:List ay}{f:ay}{many:Int}{vs:List au}(h:aW fs many vs)(e:fs=pre++f::post):aW pre many (vs.take pre.length)/\aW post many (vs.drop (pre.length+1))/\∃v,vs[pre.length]? =some v/\db f.type many v:=by
 subst e;obtain⟨h1,h2⟩:=h.Zy;obtain⟨v,us,e,h3,h4⟩:=h2.Ib;refine⟨h1,?_,v,?_,h3⟩
 .rw[<-List.drop_drop,e];simpa using h4
 .have:(vs.drop pre.length)[0]? =some v:=by rw[e];rfl
  simpa using this
def OI {c:az}{x:aB}{many:Int}{vs:List au}{v:au}(hk:x.kind=1)(h:aW c.fields many vs)(ht:lW c x.type many x.expr vs v):gW c x many vs (vs++[v]):=by
 refine⟨?_,?_⟩
 .rw[qe hk];exact h.app ((aW.nil many).cons (f:=⟨x.name,x.type,false⟩) ht.1)
 .unfold mo;rw[if_pos hk,List.map_append,<-ht.2];rfl
section
variable {c:az}{x:aB}{many:Int}{vs:List au}{pre post:List ay}{f:ay}
def LP(ha:iy c x.field pre f post)(hk:x.kind=2)(h:aW c.fields many vs):gW c x many vs (vs.take pre.length++vs.drop (pre.length+1)):=by
 obtain⟨h1,h2,_⟩:=h.nC ha.eq;refine⟨?_,?_⟩
 .rw[fg ha (by omega)];have e:iS x f=[]:=by simp[iS,hk]
  rw[e,List.append_nil];exact h1.app h2
 .unfold mo;rw[if_neg (by omega),if_pos hk,ha.at_,List.map_append,List.map_take,List.map_drop];rfl
def LQ(ha:iy c x.field pre f post)(hk:x.kind=3\/x.kind=6)(h:aW c.fields many vs):gW c x many vs vs:=by
 obtain⟨h1,h2,v,hv,h3⟩:=h.nC ha.eq;have e0:vs=vs.take pre.length++v::vs.drop (pre.length+1):=by
  obtain⟨hl,he⟩:=Qad.1 hv;rw[<-he,List.getElem_cons_drop,List.take_append_drop]
 refine⟨?_,?_⟩
 .rw[fg ha (by omega)];obtain⟨g,e,hg⟩:∃g:ay,iS x f=[g]/\g.type=f.type:=by
   rcases hk with hk|hk
   .exact⟨⟨x.name,f.type,f.indexed⟩,by simp[iS,hk],rfl⟩
   .exact⟨⟨f.name,f.type,!f.indexed⟩,by simp[iS,hk],rfl⟩
  rw[e,e0,List.append_assoc];exact h1.app (h2.cons (by rw[hg];exact h3))
 .unfold mo;rw[if_neg (by omega),if_neg (by omega),if_neg (by omega),if_neg (by omega)]
def LR(ha:iy c x.field pre f post)(hk:x.kind=4)(h:aW c.fields many vs){v:au}(ht:lW c x.type many x.expr vs v):gW c x many vs (vs.take pre.length++v::vs.drop (pre.length+1)):=by
 obtain⟨h1,h2,_⟩:=h.nC ha.eq;refine⟨?_,?_⟩
 .rw[fg ha (by omega)];have e:iS x f=[⟨f.name,x.type,false⟩]:=by simp[iS,hk]
  rw[e,List.append_assoc];exact h1.app (h2.cons ht.1)
 .unfold mo;rw[if_neg (by omega),if_neg (by omega),if_pos hk,ha.at_,List.map_append,List.map_cons,List.map_take,List.map_drop,<-ht.2];rfl
def Ic(ha:iy c x.field pre f post)(hk:x.kind=5)(h:aW c.fields many vs){v u:au}(ht:lW c x.type many x.expr vs v)(hu:lW c x.type many x.other vs u):gW c x many vs (vs.take pre.length++v::u::vs.drop (pre.length+1)):=by
 obtain⟨h1,h2,_⟩:=h.nC ha.eq;refine⟨?_,?_⟩
 .rw[fg ha (by omega)];have e:iS x f=[⟨x.name,x.type,false⟩,⟨x.more,x.type,false⟩]:=by simp[iS,hk]
  rw[e,List.append_assoc];exact h1.app ((h2.cons hu.1).cons ht.1)
 .unfold mo;rw[if_neg (by omega),if_neg (by omega),if_neg (by omega),if_pos hk,ha.at_,List.map_append,List.map_cons,List.map_cons,List.map_take,List.map_drop,<-ht.2,<-hu.2];rfl
end
def qi:az->List aB->List (List Int)->List (List Int)
 |_,[],rs=>rs
 |c,x::l,rs=>qi (bT c x) l (mo c x rs)
def Cy(c d:az)(l:List aB)(x:aB)(rs:List (List Int))(h:cU c l d):qi c (l++[x]) rs=mo d x (qi c l rs):=by
 induction h generalizing rs with
 |nil c=>rfl
 |cons c d y l _ _ _ ih=>exact ih _
end Go.Proofs.YtccpcfcochffcaaGreatDoor
