/- A part of OpReads's proof; no condition. -/
import Derived.Test.YtepaofffbkfodaaGreatDoorM03
import Derived.Test.YtepaofffbkfodaaGreatDoorM04
set_option linter.all false
set_option maxHeartbeats 8000000
set_option maxRecDepth 100000
namespace Go.Proofs.YtepaofffbkfodaaGreatDoor
open Tryz
open Go.RowKit
variable{f:az}{s nm:aM}{t:TypeId}{c0 c1 c2 c3:an}{g K:Nat}{W w wx w':aj}{o o0 o1:Obj}{x:aC}{c d:ax}{M:aN}{us:List aA}
def JL(c:ax)(x0 x1 x2:aw)(p:Int)(hp:p=1\/p=2)(h0:fZ c x0 1)(h1:fZ c x1 p)(h2:fZ c x2 p):T8 c (.mk 6 0 (bL [105,102]) [x0,x1,x2]) ⟨p,0⟩:=by
 intro M w v fv gq cq;obtain⟨a,cap,rfl,bI⟩:=eC gq;obtain⟨k0,n0,s0,l0⟩:=x0;obtain⟨k1,n1,s1,l1⟩:=x1;obtain⟨k2,n2,s2,l2⟩:=x2;obtain⟨b,off,a0,c0,rfl,cR,e00,e01,e02,e03,g0⟩:=kD (i:=0) bI rfl;obtain⟨b',zM,a1,c1,e,_,Tm,e11,e12,e13,g1⟩:=kD (i:=1) bI rfl;simp only[Qcf,Addr.mk.injEq,and_true]at e;obtain⟨rfl,rfl⟩:=e;obtain⟨b',zM,a2,c2,e,_,e20,e21,e22,e23,g2⟩:=kD (i:=2) bI rfl;simp only[Qcf,Addr.mk.injEq,and_true]at e;obtain⟨rfl,rfl⟩:=e;simp only[Nat.zero_mul,Nat.add_zero]at e00 e01 e02 e03;simp only[Nat.one_mul]at Tm e11 e12 e13;simp only[Nat.reduceMul]at e20 e21 e22 e23;have iL:=af cq;obtain⟨fa,fc,rfl,_⟩:=cq.open_;have uB:Hd (∀W,aq w W->xC 346 #[.agg #[xI k0,xI n0,xS s0,xL a0 l0.length c0], .agg #[xS c.name,xL fa c.fields.length fc]] W (cr (xI 1) W)):=λW hb=>h0 M W _ _ (g0.below hb) (iL.o.below hb);have fL:Hd (∀W,aq w W->xC 346 #[.agg #[xI k1,xI n1,xS s1,xL a1 l1.length c1], .agg #[xS c.name,xL fa c.fields.length fc]] W (cr (xI p) W)):=λW hb=>h1 M W _ _ (g1.below hb) (iL.o.below hb);have fU:Hd (∀W,aq w W->xC 346 #[.agg #[xI k2,xI n2,xS s2,xL a2 l2.length c2], .agg #[xS c.name,xL fa c.fields.length fc]] W (cr (xI p) W)):=λW hb=>h2 M W _ _ (g2.below hb) (iL.o.below hb);have qag:Hd (∀W,aq w W->bt W b off (xI k0)/\bt W b (off+1) (xI n0)/\bt W b (off+2) (xS s0)/\bt W b (off+3) (xL a0 l0.length c0)):=λW hb=>⟨(hb.cell (p:=⟨b,off,none⟩) cR).trans e00,(hb.cell (p:=⟨b,off+1,none⟩) cR).trans e01,(hb.cell (p:=⟨b,off+2,none⟩) cR).trans e02,(hb.cell (p:=⟨b,off+3,none⟩) cR).trans e03⟩;have qah:Hd (∀W,aq w W->bt W b (off+4) (xI k1)/\bt W b (off+4+1) (xI n1)/\bt W b (off+4+2) (xS s1)/\bt W b (off+4+3) (xL a1 l1.length c1)):=λW hb=>⟨(hb.cell (p:=⟨b,off+4,none⟩) cR).trans Tm,(hb.cell (p:=⟨b,off+4+1,none⟩) cR).trans e11,(hb.cell (p:=⟨b,off+4+2,none⟩) cR).trans e12,(hb.cell (p:=⟨b,off+4+3,none⟩) cR).trans e13⟩;have qai:Hd (∀W,aq w W->bt W b (off+8) (xI k2)/\bt W b (off+8+1) (xI n2)/\bt W b (off+8+2) (xS s2)/\bt W b (off+8+3) (xL a2 l2.length c2)):=λW hb=>⟨(hb.cell (p:=⟨b,off+8,none⟩) cR).trans e20,(hb.cell (p:=⟨b,off+8+1,none⟩) cR).trans e21,(hb.cell (p:=⟨b,off+8+2,none⟩) cR).trans e22,(hb.cell (p:=⟨b,off+8+3,none⟩) cR).trans e23⟩;clear gq cq bI g0 g1 g2 h0 h1 h2 e00 e01 e02 e03 Tm e11 e12 e13 e20 e21 e22 e23;rw[show [aw.mk k0 n0 s0 l0,aw.mk k1 n1 s1 l1,aw.mk k2 n2 s2 l2].length=3 from rfl,show bL [105,102]=⟨#[105,102]⟩from rfl];go_enter func347,ntmps347;go_upto_region 4 with fail;obtain⟨W,hW⟩:=bS (((w.alloc (xK #[xI 6,xI 0,xS ⟨#[105,102]⟩,xL (some ⟨b,off,none⟩) 3 cap] 319)).alloc (xK #[xS c.name,xL fa c.fields.length fc] 47)).alloc (xK #[xI 0,xI 0] 49));rw[<-hW];have Yi:=af (show eI w (xK #[xI 6,xI 0,xS ⟨#[105,102]⟩,xL (some ⟨b,off,none⟩) 3 cap] 319) (xK #[xS c.name,xL fa c.fields.length fc] 47) W by rw[hW];exact eI.new w _ _);clear hW;go_cut [6](λs6 wx=>s6=xI 1/\Hd (eI w (xK #[xI 6,xI 0,xS ⟨#[105,102]⟩,xL (some ⟨b,off,none⟩) 3 cap] 319) (xK #[xS c.name,xL fa c.fields.length fc] 47) wx));case first=>
  obtain⟨z0,z1,z2,z3⟩:=ae Yi.o.1;obtain⟨y0,y1⟩:=ah Yi.o.2.1;obtain⟨x0,x1,x2,x3⟩:=qag.o _ Yi.o.2.2.2.1;go_region_law(first|(go_simp;go_at_call 346;refine bY (uB.o _ (by exact Yi.o.2.2.2.1.drew)) λw1 aF=> ?_;have ot:=af (Yi.o.drew.below aF);clear aF));all_goals(go_wp2_with fail;go_meet;exact⟨rfl,ot⟩)
 case rest=>
  obtain⟨rfl,nI⟩:=hcut;go_upto_region 5 with fail;go_cut [7](λs7 wx=>s7=xI p/\Hd (eI w (xK #[xI 6,xI 0,xS ⟨#[105,102]⟩,xL (some ⟨b,off,none⟩) 3 cap] 319) (xK #[xS c.name,xL fa c.fields.length fc] 47) wx));case first=>
   obtain⟨z0,z1,z2,z3⟩:=ae nI.o.1;obtain⟨y0,y1⟩:=ah nI.o.2.1;obtain⟨x0,x1,x2,x3⟩:=qah.o _ nI.o.2.2.2.1;go_region_law(first|(go_simp;go_at_call 346;refine bY (fL.o _ (by exact nI.o.2.2.2.1.drew)) λw1 aF=> ?_;have ot:=af (nI.o.drew.below aF);clear aF));all_goals(go_wp2_with fail;go_meet;exact⟨rfl,ot⟩)
  case rest=>
   obtain⟨rfl,fO⟩:=hcut;go_upto_region 6 with fail;go_cut [8](λs8 wx=>s8=xI p/\Hd (eI w (xK #[xI 6,xI 0,xS ⟨#[105,102]⟩,xL (some ⟨b,off,none⟩) 3 cap] 319) (xK #[xS c.name,xL fa c.fields.length fc] 47) wx));case first=>
    obtain⟨z0,z1,z2,z3⟩:=ae fO.o.1;obtain⟨y0,y1⟩:=ah fO.o.2.1;obtain⟨x0,x1,x2,x3⟩:=qai.o _ fO.o.2.2.2.1;go_region_law(first|(go_simp;go_at_call 346;refine bY (fU.o _ (by exact fO.o.2.2.2.1.drew)) λw1 aF=> ?_;have ot:=af (fO.o.drew.below aF);clear aF));all_goals(go_wp2_with fail;go_meet;exact⟨rfl,ot⟩)
   case rest=>
    obtain⟨rfl,ql⟩:=hcut;obtain⟨r0,r1⟩:=ah ql.o.2.2.1;obtain⟨f0,f1⟩:=mV ql.o.2.2.1;have F2:=ql.o.2.2.2.1;have Tl:=af F2;clear F2;clear qag qah qai uB fL fU Yi nI fO;rcases hp with rfl|rfl;all_goals
     go_wp2_with fail;refine Qae (v:= .tuple #[.agg #[xI _,xI 0],xB true]) (by simp[results,results347,go_sem,r0,r1];try rfl) rfl ⟨rfl,?_⟩;exact(Tl.o.setCell (by simp;omega) _).setCell (by simp;omega) _
def By {l:List UInt8}{x:aw}(h:ee l=some x):iw x=true/\kM x<=8/\ek x<=40:=by
 unfold ee at h;split at h
 .cases h
 .split at h
  .split at h
   .rename_i hc;cases h;exact hc.2
   .cases h
  .cases h
def wU {c:ax}(hc:aP c=true)(hf:f∈c.fields):∃i:Nat,fieldAt c f.name=i/\c.fields[i]? =some f:=by
 obtain⟨i,hi⟩:=List.getElem?_of_mem hf;exact⟨i,(((bo c).1 hc).2.2 i f (Qad.1 hi).1 hi).2,hi⟩
def JO(s:aM):bL s.data.toList=s:=(fg rfl).symm
def qZ:∀s∈names9,s≠[55]/\s≠[34,97,32,98,34]/\s≠[]:=by decide
def wV {c:ax}(hc:aP c=true)(hn:∀f∈c.fields,f.name.data.toList∈names9)(hf:f∈c.fields):jc c (tN f.name.data.toList) f.type:=by
 obtain⟨h1,h2,_⟩:=qZ _ (hn f hf);obtain⟨i,h3,h4⟩:=wU hc hf;unfold tN;rw[if_neg h1,if_neg h2];unfold fE;rw[JO];exact Gz c f.name f i h3 h4
def JP {c:ax}(hc:aP c=true)(hn:∀f∈c.fields,f.name.data.toList∈names9)(h:tY c s):s.data.toList∈[55]::names9/\jc c (tN s.data.toList) ⟨1,0⟩:=by
 rcases h with rfl|⟨f,hf,ht,rfl⟩
 .exact⟨by decide,iC c 1 7 (bL []) [] (.inl rfl)⟩
 .exact⟨List.mem_cons_of_mem _ (hn f hf),ht▸wV hc hn hf⟩
def Dg {c:ax}(hc:aP c=true)(hn:∀f∈c.fields,f.name.data.toList∈names9)(h:pQ c s):s.data.toList∈[34,97,32,98,34]::names9/\jc c (tN s.data.toList) ⟨2,0⟩:=by
 rcases h with rfl|⟨f,hf,ht,rfl⟩
 .exact⟨by decide,iC c 2 0 (bL [97,32,98]) [] (.inr rfl)⟩
 .exact⟨List.mem_cons_of_mem _ (hn f hf),ht▸wV hc hn hf⟩
section
variable {c:ax}{num txt:aw}(hx:jc c num ⟨1,0⟩)(hy:jc c txt ⟨2,0⟩)
include hx hy
def Ll:∀x∈oH num txt,jc c x ⟨1,0⟩:=by
 have px:fZ c num 1:=im c num ⟨1,0⟩ (.inl rfl) hx;have py:fZ c txt 2:=im c txt ⟨2,0⟩ (.inr rfl) hy;have pn:∀n,fZ c (nE n) 1:=λn=>im c _ ⟨1,0⟩ (.inl rfl) (iC c 1 n _ _ (.inl rfl));have pt:∀s,fZ c (tE s) 2:=λs=>im c _ ⟨2,0⟩ (.inr rfl) (iC c 2 0 _ _ (.inr rfl));have Yk:∀s x y,(s=[42]\/s=[45]\/s=[47])->fZ c x 1->fZ c y 1->jc c (JF s x y) ⟨1,0⟩:=λs x y hs h1 h2=>vW c s x y 1 1 _ h1 h2 (.inr (.inr ⟨hs,rfl,rfl,rfl⟩));have pop:∀s x y,(s=[42]\/s=[45]\/s=[47])->fZ c x 1->fZ c y 1->fZ c (JF s x y) 1:=λs x y hs h1 h2=>im c _ ⟨1,0⟩ (.inl rfl) (Yk s x y hs h1 h2);intro x hm;simp only[oH,Qdf,List.not_mem_nil,or_false]at hm;rcases hm with rfl|rfl|rfl|rfl|rfl|rfl|rfl
 .exact iC c 1 3 _ _ (.inl rfl)
 .exact hx
 .exact Yk _ _ _ (.inr (.inl rfl)) (pop _ _ _ (.inl rfl) px (pn 2)) (pn 1)
 .exact call5 c [108,101,110] (by decide) [txt] rfl (λi e u he hu=>by
   match i with
   |0=>simp at he;subst he;have:u=116:=by simpa [fB]using hu.symm
       subst this;exact py
   |n+1=>simp at he)
 .exact tX c _ _ _ (JL c _ _ _ 1 (.inl rfl) (im c _ ⟨1,0⟩ (.inl rfl) (vW c [62] _ _ 1 1 _ px (pn 2) (.inr (.inl ⟨.inr rfl,rfl, .inl rfl,rfl⟩)))) px (pop _ _ _ (.inr (.inl rfl)) (pn 0) px))
 .exact call5 c [102,105,110,100] (by decide) [tE [98],txt] rfl (λi e u he hu=>by
   match i with
   |0=>simp at he;subst he;have:u=116:=by simpa [fB]using hu.symm
       subst this;exact pt _
   |1=>simp at he;subst he;have:u=116:=by simpa [fB]using hu.symm
       subst this;exact py
   |n+2=>simp at he)
 .exact Yk _ _ _ (.inr (.inr rfl)) px px
def GH:∀x∈mj num txt,jc c x ⟨2,0⟩:=by
 have px:fZ c num 1:=im c num ⟨1,0⟩ (.inl rfl) hx;have py:fZ c txt 2:=im c txt ⟨2,0⟩ (.inr rfl) hy;have pn:∀n,fZ c (nE n) 1:=λn=>im c _ ⟨1,0⟩ (.inl rfl) (iC c 1 n _ _ (.inl rfl));have pt:∀s,fZ c (tE s) 2:=λs=>im c _ ⟨2,0⟩ (.inr rfl) (iC c 2 0 _ _ (.inr rfl));have Yk:∀x y,fZ c x 2->fZ c y 2->jc c (JF [38] x y) ⟨2,0⟩:=λx y h1 h2=>vW c [38] x y 2 2 _ h1 h2 (.inl ⟨rfl,rfl,rfl,rfl⟩);intro x hm;simp only[mj,Qdf,List.not_mem_nil,or_false]at hm;rcases hm with rfl|rfl|rfl|rfl|rfl|rfl|rfl
 .exact iC c 2 0 _ _ (.inr rfl)
 .exact hy
 .exact Yk _ _ (im c _ ⟨2,0⟩ (.inr rfl) (Yk _ _ py (pt _))) py
 .exact call5 c [116,101,120,116] (by decide) [num] rfl (λi e u he hu=>by
   match i with
   |0=>simp at he;subst he;have:u=110:=by simpa [fB]using hu.symm
       subst this;exact px
   |n+1=>simp at he)
 .exact call5 c [108,101,102,116] (by decide) [txt,nE 2] rfl (λi e u he hu=>by
   match i with
   |0=>simp at he;subst he;have:u=116:=by simpa [fB]using hu.symm
       subst this;exact py
   |1=>simp at he;subst he;have:u=110:=by simpa [fB]using hu.symm
       subst this;exact pn _
   |n+2=>simp at he)
 .exact call5 c [102,114,111,109] (by decide) [txt,nE 3] rfl (λi e u he hu=>by
   match i with
   |0=>simp at he;subst he;have:u=116:=by simpa [fB]using hu.symm
       subst this;exact py
   |1=>simp at he;subst he;have:u=110:=by simpa [fB]using hu.symm
       subst this;exact pn _
   |n+2=>simp at he)
 .exact tX c _ _ _ (JL c _ _ _ 2 (.inr rfl) (im c _ ⟨1,0⟩ (.inl rfl) (vW c [61] _ _ 1 1 _ px (pn 1) (.inr (.inl ⟨.inl rfl,rfl, .inl rfl,rfl⟩)))) py (pt _))
end
def Om {α β:Type}{P:α×β->Bool}{l:List α}{m:List β}(h:(l.zip m).all P=true)(hl:l.length=m.length){a:α}(ha:a∈l):∃b∈m,P (a,b)=true:=by
 obtain⟨i,hi⟩:=List.getElem?_of_mem ha;have ze:=(Qad.1 hi).1;have hm:m[i]? =some (m[i]'(by omega)):=Qac (by omega);refine⟨_,Qaf hm,List.all_eq_true.1 h _ (Qaf (i:=i) ?_)⟩;rw[List.getElem?_zip_eq_some];exact⟨hi,hm⟩
def q8:ee []=none:=by decide
def rU(c:ax)(t:aT)(s:aM):Prop:=s.data.toList=[]\/∃x,ee s.data.toList=some x/\jc c x t
def Aj(s:aM)(w:aj)(h:s.data.toList=[]\/∃x,ee s.data.toList=some x):xC 277 #[xS s] w (cr (xB true) w):=by
 rcases h with h|⟨x,h⟩
 .obtain rfl:=fg h;have HC:=af (De w);go_enter func277,ntmps277;go_wp2_with fail;refine bY (HC.o) λw1 aF=> ?_;have aY:=af aF;go_wp2;go_ret;exact⟨rfl,aY.o.alloc aY.o.size _⟩
 .have hz:(s.toList==[])=false:=by
   rw[ByteArray.toList_eq];cases hq:s.data.toList with
   |nil=>rw[hq,q8]at h;cases h
   |cons a r=>rfl
  have HC:=af (JK s w x h);obtain⟨xk,xn,xs,xl⟩:=x;go_enter func277,ntmps277;go_wp2_with fail;refine(HC.o).mono ?_;rintro e w1⟨v,rfl,gq,aF⟩;obtain⟨a,cap,rfl,_⟩:=eC gq;have aY:=af aF;go_wp2;go_ret;exact⟨rfl,aY.o.alloc aY.o.size _⟩
def Dh(c:ax)(t:aT)(s:aM)(h:rU c t s)(hc:aP c=true)(fV:c.name.size<=maxLen)(M:aN)(w:aj)(hM:Bd M w)(fv:an)(cq:ab M w fv c.fields):
 xC 243 #[xS s, .agg #[xS c.name,fv], .agg #[xI t.kind,xI t.of]] w (cr (xB true) w):=by
 have iL:=af cq;obtain⟨fa,fc,rfl,_⟩:=cq.open_;rcases h with h|⟨x,h,hk⟩
 .obtain rfl:=fg h;go_enter func243,ntmps243;go_wp2;go_ret;exact⟨rfl,bM.alloc (by simp) _⟩
 .have hz:(s.toList==[])=false:=by
   rw[ByteArray.toList_eq];cases hq:s.data.toList with
   |nil=>rw[hq,q8]at h;cases h
   |cons a r=>rfl
  obtain⟨yN,KD,Yf⟩:=By h;have HT:Hd (∀W v,aq w W->ct M W v x->xC 279 #[v, .agg #[xS c.name,xL fa c.fields.length fc]] W (cr (.tuple #[.agg #[xI t.kind,xI t.of],xI 0]) W)):=λW v hb gq=>Se c x t hk yN KD Yf hc fV M W v _ gq (iL.o.below hb);have HC:=af (λW=>JK s W x h);obtain⟨xk,xn,xs,xl⟩:=x;obtain⟨tk,F0⟩:=t;go_enter func243,ntmps243;go_wp2_with fail;refine(HC.o _).mono ?_;rintro e w1⟨v,rfl,gq,aF⟩;have lZ:aq w w1:=(bM.alloc (by simp) _).trans (aF.mono (by simp;omega));have qdj:ct M w1 v (aw.mk xk xn xs xl):=gq.ev (Ev.dD w1 λi hi=>by have:=hM i hi;unfold fy;simp;omega);have tG:=af qdj;obtain⟨a,cap,rfl,_⟩:=eC gq;have uB:=af ((aF.block w.heap.size (by simp;omega)).trans (jR (w:=w) rfl).1);have fL:=af ((aF.block (w.heap.size+1) (by simp)).trans (jR (w:=w) rfl).2.1);have s1:=aF.size;simp at s1;obtain⟨c0,c1⟩:=ah uB.o;obtain⟨t0,t1⟩:=ah fL.o;have n0:w.heap.size≠w1.heap.size:=by omega
  have n1:w.heap.size+1≠w1.heap.size:=by omega
  have C0:∀o,(w1.alloc o).cell? ⟨w.heap.size,0,none⟩=some (xS c.name):=λo=>(World.cell?_of_block (w:=w1) (Qcb w1 o w.heap.size (by omega))).trans c0;have C1:∀o,(w1.alloc o).cell? ⟨w.heap.size,1,none⟩=some (xL fa c.fields.length fc):=λo=>(World.cell?_of_block (w:=w1) (Qcb w1 o w.heap.size (by omega))).trans c1;have jN:=af lZ;go_wp2_with fail;refine bY (HT.o _ _ (by exact jN.o.alloc jN.o.size _) (tG.o.below bM)) λw2 bC=> ?_;have aQ:Hd (aq w w2):=(jN.o.alloc jN.o.size _).trans (bC.mono (by simp;omega));have s2:=bC.size;simp at s2;have HY1:=af ((bC.block (w.heap.size+1) (by simp;omega)).trans ((Qcb w1 _ (w.heap.size+1) (by omega)).trans fL.o));obtain⟨t0,t1⟩:=ah HY1.o;have n2:w.heap.size+1≠w2.heap.size:=by omega
  have T0:∀o,(w2.alloc o).cell? ⟨w.heap.size+1,0,none⟩=some (xI tk):=λo=>(World.cell?_of_block (w:=w2) (Qcb w2 o (w.heap.size+1) (by omega))).trans t0;have T1:∀o,(w2.alloc o).cell? ⟨w.heap.size+1,1,none⟩=some (xI F0):=λo=>(World.cell?_of_block (w:=w2) (Qcb w2 o (w.heap.size+1) (by omega))).trans t1;go_wp2;go_ret;exact⟨rfl,aQ.o.alloc aQ.o.size _⟩
def np(x:aC):Prop:=
 (x.kind=1/\x.field=⟨#[]⟩/\x.more=⟨#[]⟩/\x.other=⟨#[]⟩)\/
 (x.kind=2/\x.name=⟨#[]⟩/\x.more=⟨#[]⟩/\x.type=⟨0,0⟩/\x.expr=⟨#[]⟩/\x.other=⟨#[]⟩)\/
 (x.kind=3/\x.more=⟨#[]⟩/\x.type=⟨0,0⟩/\x.expr=⟨#[]⟩/\x.other=⟨#[]⟩)\/
 (x.kind=4/\x.name=⟨#[]⟩/\x.more=⟨#[]⟩/\x.other=⟨#[]⟩)\/
 (x.kind=5)\/
 (x.kind=6/\x.name=⟨#[]⟩/\x.more=⟨#[]⟩/\x.type=⟨0,0⟩/\x.expr=⟨#[]⟩/\x.other=⟨#[]⟩)
def On(x:aC)(h:np x)(w:aj):
 xC 276 #[.agg #[xI x.kind,xS x.field,xS x.name,xS x.more,xI x.type.kind,xI x.type.of,xS x.expr,xS x.other]] w (cr (.agg #[xI x.kind,xS x.field,xS x.name,xS x.more,xI x.type.kind,xI x.type.of,xS x.expr,xS x.other]) w):=by
 obtain⟨k,f,n,m,⟨tk,tf⟩,e,o⟩:=x;simp only[np,aT.mk.injEq]at h;rcases h with⟨rfl,rfl,rfl,rfl⟩|⟨rfl,rfl,rfl,⟨rfl,rfl⟩,rfl,rfl⟩|⟨rfl,rfl,⟨rfl,rfl⟩,rfl,rfl⟩|⟨rfl,rfl,rfl,rfl⟩|rfl|⟨rfl,rfl,rfl,⟨rfl,rfl⟩,rfl,rfl⟩;all_goals
  dsimp only;go_enter func276,ntmps276;go_wp2_with fail;refine Qae (v:= .agg #[_,_,_,_,_,_,_,_]) (by simp[results,results276,go_sem]) rfl ⟨rfl,?_⟩;repeat(first|exact Qbg _ _|refine Below.setCell ?_ (by simp<;>omega) _|refine Below.alloc ?_ (by simp<;>omega) _)
def ak {c4 c5 c6 c7:Value}(h:W.heap[g]? =some (xK #[c0,c1,c2,c3,c4,c5,c6,c7] t)):
 W.cell? ⟨g,0,none⟩=some c0/\W.cell? ⟨g,1,none⟩=some c1/\W.cell? ⟨g,2,none⟩=some c2/\W.cell? ⟨g,3,none⟩=some c3/\W.cell? ⟨g,4,none⟩=some c4/\W.cell? ⟨g,5,none⟩=some c5/\W.cell? ⟨g,6,none⟩=some c6/\W.cell? ⟨g,7,none⟩=some c7:=by simp[World.cell?,h]
def uO(w:aj)(o:Obj)(wx:aj):Prop:=wx.heap[w.heap.size]? =some o/\aq w wx/\w.heap.size<wx.heap.size
theorem uO.below(h:uO w o wx)(k:aq wx w'):uO w o w':=by
 have:=h.2.2;have:=h.2.1.size;have:=k.size;exact⟨(k.block _ h.2.2).trans h.1,h.2.1.trans (k.mono (by omega)),by omega⟩
theorem uO.drew(h:uO w o wx):uO w o wx.drew:=⟨h.1,h.2.1.drew,h.2.2⟩
def Oo(x:aC):Prop:=
 ((x.kind=1\/x.kind=3\/x.kind=5)->aB x.name=true)/\(x.kind=5->aB x.more=true)/\((x.kind=1\/x.kind=4\/x.kind=5)->aG x.type=true)/\
 (x.expr.data.toList=[]\/∃y,ee x.expr.data.toList=some y)/\(x.other.data.toList=[]\/∃y,ee x.other.data.toList=some y)/\
 x.field.size<=maxLen/\x.name.size<=maxLen/\x.more.size<=maxLen
def GI(x:aC)(h:np x)(hf:Oo x)(b:Bool)(hb:(decide (x.kind=1)||aB x.field)=b)(w:aj):
 xC 242 #[.agg #[xI x.kind,xS x.field,xS x.name,xS x.more,xI x.type.kind,xI x.type.of,xS x.expr,xS x.other]] w (cr (xB b) w):=by
 have HN:Hd (∀w,_):=On x h;obtain⟨k,f,n,m,⟨tk,tf⟩,e,o⟩:=x;obtain⟨hn,hm,ht,he,ho,fu,j6,qX⟩:=hf;have hk:k=1\/k=2\/k=3\/k=4\/k=5\/k=6:=by simp only[np]at h;omega
 dsimp only at*;have HT:=af λhk w=>nN true ⟨tk,tf⟩ w (ht hk);have tl:=af λhk w=>fY true n w (hn hk) j6;have Bk:=af λhk w=>fY true m w (hm hk) qX;have HF:=af λw=>fY (aB f) f w rfl fu;have Yl:=af λw=>Aj e w he;have UA:=af λw=>Aj o w ho;clear hn hm ht he ho fu j6 qX h;go_enter func242,ntmps242;go_upto_region 1 with fail;obtain⟨W,hW⟩:=bS (w.alloc (xK #[xI k,xS f,xS n,xS m,xI tk,xI tf,xS e,xS o] 51));rw[<-hW];have HW:=af (show uO w (xK #[xI k,xS f,xS n,xS m,xI tk,xI tf,xS e,xS o] 51) W by rw[hW];exact⟨(rO (w:=w) rfl).1,bM,by simp⟩);clear hW;go_cut [16](λs16 wx=>s16=xB false/\Hd (uO w (xK #[xI k,xS f,xS n,xS m,xI tk,xI tf,xS e,xS o] 51) wx));case first=>
  obtain⟨a0,a1,a2,a3,a4,a5,a6,a7⟩:=ak HW.o.1;have oF:¬k<1:=by omega
  have hk6:¬6<k:=by omega
  go_region_law(first|(go_simp;go_at_call 276;refine bY (HN.o _) λw1 aF=> ?_;have ot:=af (HW.o.drew.below aF);clear aF;obtain⟨b0,b1,b2,b3,b4,b5,b6,b7⟩:=ak ot.o.1));all_goals(go_wp2_with fail;go_meet;exact⟨rfl,ot⟩)
 case rest=>
  obtain⟨rfl,fO⟩:=hcut;clear HW HN;obtain⟨a0,a1,a2,a3,a4,a5,a6,a7⟩:=ak fO.o.1;rcases hk with rfl|rfl|rfl|rfl|rfl|rfl
  .obtain rfl:true=b:=hb;go_wp2_with fail;refine cT (tl.o (by simp) _) ?_;go_wp2_with fail;refine bY (HT.o (by simp) _) λw3 bP=> ?_;have ql:=af (fO.o.below bP);clear bP;clear a0 a1 a2 a3 a4 a5 a6 a7;obtain⟨a0,a1,a2,a3,a4,a5,a6,a7⟩:=ak ql.o.1;go_wp2_with fail;refine bY (Yl.o _) λw4 eA=> ?_;have mf:=af (ql.o.below eA);clear eA;clear a0 a1 a2 a3 a4 a5 a6 a7;obtain⟨a0,a1,a2,a3,a4,a5,a6,a7⟩:=ak mf.o.1;go_wp2_with fail;refine bY (UA.o _) λw5 jg=> ?_;have qF:=af (mf.o.below jg);clear jg;clear a0 a1 a2 a3 a4 a5 a6 a7;obtain⟨a0,a1,a2,a3,a4,a5,a6,a7⟩:=ak qF.o.1;go_wp2;go_ret;exact⟨rfl,qF.o.2.1⟩
  .have l6:aB f=b:=hb;rw[l6]at HF;clear hb l6;go_wp2_with fail;refine cT (HF.o _) ?_;cases b with
   |false=>
    go_wp2;go_ret;exact⟨rfl,fO.o.2.1⟩
   |true=>
    go_wp2_with fail;refine bY (Yl.o _) λw3 bP=> ?_;have ql:=af (fO.o.below bP);clear bP;clear a0 a1 a2 a3 a4 a5 a6 a7;obtain⟨a0,a1,a2,a3,a4,a5,a6,a7⟩:=ak ql.o.1;go_wp2_with fail;refine bY (UA.o _) λw4 eA=> ?_;have mf:=af (ql.o.below eA);clear eA;clear a0 a1 a2 a3 a4 a5 a6 a7;obtain⟨a0,a1,a2,a3,a4,a5,a6,a7⟩:=ak mf.o.1;go_wp2;go_ret;exact⟨rfl,mf.o.2.1⟩
  .have l6:aB f=b:=hb;rw[l6]at HF;clear hb l6;go_wp2_with fail;refine cT (HF.o _) ?_;cases b with
   |false=>
    go_wp2;go_ret;exact⟨rfl,fO.o.2.1⟩
   |true=>
    go_wp2_with fail;refine cT (tl.o (by simp) _) ?_;go_wp2_with fail;refine bY (Yl.o _) λw3 bP=> ?_;have ql:=af (fO.o.below bP);clear bP;clear a0 a1 a2 a3 a4 a5 a6 a7;obtain⟨a0,a1,a2,a3,a4,a5,a6,a7⟩:=ak ql.o.1;go_wp2_with fail;refine bY (UA.o _) λw4 eA=> ?_;have mf:=af (ql.o.below eA);clear eA;clear a0 a1 a2 a3 a4 a5 a6 a7;obtain⟨a0,a1,a2,a3,a4,a5,a6,a7⟩:=ak mf.o.1;go_wp2;go_ret;exact⟨rfl,mf.o.2.1⟩
  .have l6:aB f=b:=hb;rw[l6]at HF;clear hb l6;go_wp2_with fail;refine cT (HF.o _) ?_;cases b with
   |false=>
    go_wp2;go_ret;exact⟨rfl,fO.o.2.1⟩
   |true=>
    go_wp2_with fail;refine bY (HT.o (by simp) _) λw3 bP=> ?_;have ql:=af (fO.o.below bP);clear bP;clear a0 a1 a2 a3 a4 a5 a6 a7;obtain⟨a0,a1,a2,a3,a4,a5,a6,a7⟩:=ak ql.o.1;go_wp2_with fail;refine bY (Yl.o _) λw4 eA=> ?_;have mf:=af (ql.o.below eA);clear eA;clear a0 a1 a2 a3 a4 a5 a6 a7;obtain⟨a0,a1,a2,a3,a4,a5,a6,a7⟩:=ak mf.o.1;go_wp2_with fail;refine bY (UA.o _) λw5 jg=> ?_;have qF:=af (mf.o.below jg);clear jg;clear a0 a1 a2 a3 a4 a5 a6 a7;obtain⟨a0,a1,a2,a3,a4,a5,a6,a7⟩:=ak qF.o.1;go_wp2;go_ret;exact⟨rfl,qF.o.2.1⟩
  .have l6:aB f=b:=hb;rw[l6]at HF;clear hb l6;go_wp2_with fail;refine cT (HF.o _) ?_;cases b with
   |false=>
    go_wp2;go_ret;exact⟨rfl,fO.o.2.1⟩
   |true=>
    go_wp2_with fail;refine cT (tl.o (by simp) _) ?_;go_wp2_with fail;refine bY (HT.o (by simp) _) λw3 bP=> ?_;have ql:=af (fO.o.below bP);clear bP;clear a0 a1 a2 a3 a4 a5 a6 a7;obtain⟨a0,a1,a2,a3,a4,a5,a6,a7⟩:=ak ql.o.1;go_wp2_with fail;refine cT (Bk.o (by simp) _) ?_;go_wp2_with fail;refine bY (Yl.o _) λw4 eA=> ?_;have mf:=af (ql.o.below eA);clear eA;clear a0 a1 a2 a3 a4 a5 a6 a7;obtain⟨a0,a1,a2,a3,a4,a5,a6,a7⟩:=ak mf.o.1;go_wp2_with fail;refine bY (UA.o _) λw5 jg=> ?_;have qF:=af (mf.o.below jg);clear jg;clear a0 a1 a2 a3 a4 a5 a6 a7;obtain⟨a0,a1,a2,a3,a4,a5,a6,a7⟩:=ak qF.o.1;go_wp2;go_ret;exact⟨rfl,qF.o.2.1⟩
  .have l6:aB f=b:=hb;rw[l6]at HF;clear hb l6;go_wp2_with fail;refine cT (HF.o _) ?_;cases b with
   |false=>
    go_wp2;go_ret;exact⟨rfl,fO.o.2.1⟩
   |true=>
    go_wp2_with fail;refine bY (Yl.o _) λw3 bP=> ?_;have ql:=af (fO.o.below bP);clear bP;clear a0 a1 a2 a3 a4 a5 a6 a7;obtain⟨a0,a1,a2,a3,a4,a5,a6,a7⟩:=ak ql.o.1;go_wp2_with fail;refine bY (UA.o _) λw4 eA=> ?_;have mf:=af (ql.o.below eA);clear eA;clear a0 a1 a2 a3 a4 a5 a6 a7;obtain⟨a0,a1,a2,a3,a4,a5,a6,a7⟩:=ak mf.o.1;go_wp2;go_ret;exact⟨rfl,mf.o.2.1⟩
structure qM(c:ax)(x:aC):Prop where
 sh:np x
 name:(x.kind=1\/x.kind=3\/x.kind=5)->aB x.name=true
 more:x.kind=5->aB x.more=true
 type:(x.kind=1\/x.kind=4\/x.kind=5)->aG x.type=true
 expr:rU c x.type x.expr
 other:rU c x.type x.other
 s1:x.field.size<=maxLen
 s2:x.name.size<=maxLen
 s3:x.more.size<=maxLen
theorem qM.Vd(h:qM c x):Oo x:=
 ⟨h.name,h.more,h.type,h.expr.imp_right λ⟨y,h,_⟩=>⟨y,h⟩,h.other.imp_right λ⟨y,h,_⟩=>⟨y,h⟩,h.s1,h.s2,h.s3⟩
def hasB(c:ax)(s:aM):Bool:= !decide (fieldAt c s<0)
def wW(c:ax)(s:aM):Int:=match c.fields[(fieldAt c s).toNat]? with|some f=>f.type.kind|none=>0
def iZ(c:ax)(x:aC):Bool:=
 if x.kind=1 then decide ((c.fields.length:Int)<8)&& !hasB c x.name
 else if x.kind=2 then hasB c x.field
 else if x.kind=3 then hasB c x.field&& !hasB c x.name
 else if x.kind=4 then hasB c x.field
 else if x.kind=5 then hasB c x.field&&decide ((c.fields.length:Int)<8)&& !(x.name.toList==x.more.toList)&&(!hasB c x.name||x.name.toList==x.field.toList)&&(!hasB c x.more||x.more.toList==x.field.toList)
 else hasB c x.field&&decide (wW c x.field<=3)
def tZ {a b:aM}(h:(a.toList==b.toList)=true):a=b:=by
 rw[ByteArray.toList_eq,ByteArray.toList_eq,beq_iff_eq]at h;exact(fg h).trans (JO b)
def Bz(h:hasB c s=true):∃(i:Nat)(f:az),fieldAt c s=i/\c.fields[i]? =some f/\f.name=s:=by
 unfold hasB at h;simp only[Bool.not_eq_true',decide_eq_false_iff_not]at h;unfold fieldAt idxOf at h⊢;cases hq:c.fields.findIdx? (λf=>cj f.name s)with
 |none=>rw[hq]at h;simp at h
 |some i=>
  obtain⟨hi,hp,_⟩:=List.findIdx?_eq_some_iff_getElem.1 hq;exact⟨i,_,rfl,Qac hi,tZ hp⟩
def Di(hc:aP c=true)(h:hasB c s=true):aB s=true:=by
 obtain⟨i,f,_,hf,rfl⟩:=Bz h;have:=(((bo c).1 hc).2.2 i f (Qad.1 hf).1 hf).1;unfold bH at this;simp only[Qce]at this;exact this.1.1
def BA(hc:aP c=true)(hs:np x)(h:(decide (x.kind=1)||aB x.field)=false):iZ c x=false:=by
 simp only[Bool.or_eq_false_iff,decide_eq_false_iff_not]at h;have hn:hasB c x.field=false:=by
  cases hq:hasB c x.field with
  |false=>rfl
  |true=>rw[Di hc hq]at h;simp at h
 unfold iZ;simp[h.1,hn]
def uP(w:aj)(o0 o1:Obj)(wx:aj):Prop:=wx.heap[w.heap.size]? =some o0/\wx.heap[w.heap.size+1]? =some o1/\aq w wx/\w.heap.size+1<wx.heap.size
theorem uP.below(h:uP w o0 o1 wx)(k:aq wx w'):uP w o0 o1 w':=by
 obtain⟨h1,h2,h3,h4⟩:=h;have:=h3.size;have:=k.size;exact⟨(k.block _ (by omega)).trans h1,(k.block _ (by omega)).trans h2,h3.trans (k.mono (by omega)),by omega⟩
theorem uP.new(w:aj)(o0 o1:Obj):uP w o0 o1 ((w.alloc o0).alloc o1):=⟨(jR (w:=w) rfl).1,(jR (w:=w) rfl).2.1,(jR (w:=w) rfl).2.2.2,by rw[(jR (w:=w) rfl).2.2.1];omega⟩
def uQ(c:ax)(x:aC)(hp:qM c x)(hc:aP c=true)(fV:c.name.size<=maxLen)(b:Bool)(hb:iZ c x=b)(M:aN)(w:aj)(hM:Bd M w)(fv:an)(cq:ab M w fv c.fields):
 xC 180 #[.agg #[xS c.name,fv], .agg #[xI x.kind,xS x.field,xS x.name,xS x.more,xI x.type.kind,xI x.type.of,xS x.expr,xS x.other]] w (cr (xB b) w):=by
 have HFM:=af λbf F2 w=>GI x hp.sh hp.Vd bf F2 w;have CQ:=af (BA hc hp.sh);have hk:x.kind=1\/x.kind=2\/x.kind=3\/x.kind=4\/x.kind=5\/x.kind=6:=by have:=hp.sh;simp only[np]at this;omega
 have HTE:Hd (∀W fv,Bd M W->ab M W fv c.fields->_):=λW fv h1 h2=>Dh c x.type x.expr hp.expr hc fV M W h1 fv h2;have HTO:Hd (∀W fv,Bd M W->ab M W fv c.fields->_):=λW fv h1 h2=>Dh c x.type x.other hp.other hc fV M W h1 fv h2;have HR:Hd (∀W fv,ab M W fv c.fields->_):=λW fv h=>ku M fv W c h fV hc;have Tp:Hd (∀W fv name at_ is,ab M W fv c.fields->_->_->_):=λW fv name at_ is h h1 h2=>lu M fv W c name at_ is h h1 h2;have iL:=af cq;obtain⟨fa,fc,rfl,Jq,M9,ay⟩:=cq.open_;have zN:=af ay;clear hp cq ay;obtain⟨k,f,n,m,⟨tk,tf⟩,e,o⟩:=x;dsimp only at*;obtain⟨bf,F2⟩:=jO ((decide (k=1)||aB f));have HFB:=af (HFM.o bf F2);obtain⟨i1,NN⟩:=jO (hasB c f);obtain⟨i2,Ym⟩:∃i1,hasB c n=i1:=⟨_,rfl⟩;obtain⟨i3,QO⟩:∃i1,hasB c m=i1:=⟨_,rfl⟩;obtain⟨p1,uE⟩:∃p,(if fieldAt c f<0 then 0 else fieldAt c f)=p:=⟨_,rfl⟩;obtain⟨p2,F4⟩:∃p,(if fieldAt c n<0 then 0 else fieldAt c n)=p:=⟨_,rfl⟩;obtain⟨p3,F5⟩:∃p,(if fieldAt c m<0 then 0 else fieldAt c m)=p:=⟨_,rfl⟩;have jy:Hd (∀W,ab M W (xL fa c.fields.length fc) c.fields->_):=λW h=>Tp.o W _ f p1 i1 h uE NN;have zP:Hd (∀W,ab M W (xL fa c.fields.length fc) c.fields->_):=λW h=>Tp.o W _ n p2 i2 h F4 Ym;have HF3:Hd (∀W,ab M W (xL fa c.fields.length fc) c.fields->_):=λW h=>Tp.o W _ m p3 i3 h F5 QO;have HB:=af hb;clear hb;have zQ:=af NN;clear NN;have me:=af Ym;clear Ym;have tq:=af QO;clear QO;have Nh:=af uE;clear uE;have Wv:=af F4;clear F4;have Ye:=af F5;clear F5;have Tl:=af F2;clear F2;clear Tp HFM;go_enter func180,ntmps180;go_wp2_with fail;refine bY (HR.o _ _ (iL.o.below (uP.new _ _ _).2.2.1)) λw1 aF=> ?_;have nI:Hd (uP w (xK #[xS c.name,xL fa c.fields.length fc] 47) (xK #[xI k,xS f,xS n,xS m,xI tk,xI tf,xS e,xS o] 51) w1):=(uP.new w _ _).below aF;clear aF;obtain⟨c0,c1⟩:=ah nI.o.1;obtain⟨a0,a1,a2,a3,a4,a5,a6,a7⟩:=ak nI.o.2.1;go_wp2_with fail;refine bY (HFB.o _) λw2 bC=> ?_;have fO:=af (nI.o.below bC);clear bC;clear c0 c1 a0 a1 a2 a3 a4 a5 a6 a7;obtain⟨c0,c1⟩:=ah fO.o.1;obtain⟨a0,a1,a2,a3,a4,a5,a6,a7⟩:=ak fO.o.2.1;cases bf with
 |false=>
  obtain rfl:false=b:=(CQ.o Tl.o).symm.trans HB.o;go_wp2;go_ret;exact⟨rfl,fO.o.2.2.1⟩
 |true=>
  go_wp2_with fail;refine bY (jy.o _ (iL.o.below fO.o.2.2.1)) λw3 bP=> ?_;have ql:=af (fO.o.below bP);clear bP;clear c0 c1 a0 a1 a2 a3 a4 a5 a6 a7;obtain⟨c0,c1⟩:=ah ql.o.1;obtain⟨a0,a1,a2,a3,a4,a5,a6,a7⟩:=ak ql.o.2.1;go_wp2_with fail;refine bY (zP.o _ (iL.o.below ql.o.2.2.1)) λw4 eA=> ?_;have mf:=af (ql.o.below eA);clear eA;clear c0 c1 a0 a1 a2 a3 a4 a5 a6 a7;obtain⟨c0,c1⟩:=ah mf.o.1;obtain⟨a0,a1,a2,a3,a4,a5,a6,a7⟩:=ak mf.o.2.1;go_wp2_with fail;refine bY (HF3.o _ (iL.o.below mf.o.2.2.1)) λw5 jg=> ?_;have qF:=af (mf.o.below jg);clear jg;clear c0 c1 a0 a1 a2 a3 a4 a5 a6 a7;obtain⟨c0,c1⟩:=ah qF.o.1;obtain⟨a0,a1,a2,a3,a4,a5,a6,a7⟩:=ak qF.o.2.1;go_wp2_with fail;refine bY (HTE.o _ _ (hM.below qF.o.2.2.1) (iL.o.below qF.o.2.2.1)) λw6 jz=> ?_;have qm:=af (qF.o.below jz);clear jz;clear c0 c1 a0 a1 a2 a3 a4 a5 a6 a7;obtain⟨c0,c1⟩:=ah qm.o.1;obtain⟨a0,a1,a2,a3,a4,a5,a6,a7⟩:=ak qm.o.2.1;rcases hk with rfl|rfl|rfl|rfl|rfl|rfl
  .by_cases hl:(c.fields.length:Int)<8
   .cases i2 with
    |false=>
     obtain rfl:true=b:=by rw[<-HB.o];simp[iZ,hl,me.o]
     go_wp2;go_ret;exact⟨rfl,qm.o.2.2.1⟩
    |true=>
     obtain rfl:false=b:=by rw[<-HB.o];simp[iZ,hl,me.o]
     go_wp2;go_ret;exact⟨rfl,qm.o.2.2.1⟩
   .obtain rfl:false=b:=by rw[<-HB.o];simp[iZ,hl]
    go_wp2;go_ret;exact⟨rfl,qm.o.2.2.1⟩
  .cases i1 with
   |false=>
    obtain rfl:false=b:=by rw[<-HB.o];simp[iZ,zQ.o]
    go_wp2;go_ret;exact⟨rfl,qm.o.2.2.1⟩
   |true=>
    obtain rfl:true=b:=by rw[<-HB.o];simp[iZ,zQ.o]
    go_wp2;go_ret;exact⟨rfl,qm.o.2.2.1⟩
  .cases i1 with
   |false=>
    obtain rfl:false=b:=by rw[<-HB.o];simp[iZ,zQ.o]
    go_wp2;go_ret;exact⟨rfl,qm.o.2.2.1⟩
   |true=>
    cases i2 with
    |false=>
     obtain rfl:true=b:=by rw[<-HB.o];simp[iZ,zQ.o,me.o]
     go_wp2;go_ret;exact⟨rfl,qm.o.2.2.1⟩
    |true=>
     obtain rfl:false=b:=by rw[<-HB.o];simp[iZ,zQ.o,me.o]
     go_wp2;go_ret;exact⟨rfl,qm.o.2.2.1⟩
  .cases i1 with
   |false=>
    obtain rfl:false=b:=by rw[<-HB.o];simp[iZ,zQ.o]
    go_wp2;go_ret;exact⟨rfl,qm.o.2.2.1⟩
   |true=>
    obtain rfl:true=b:=by rw[<-HB.o];simp[iZ,zQ.o]
    go_wp2;go_ret;exact⟨rfl,qm.o.2.2.1⟩
  .cases i1 with
   |false=>
    obtain rfl:false=b:=by rw[<-HB.o];simp[iZ,zQ.o]
    go_wp2;go_ret;exact⟨rfl,qm.o.2.2.1⟩
   |true=>
    by_cases hl:(c.fields.length:Int)<8
    .by_cases mW:(n.toList==m.toList)=true
     .obtain rfl:false=b:=by rw[<-HB.o];simp[iZ,zQ.o,hl,mW]
      go_wp2;go_ret;exact⟨rfl,qm.o.2.2.1⟩
     .cases i2 with
      |false=>
       cases i3 with
       |false=>
        obtain rfl:true=b:=by rw[<-HB.o];simp[iZ,zQ.o,hl,mW,me.o,tq.o]
        go_wp2_with fail;refine bY (HTO.o _ _ (hM.below qm.o.2.2.1) (iL.o.below qm.o.2.2.1)) λw7 iJ=> ?_;have uH:=af (qm.o.below iJ);clear iJ;clear c0 c1 a0 a1 a2 a3 a4 a5 a6 a7;obtain⟨c0,c1⟩:=ah uH.o.1;obtain⟨a0,a1,a2,a3,a4,a5,a6,a7⟩:=ak uH.o.2.1;go_wp2;go_ret;exact⟨rfl,uH.o.2.2.1⟩
       |true=>
        by_cases CA:(m.toList==f.toList)=true
        .obtain rfl:true=b:=by rw[<-HB.o];simp[iZ,zQ.o,hl,mW,me.o,tq.o,CA]
         go_wp2_with fail;refine bY (HTO.o _ _ (hM.below qm.o.2.2.1) (iL.o.below qm.o.2.2.1)) λw7 iJ=> ?_;have uH:=af (qm.o.below iJ);clear iJ;clear c0 c1 a0 a1 a2 a3 a4 a5 a6 a7;obtain⟨c0,c1⟩:=ah uH.o.1;obtain⟨a0,a1,a2,a3,a4,a5,a6,a7⟩:=ak uH.o.2.1;go_wp2;go_ret;exact⟨rfl,uH.o.2.2.1⟩
        .obtain rfl:false=b:=by rw[<-HB.o];simp[iZ,zQ.o,hl,mW,me.o,tq.o,CA]
         go_wp2;go_ret;exact⟨rfl,qm.o.2.2.1⟩
      |true=>
       by_cases hnf:(n.toList==f.toList)=true
       .cases i3 with
        |false=>
         obtain rfl:true=b:=by rw[<-HB.o];simp[iZ,zQ.o,hl,mW,me.o,hnf,tq.o]
         go_wp2_with fail;refine bY (HTO.o _ _ (hM.below qm.o.2.2.1) (iL.o.below qm.o.2.2.1)) λw7 iJ=> ?_;have uH:=af (qm.o.below iJ);clear iJ;clear c0 c1 a0 a1 a2 a3 a4 a5 a6 a7;obtain⟨c0,c1⟩:=ah uH.o.1;obtain⟨a0,a1,a2,a3,a4,a5,a6,a7⟩:=ak uH.o.2.1;go_wp2;go_ret;exact⟨rfl,uH.o.2.2.1⟩
        |true=>
         by_cases CA:(m.toList==f.toList)=true
         .obtain rfl:true=b:=by rw[<-HB.o];simp[iZ,zQ.o,hl,mW,me.o,hnf,tq.o,CA]
          go_wp2_with fail;refine bY (HTO.o _ _ (hM.below qm.o.2.2.1) (iL.o.below qm.o.2.2.1)) λw7 iJ=> ?_;have uH:=af (qm.o.below iJ);clear iJ;clear c0 c1 a0 a1 a2 a3 a4 a5 a6 a7;obtain⟨c0,c1⟩:=ah uH.o.1;obtain⟨a0,a1,a2,a3,a4,a5,a6,a7⟩:=ak uH.o.2.1;go_wp2;go_ret;exact⟨rfl,uH.o.2.2.1⟩
         .obtain rfl:false=b:=by rw[<-HB.o];simp[iZ,zQ.o,hl,mW,me.o,hnf,tq.o,CA]
          go_wp2;go_ret;exact⟨rfl,qm.o.2.2.1⟩
       .obtain rfl:false=b:=by rw[<-HB.o];simp[iZ,zQ.o,hl,mW,me.o,hnf]
        go_wp2;go_ret;exact⟨rfl,qm.o.2.2.1⟩
    .obtain rfl:false=b:=by rw[<-HB.o];simp[iZ,zQ.o,hl]
     go_wp2;go_ret;exact⟨rfl,qm.o.2.2.1⟩
  .have qgy:fieldAt c f<c.fields.length:=wF c f;cases i1 with
   |false=>
    go_wp2_with fail;refine bY (jy.o _ (iL.o.below qm.o.2.2.1)) λw7 iJ=> ?_;have uH:=af (qm.o.below iJ);clear iJ;clear c0 c1 a0 a1 a2 a3 a4 a5 a6 a7;obtain⟨c0,c1⟩:=ah uH.o.1;obtain⟨a0,a1,a2,a3,a4,a5,a6,a7⟩:=ak uH.o.2.1;obtain rfl:false=b:=by rw[<-HB.o];simp[iZ,zQ.o]
    go_wp2;go_ret;exact⟨rfl,uH.o.2.2.1⟩
   |true=>
    obtain⟨q,fd,hq,F6,WG⟩:=Bz zQ.o;obtain rfl:(q:Int)=p1:=by rw[<-Nh.o,hq,if_neg (by omega)]
    have hql:=(Qad.1 F6).1;obtain⟨bl,off,rfl,wh,cR,aL⟩:=zN.o (by omega);obtain⟨cs,⟨rfl,_⟩,hfc⟩:=aL q fd F6;have mZ:bt w bl (off+q*4+1) (xI fd.type.kind):=hfc 1 _ rfl;have NM:wW c f=fd.type.kind:=by unfold wW;rw[hq];simp[F6]
    go_wp2_with fail;refine bY (jy.o _ (iL.o.below qm.o.2.2.1)) λw7 iJ=> ?_;have uH:=af (qm.o.below iJ);clear iJ;clear c0 c1 a0 a1 a2 a3 a4 a5 a6 a7;obtain⟨c0,c1⟩:=ah uH.o.1;obtain⟨a0,a1,a2,a3,a4,a5,a6,a7⟩:=ak uH.o.2.1;have CO:bt w7 bl (off+q*4+1) (xI fd.type.kind):=(uH.o.2.2.1.cell (p:=⟨bl,off+q*4+1,none⟩) cR).trans mZ;clear mZ aL hfc WG hq F6;by_cases Bm:fd.type.kind<=3
    .obtain rfl:true=b:=by rw[<-HB.o];simp[iZ,zQ.o,NM,Bm]
     go_wp2;go_ret;exact⟨rfl,uH.o.2.2.1⟩
    .obtain rfl:false=b:=by rw[<-HB.o];simp[iZ,zQ.o,NM,Bm]
     go_wp2;go_ret;exact⟨bz (by simp[Bm]),uH.o.2.2.1⟩
def ub {a b:aM}:cj a b=true↔a=b:=⟨λh=>tZ h,λh=>by subst h;simp[cj]⟩
def Dj {a b:aM}(h:a≠b):cj a b=false:=by
 cases hq:cj a b with
 |false=>rfl
 |true=>exact absurd (ub.1 hq) h
def cE(x:aC)(f:az):List az:=
 if !(cj f.name x.field)||decide (x.kind=1)then[f]
 else if x.kind=2 then[]else if x.kind=3 then[⟨x.name,f.type,f.indexed⟩]else if x.kind=4 then[⟨f.name,x.type,false⟩]
 else if x.kind=5 then[⟨x.name,x.type,false⟩,⟨x.more,x.type,false⟩]else[⟨f.name,f.type,!f.indexed⟩]
def JQ(x:aC):List az:=if x.kind=1 then[⟨x.name,x.type,false⟩]else[]
def bZ(c:ax)(x:aC):ax:=⟨c.name,c.fields.flatMap (cE x)++JQ x⟩
def dY(c:ax):aP c=true↔aB c.name=true/\c.fields.length<=8/\(∀f∈c.fields,bH f=true)/\(c.fields.map (·.name)).Nodup:=by
 rw[bo];refine and_congr_right λ_=>and_congr_right λ_=>⟨λh=>⟨λf hf=> ?_,?_⟩,λ⟨h1,h2⟩j f hj hf=>⟨h1 f (Qaf hf),?_⟩⟩
 .obtain⟨i,hi⟩:=List.getElem?_of_mem hf;exact(h i f (Qad.1 hi).1 hi).1
 .rw[List.Nodup,List.pairwise_iff_getElem];intro i j hi hj hij e;simp only[Qdc]at hi hj;simp only[List.getElem_map]at e;have a1:=(h i _ hi (Qac hi)).2;have a2:=(h j _ hj (Qac hj)).2;rw[e]at a1;omega
 .refine idxOf_hit (k:=j) (x:=f) (λy hy=> ?_) hf (ub.2 rfl);refine Dj λe=> ?_;obtain⟨i,hi⟩:=List.getElem?_of_mem hy;have ze:i<j:=by
   have:=(Qad.1 hi).1;simp at this;omega
  have ZW:=lr hi;rw[List.Nodup,List.pairwise_iff_getElem]at h2;have hl:=(Qad.1 ZW);have Bh:=(Qad.1 hf);refine h2 i j (by simpa using hl.1) (by simpa using Bh.1) ze ?_;simp only[List.getElem_map,hl.2,Bh.2,e]
structure iA(c:ax)(s:aM)(pre:List az)(f:az)(post:List az):Prop where
 eq:c.fields=pre++f::post
 name:f.name=s
 at_:fieldAt c s=pre.length
 pre_:∀g∈pre,g.name≠s
 post_:∀g∈post,g.name≠s
def nr(hc:aP c=true)(h:hasB c s=true):∃pre f post,iA c s pre f post:=by
 obtain⟨i,f,ha,hf,rfl⟩:=Bz h;obtain⟨hi,he⟩:=Qad.1 hf;have Tq:=((dY c).1 hc).2.2.2;have Yn:c.fields=c.fields.take i++f::c.fields.drop (i+1):=by
  rw[<-he,List.getElem_cons_drop,List.take_append_drop]
 rw[Yn]at Tq;simp only[List.map_append,List.map_cons,List.nodup_append,List.nodup_cons]at Tq;refine⟨c.fields.take i,f,c.fields.drop (i+1),Yn,rfl,by rw[ha,Qdb];omega,λg hg e=> ?_,λg hg e=> ?_⟩
 .exact Tq.2.2 g.name (List.mem_map_of_mem hg) f.name (List.mem_cons_self) e
 .exact Tq.2.1.1 (e▸List.mem_map_of_mem (f:=λg:az=>g.name) hg)
def BB {g:az}(h:g.name≠x.field):cE x g=[g]:=by
 unfold cE;simp[Dj h]
def rV {l:List az}(h:∀g∈l,g.name≠x.field):l.flatMap (cE x)=l:=by
 induction l with
 |nil=>rfl
 |cons a r ih=>
  rw[List.flatMap_cons,BB (h a List.mem_cons_self),ih λg hg=>h g (List.mem_cons_of_mem _ hg)];rfl
def iQ(x:aC)(f:az):List az:=
 if x.kind=2 then[]else if x.kind=3 then[⟨x.name,f.type,f.indexed⟩]else if x.kind=4 then[⟨f.name,x.type,false⟩]
 else if x.kind=5 then[⟨x.name,x.type,false⟩,⟨x.more,x.type,false⟩]else[⟨f.name,f.type,!f.indexed⟩]
def fh {pre post:List az}(h:iA c x.field pre f post)(hk:x.kind≠1):bZ c x=⟨c.name,pre++iQ x f++post⟩:=by
 have e:cE x f=iQ x f:=by unfold cE iQ;rw[h.name];simp[ub.2 rfl,hk]
 unfold bZ JQ;rw[h.eq,List.flatMap_append,List.flatMap_cons,rV h.pre_,rV h.post_,e];simp[hk]
def pR(hk:x.kind=1):bZ c x=⟨c.name,c.fields++[⟨x.name,x.type,false⟩]⟩:=by
 have e:∀l:List az,l.flatMap (cE x)=l:=λl=>by
  induction l with
  |nil=>rfl
  |cons a r ih=>rw[List.flatMap_cons,ih];simp[cE,hk]
 unfold bZ JQ;rw[e,if_pos hk]
def GJ(h:hasB c s=false):∀g∈c.fields,g.name≠s:=by
 intro g hg e;obtain⟨i,hi⟩:=List.getElem?_of_mem hg;have:=uL hi;rw[e]at this;unfold hasB at h;simp at h;omega
def mu {pre post Ua:List az}(hc:aP ⟨nm,pre++f::post⟩=true)(hl:pre.length+Ua.length+post.length<=8)(hm:∀g∈Ua,bH g=true)(hn:(Ua.map (·.name)).Nodup)(hd:∀g∈Ua,∀k,k∈pre\/k∈post->k.name≠g.name):
 aP ⟨nm,pre++Ua++post⟩=true:=by
 obtain⟨h1,h2,h3,h4⟩:=(dY _).1 hc;refine(dY _).2 ⟨h1,by simp;omega,λg hg=> ?_,?_⟩
 .simp only[Qch]at hg;rcases hg with(hg|hg)|hg
  .exact h3 g (by simp[hg])
  .exact hm g hg
  .exact h3 g (by simp[hg])
 .simp only[List.map_append,List.map_cons,List.nodup_append,List.nodup_cons]at h4⊢;refine⟨⟨h4.1,hn,λa ha b hb=> ?_⟩,h4.2.1.2,λa ha b hb=> ?_⟩
  .obtain⟨g,hg,rfl⟩:=List.mem_map.1 ha;obtain⟨k,hk,rfl⟩:=List.mem_map.1 hb;exact hd k hk g (.inl hg)
  .rcases Qch.1 ha with ha|ha
   .exact h4.2.2 a ha b (List.mem_cons_of_mem _ hb)
   .obtain⟨g,hg,rfl⟩:=List.mem_map.1 ha;obtain⟨k,hk,rfl⟩:=List.mem_map.1 hb;exactλe=>hd g hg k (.inr hk) e.symm
def uR(h:bH f=true):aB f.name=true/\aG f.type=true/\(f.indexed=true->f.type.kind<=3):=by
 unfold bH at h;simp only[Qce,Bool.or_eq_true,Bool.not_eq_true',decide_eq_true_eq]at h;exact⟨h.1.1,h.1.2,λhi=>by rcases h.2 with h|h;rw[hi]at h;cases h;exact h⟩
def mw {n:aM}{t:aT}{i:Bool}(hn:aB n=true)(ht:aG t=true)(hi:i=true->t.kind<=3):bH ⟨n,t,i⟩=true:=by
 unfold bH;cases i with
 |false=>simp[hn,ht]
 |true=>simp[hn,ht,hi rfl]
def Dk(hc:aP c=true)(hp:qM c x)(hb:iZ c x=true):aP (bZ c x)=true:=by
 obtain⟨h1,h2,h3,h4⟩:=(dY _).1 hc;have hk:x.kind=1\/x.kind=2\/x.kind=3\/x.kind=4\/x.kind=5\/x.kind=6:=by have:=hp.sh;simp only[np]at this;omega
 by_cases oF:x.kind=1
 .rw[pR oF];have l6:=hb;unfold iZ at l6;rw[if_pos oF]at l6;simp only[Qce,decide_eq_true_eq,Bool.not_eq_true']at l6;have Bi:=GJ l6.2;refine(dY _).2 ⟨h1,by simp;omega,λg hg=> ?_,?_⟩
  .simp only[Qch,Qdf,List.not_mem_nil,or_false]at hg;rcases hg with hg|rfl
   .exact h3 g hg
   .exact mw (hp.name (.inl oF)) (hp.type (.inl oF)) (λh=>by cases h)
  .simp only[List.map_append,List.map_cons,List.map_nil,List.nodup_append,List.nodup_cons];refine⟨h4,⟨by simp,by simp⟩,λa ha b hb=> ?_⟩;obtain⟨g,hg,rfl⟩:=List.mem_map.1 ha;simp at hb;subst hb;exact Bi g hg
 .have hf:hasB c x.field=true:=by
   have l6:=hb;unfold iZ at l6;rw[if_neg oF]at l6;rcases hk with h|h|h|h|h|h
   .exact absurd h oF
   all_goals simp[h]at l6;first|exact l6|exact l6.1|exact l6.1.1|exact l6.1.1.1.1
  obtain⟨pre,f,post,ha⟩:=nr hc hf;rw[fh ha oF];have hc':aP ⟨c.name,pre++f::post⟩=true:=by rw[<-ha.eq];exact hc
  have hlen:pre.length+1+post.length<=8:=by have:=h2;rw[ha.eq]at this;simp at this;omega
  have tH:=uR (h3 f (by rw[ha.eq];simp));have hold:∀k,k∈pre\/k∈post->k∈c.fields/\k.name≠x.field:=λk hk=>by
   rcases hk with hk|hk
   .exact⟨by rw[ha.eq];simp[hk],ha.pre_ k hk⟩
   .exact⟨by rw[ha.eq];simp[hk],ha.post_ k hk⟩
  unfold iZ at hb;rw[if_neg oF]at hb;rcases hk with hk|hk|hk|hk|hk|hk
  .exact absurd hk oF
  .have e:iQ x f=[]:=by simp[iQ,hk]
   rw[e];exact mu hc' (by simp;omega) (λg hg=>by simp at hg) (by simp) (λg hg=>by simp at hg)
  .have e:iQ x f=[⟨x.name,f.type,f.indexed⟩]:=by simp[iQ,hk]
   simp[hk]at hb;rw[e];refine mu hc' (by simp;omega) (λg hg=> ?_) (by simp) (λg hg k hk=> ?_)
   .simp at hg;subst hg;exact mw (hp.name (.inr (.inl hk))) tH.2.1 tH.2.2
   .simp at hg;subst hg;exact GJ hb.2 k (hold k hk).1
  .have e:iQ x f=[⟨f.name,x.type,false⟩]:=by simp[iQ,hk]
   rw[e];refine mu hc' (by simp;omega) (λg hg=> ?_) (by simp) (λg hg k hk=> ?_)
   .simp at hg;subst hg;exact mw tH.1 (hp.type (.inr (.inl hk))) (λh=>by cases h)
   .simp at hg;subst hg;have:=(hold k hk).2;rw[<-ha.name]at this;exact this
  .have e:iQ x f=[⟨x.name,x.type,false⟩,⟨x.more,x.type,false⟩]:=by simp[iQ,hk]
   simp only[hk]at hb;simp at hb;have hne:x.name≠x.more:=λh=>hb.1.1.2 (by rw[h]);have ho:∀(s:aM),(hasB c s=false\/s.toList=x.field.toList)->∀k,k∈pre\/k∈post->k.name≠s:=λs hs k hk=>by
    rcases hs with hs|hs
    .exact GJ hs k (hold k hk).1
    .have:s=x.field:=tZ (by simp[hs]);rw[this];exact(hold k hk).2
   rw[e];have hl8:c.fields.length<8:=by have:=hb.1.1.1.2;omega
   have hl9:pre.length+1+post.length<8:=by have:=hl8;rw[ha.eq]at this;simp at this;omega
   refine mu hc' (by simp;omega) (λg hg=> ?_) (by simp[hne]) (λg hg k hk=> ?_)
   .simp at hg;rcases hg with rfl|rfl
    .exact mw (hp.name (.inr (.inr hk))) (hp.type (.inr (.inr hk))) (λh=>by cases h)
    .exact mw (hp.more hk) (hp.type (.inr (.inr hk))) (λh=>by cases h)
   .simp at hg;rcases hg with rfl|rfl
    .exact ho _ hb.1.2 k hk
    .exact ho _ hb.2 k hk
  .have e:iQ x f=[⟨f.name,f.type,!f.indexed⟩]:=by simp[iQ,hk]
   simp[hk]at hb;have Bm:f.type.kind<=3:=by
    have h:=hb.2;unfold wW at h;rw[ha.at_,ha.eq]at h;simpa using h
   rw[e];refine mu hc' (by simp;omega) (λg hg=> ?_) (by simp) (λg hg k hk=> ?_)
   .simp at hg;subst hg;exact mw tH.1 tH.2.1 (λ_=>Bm)
   .simp at hg;subst hg;have:=(hold k hk).2;rw[<-ha.name]at this;exact this
inductive kW(c:ax):aw->aT->Prop
 |num(n:Int):0<=n->n<=9->kW c (nE n) ⟨1,0⟩
 |txt(s:List UInt8):s∈([[120],[45],[98],[110,111],[97,32,98]]:List (List UInt8))->kW c (tE s) ⟨2,0⟩
 |fld(f:az)(i:Nat):fieldAt c f.name=i->c.fields[i]? =some f->kW c (.mk 3 0 f.name []) f.type
 |ari(s:List UInt8)(a b:aw):s=[42]\/s=[45]\/s=[47]->kW c a ⟨1,0⟩->kW c b ⟨1,0⟩->kW c (JF s a b) ⟨1,0⟩
 |cat(a b:aw):kW c a ⟨2,0⟩->kW c b ⟨2,0⟩->kW c (JF [38] a b) ⟨2,0⟩
 |cmp(s:List UInt8)(a b:aw):s=[61]\/s=[62]->kW c a ⟨1,0⟩->kW c b ⟨1,0⟩->kW c (JF s a b) ⟨1,0⟩
 |len(a:aw):kW c a ⟨2,0⟩->kW c (mi [108,101,110] [a]) ⟨1,0⟩
 |text(a:aw):kW c a ⟨1,0⟩->kW c (mi [116,101,120,116] [a]) ⟨2,0⟩
 |left(a b:aw):kW c a ⟨2,0⟩->kW c b ⟨1,0⟩->kW c (mi [108,101,102,116] [a,b]) ⟨2,0⟩
 |from_(a b:aw):kW c a ⟨2,0⟩->kW c b ⟨1,0⟩->kW c (mi [102,114,111,109] [a,b]) ⟨2,0⟩
 |find(a b:aw):kW c a ⟨2,0⟩->kW c b ⟨2,0⟩->kW c (mi [102,105,110,100] [a,b]) ⟨1,0⟩
 |ite(a b d:aw)(p:Int):p=1\/p=2->kW c a ⟨1,0⟩->kW c b ⟨p,0⟩->kW c d ⟨p,0⟩->kW c (mi [105,102] [a,b,d]) ⟨p,0⟩
def GK(hc:aP c=true)(hn:∀f∈c.fields,f.name.data.toList∈names9)(hf:f∈c.fields):kW c (tN f.name.data.toList) f.type:=by
 obtain⟨h1,h2,_⟩:=qZ _ (hn f hf);obtain⟨i,h3,h4⟩:=wU hc hf;unfold tN;rw[if_neg h1,if_neg h2];unfold fE;rw[JO];exact .fld f i h3 h4
def Oq(hc:aP c=true)(hn:∀f∈c.fields,f.name.data.toList∈names9)(h:tY c s):s.data.toList∈[55]::names9/\kW c (tN s.data.toList) ⟨1,0⟩:=by
 rcases h with rfl|⟨f,hf,ht,rfl⟩
 .exact⟨by decide, .num 7 (by omega) (by omega)⟩
 .exact⟨List.mem_cons_of_mem _ (hn f hf),ht▸GK hc hn hf⟩
def JR(hc:aP c=true)(hn:∀f∈c.fields,f.name.data.toList∈names9)(h:pQ c s):s.data.toList∈[34,97,32,98,34]::names9/\kW c (tN s.data.toList) ⟨2,0⟩:=by
 rcases h with rfl|⟨f,hf,ht,rfl⟩
 .exact⟨by decide, .txt [97,32,98] (by decide)⟩
 .exact⟨List.mem_cons_of_mem _ (hn f hf),ht▸GK hc hn hf⟩
def Si {num txt:aw}(hx:kW c num ⟨1,0⟩)(hy:kW c txt ⟨2,0⟩):∀x∈oH num txt,kW c x ⟨1,0⟩:=by
 intro x hm;simp only[oH,Qdf,List.not_mem_nil,or_false]at hm;rcases hm with rfl|rfl|rfl|rfl|rfl|rfl|rfl
 .exact .num 3 (by omega) (by omega)
 .exact hx
 .exact .ari _ _ _ (.inr (.inl rfl)) (.ari _ _ _ (.inl rfl) hx (.num 2 (by omega) (by omega))) (.num 1 (by omega) (by omega))
 .exact .len _ hy
 .exact .ite _ _ _ 1 (.inl rfl) (.cmp _ _ _ (.inr rfl) hx (.num 2 (by omega) (by omega))) hx (.ari _ _ _ (.inr (.inl rfl)) (.num 0 (by omega) (by omega)) hx)
 .exact .find _ _ (.txt _ (by decide)) hy
 .exact .ari _ _ _ (.inr (.inr rfl)) hx hx
def Ot {num txt:aw}(hx:kW c num ⟨1,0⟩)(hy:kW c txt ⟨2,0⟩):∀x∈mj num txt,kW c x ⟨2,0⟩:=by
 intro x hm;simp only[mj,Qdf,List.not_mem_nil,or_false]at hm;rcases hm with rfl|rfl|rfl|rfl|rfl|rfl|rfl
 .exact .txt _ (by decide)
 .exact hy
 .exact .cat _ _ (.cat _ _ hy (.txt _ (by decide))) hy
 .exact .text _ hx
 .exact .left _ _ hy (.num 2 (by omega) (by omega))
 .exact .from_ _ _ hy (.num 3 (by omega) (by omega))
 .exact .ite _ _ _ 2 (.inr rfl) (.cmp _ _ _ (.inl rfl) hx (.num 1 (by omega) (by omega))) hy (.txt _ (by decide))
structure Ou(c:ax)(t:aT)(s:List UInt8)(x:aw):Prop where
 parse:ee s=some x
 kind:jc c x t
 ty:kW c x t
def Dl(hc:aP c=true)(hn:∀f∈c.fields,f.name.data.toList∈names9){t:aT}(h:gZ c t s)(hs:s.data.toList≠[]):∃x,Ou c t s.data.toList x:=by
 rcases h with⟨rfl,num,txt,h1,h2,h3⟩|⟨rfl,num,txt,h1,h2,h3⟩|⟨h1,h2,h3⟩
 .obtain⟨a1,a2⟩:=JP hc hn h1;obtain⟨b1,b2⟩:=Dg hc hn h2;have hm:s.data.toList∈U6 num.data.toList txt.data.toList:=by
   simp only[oN,Qdf,List.not_mem_nil,or_false]at h3;rcases h3 with rfl|rfl|rfl|rfl|rfl|rfl|rfl|rfl
   .exact absurd rfl hs
   all_goals simp[U6,Joins.data_append]
  have mR:=List.all_eq_true.1 (List.all_eq_true.1 N5 _ a1) _ b1;obtain⟨x,hx,zd⟩:=Om mR rfl hm;exact⟨x,tO zd,Ll a2 b2 x hx,Si (Oq hc hn h1).2 (JR hc hn h2).2 x hx⟩
 .obtain⟨a1,a2⟩:=JP hc hn h1;obtain⟨b1,b2⟩:=Dg hc hn h2;have hm:s.data.toList∈Gp num.data.toList txt.data.toList:=by
   simp only[mn,Qdf,List.not_mem_nil,or_false]at h3;rcases h3 with rfl|rfl|rfl|rfl|rfl|rfl|rfl|rfl
   .exact absurd rfl hs
   all_goals simp[Gp,Joins.data_append]
  have mR:=List.all_eq_true.1 (List.all_eq_true.1 K9 _ a1) _ b1;obtain⟨x,hx,zd⟩:=Om mR rfl hm;exact⟨x,tO zd,GH a2 b2 x hx,Ot (Oq hc hn h1).2 (JR hc hn h2).2 x hx⟩
 .rcases h3 with rfl|⟨f,hf,ht,rfl⟩
  .exact absurd rfl hs
  .have h9:=hn f hf;have zd:=List.all_eq_true.1 La _ h9;have hk:=wV hc hn hf;have ou:=GK hc hn hf;obtain⟨q1,q2,_⟩:=qZ _ h9;unfold tN at hk ou;rw[if_neg q1,if_neg q2,ht]at hk ou;exact⟨_,tO zd,hk,ou⟩
def oO(c:ax)(t:aT)(s:aM):Prop:=s.data.toList=[]\/∃x,Ou c t s.data.toList x
theorem oO.nR {t:aT}(h:oO c t s):rU c t s:=h.imp_right λ⟨x,hx⟩=>⟨x,hx.parse,hx.kind⟩
structure iR(c:ax)(x:aC):Prop where
 pre:qM c x
 expr:oO c x.type x.expr
 other:oO c x.type x.other
 name9:(x.kind=1\/x.kind=3\/x.kind=5)->x.name.data.toList∈names9
 more9:x.kind=5->x.more.data.toList∈names9
structure cG(c:ax):Prop where
 right:aP c=true
 names:∀f∈c.fields,f.name.data.toList∈names9
 small:c.name.size<=20
def BC:∀s∈names9,s.length<=20:=by decide
def wX(h:s.data.toList∈names9):s.size<=20:=by have:=BC _ h;rwa [bq]at this
def Lm(hg:iR c x)(hf:f.name.data.toList∈names9):∀g∈iQ x f,g.name.data.toList∈names9:=by
 intro g h;unfold iQ at h;split at h
 .simp at h
 .split at h
  .rename_i hk;simp at h;subst h;exact hg.name9 (.inr (.inl hk))
  .split at h
   .simp at h;subst h;exact hf
   .split at h
    .rename_i hk;simp at h;rcases h with rfl|rfl
     .exact hg.name9 (.inr (.inr hk))
     .exact hg.more9 hk
    .simp at h;subst h;exact hf
def Sj(hs:np x)(hb:iZ c x=true)(oF:x.kind≠1):hasB c x.field=true:=by
 have hk:x.kind=1\/x.kind=2\/x.kind=3\/x.kind=4\/x.kind=5\/x.kind=6:=by simp only[np]at hs;omega
 unfold iZ at hb;rw[if_neg oF]at hb;rcases hk with h|h|h|h|h|h
 .exact absurd h oF
 all_goals simp[h]at hb;first|exact hb|exact hb.1|exact hb.1.1|exact hb.1.1.1.1
def Ov(hc:cG c)(hg:iR c x)(hb:iZ c x=true):cG (bZ c x):=by
 refine⟨Dk hc.right hg.pre hb,?_,hc.small⟩;by_cases hk:x.kind=1
 .rw[pR hk];intro f hf;simp only[Qch,Qdf,List.not_mem_nil,or_false]at hf;rcases hf with hf|rfl
  .exact hc.names f hf
  .exact hg.name9 (.inl hk)
 .obtain⟨pre,f,post,ha⟩:=nr hc.right (Sj hg.pre.sh hb hk);rw[fh ha hk];have kp:∀g,g∈pre++f::post->g.name.data.toList∈names9:=λg hg=>hc.names g (by rw[ha.eq];exact hg);intro g h;simp only[Qch]at h;rcases h with(h|h)|h
  .exact kp g (by simp[h])
  .exact Lm hg (kp f (by simp)) g h
  .exact kp g (by simp[h])
inductive cY:ax->List aC->ax->Prop
 |nil(c:ax):cY c [] c
 |cons(c d:ax)(x:aC)(l:List aC):iR c x->iZ c x=true->cY (bZ c x) l d->cY c (x::l) d
theorem cY.ok {l:List aC}(h:cY c l d)(hc:cG c):cG d:=by
 induction h with
 |nil c=>exact hc
 |cons c d x l hg hb _ ih=>exact ih (Ov hc hg hb)
theorem cY.snoc {l:List aC}(h:cY c l d)(hg:iR d x)(hb:iZ d x=true):cY c (l++[x]) (bZ d x):=by
 induction h with
 |nil c=>exact .cons _ _ _ _ hg hb (.nil _)
 |cons c d y l h1 h2 _ ih=>exact .cons _ _ _ _ h1 h2 (ih hg hb)
theorem cY.split {l:List aC}(h:cY c l d)(i:Nat):∃e,cY c (l.take i) e/\cY e (l.drop i) d:=by
 induction h generalizing i with
 |nil c=>exact⟨c,by simpa using cY.nil c,by simpa using cY.nil c⟩
 |cons c d y l h1 h2 h3 ih=>
  cases i with
  |zero=>exact⟨c, .nil c, .cons _ _ _ _ h1 h2 h3⟩
  |succ i=>
   obtain⟨e,k1,k2⟩:=ih i;exact⟨e, .cons _ _ _ _ h1 h2 k1,k2⟩
theorem cY.eq {e:ax}{l:List aC}(h:cY c l d)(k:cY c l e):d=e:=by
 induction h with
 |nil c=>cases k;rfl
 |cons c d y l h1 h2 h3 ih=>cases k with|cons _ _ _ _ _ _ k3=>exact ih k3
def pS(hK:W.heap.size=K)(o:Obj):(W.alloc o).heap[K]? =some o:=by subst hK;exact Qbh W o
def Ak {α:Type} [au α]{xs:List α}{cells:Array an}(css:List (List an))(hM:¬M K)(hK:bR W K (.cells cells t (0,0)))(hc:cells.toList=css.flatten)(hl:css.length=xs.length)
 (hr:∀(i:Nat)(cs:List an)(x:α),css[i]? =some cs->xs[i]? =some x->au.rep M W cs x)(hm:xs.length<=maxLen):ab M W (xL (some ⟨K,0,none⟩) xs.length xs.length) xs:=by
 have hsz:∀(n:Nat)(css:List (List an))(xs:List α),css.length=n->xs.length=n->(∀(i:Nat)(cs:List an)(x:α),css[i]? =some cs->xs[i]? =some x->au.rep M W cs x)->css.flatten.length=n*au.size α:=by
  intro n;induction n with
  |zero=>intro css xs h1 _ _;rw[List.length_eq_zero_iff.1 h1];simp
  |succ n ih=>
   intro css xs h1 h2 h;match css,xs,h1,h2 with
   |c::css,x::xs,h1,h2=>
    rw[List.flatten_cons,Qda,ih css xs (by simpa using h1) (by simpa using h2) (λi cs y hc hy=>h (i+1) cs y (by simpa using hc) (by simpa using hy)),au.len (h 0 c x rfl rfl),Nat.succ_mul];omega
 refine⟨css,⟨hsz _ css xs hl rfl hr,some ⟨K,0,none⟩,xs.length,rfl,bN,hm,λ_=>⟨K,0,rfl,hM,(Qaa.1 hK).1,λj u hu=> ?_⟩⟩,hl,hr⟩;rw[Nat.zero_add];rw[<-hc]at hu;exact cell_of_heap hK (by simpa using hu)
def GL(f:az):List an:=[xS f.name,xI f.type.kind,xI f.type.of,xB f.indexed]
def my(f:az)(hs:f.name.size<=maxLen)(hM:¬M K)(hK:bR W K (xK #[xS f.name,xI f.type.kind,xI f.type.of,xB f.indexed] t)):ab M W (xL (some ⟨K,0,none⟩) 1 1) [f]:=
 Ak [GL f] hM hK rfl rfl (λi cs x hc hx=>by
  match i with
  |0=>simp at hc hx;subst hc hx;exact⟨rfl,hs⟩
  |n+1=>simp at hc) (by unfold maxLen;simp)
def GM(f g:az)(hs:f.name.size<=maxLen)(hg:g.name.size<=maxLen)(hM:¬M K)(hK:bR W K (xK #[xS f.name,xI f.type.kind,xI f.type.of,xB f.indexed,xS g.name,xI g.type.kind,xI g.type.of,xB g.indexed] t)):ab M W (xL (some ⟨K,0,none⟩) 2 2) [f,g]:=
 Ak [GL f,GL g] hM hK rfl rfl (λi cs x hc hx=>by
  match i with
  |0=>simp at hc hx;subst hc hx;exact⟨rfl,hs⟩
  |1=>simp at hc hx;subst hc hx;exact⟨rfl,hg⟩
  |n+2=>simp at hc) (by unfold maxLen;simp)
def GN(x:aC)(f:az)(hk:x.kind=1\/x.kind=2\/x.kind=3\/x.kind=4\/x.kind=5\/x.kind=6)(hs:f.name.size<=maxLen)(fu:x.name.size<=maxLen)(j6:x.more.size<=maxLen)(M:aN)(w:aj)(hM:Bd M w):
 xG 244 #[.agg #[xS f.name,xI f.type.kind,xI f.type.of,xB f.indexed], .agg #[xI x.kind,xS x.field,xS x.name,xS x.more,xI x.type.kind,xI x.type.of,xS x.expr,xS x.other]] w λv w'=>ab M w' v (cE x f):=by
 have Yo:∀K,w.heap.size<=K->¬M K:=λK h hm=>by have:=hM K hm;omega
 obtain⟨k,fi,n,m,⟨tk,tf⟩,e,o⟩:=x;obtain⟨fn,⟨fk,fo⟩,ix⟩:=f;dsimp only at*;by_cases hq:(fn.toList==fi.toList)=true
 .rcases hk with rfl|rfl|rfl|rfl|rfl|rfl
  .have ht:cE ⟨1,fi,n,m,⟨tk,tf⟩,e,o⟩ ⟨fn,⟨fk,fo⟩,ix⟩=[⟨fn,⟨fk,fo⟩,ix⟩]:=by simp[cE]
   rw[ht];have HT:=af ht;go_enter func244,ntmps244;go_wp2;go_ret;exact⟨_,rfl,my ⟨fn,⟨fk,fo⟩,ix⟩ hs (Yo _ (by omega)) (pS (by simp) _),(by repeat(first|exact Qbg _ _|refine Below.setCell ?_ (by simp<;>omega) _|refine Below.alloc ?_ (by simp<;>omega) _))⟩
  .have ht:cE ⟨2,fi,n,m,⟨tk,tf⟩,e,o⟩ ⟨fn,⟨fk,fo⟩,ix⟩=[]:=by simp[cE,cj,hq]
   rw[ht];have HT:=af ht;go_enter func244,ntmps244;go_wp2;go_ret;exact⟨_,rfl,ab.nil _ _,(by repeat(first|exact Qbg _ _|refine Below.setCell ?_ (by simp<;>omega) _|refine Below.alloc ?_ (by simp<;>omega) _))⟩
  .have ht:cE ⟨3,fi,n,m,⟨tk,tf⟩,e,o⟩ ⟨fn,⟨fk,fo⟩,ix⟩=[⟨n,⟨fk,fo⟩,ix⟩]:=by simp[cE,cj,hq]
   rw[ht];have HT:=af ht;go_enter func244,ntmps244;go_wp2;go_ret;exact⟨_,rfl,my ⟨n,⟨fk,fo⟩,ix⟩ fu (Yo _ (by omega)) (pS (by simp) _),(by repeat(first|exact Qbg _ _|refine Below.setCell ?_ (by simp<;>omega) _|refine Below.alloc ?_ (by simp<;>omega) _))⟩
  .have ht:cE ⟨4,fi,n,m,⟨tk,tf⟩,e,o⟩ ⟨fn,⟨fk,fo⟩,ix⟩=[⟨fn,⟨tk,tf⟩,false⟩]:=by simp[cE,cj,hq]
   rw[ht];have HT:=af ht;go_enter func244,ntmps244;go_wp2;go_ret;exact⟨_,rfl,my ⟨fn,⟨tk,tf⟩,false⟩ hs (Yo _ (by omega)) (pS (by simp) _),(by repeat(first|exact Qbg _ _|refine Below.setCell ?_ (by simp<;>omega) _|refine Below.alloc ?_ (by simp<;>omega) _))⟩
  .have ht:cE ⟨5,fi,n,m,⟨tk,tf⟩,e,o⟩ ⟨fn,⟨fk,fo⟩,ix⟩=[⟨n,⟨tk,tf⟩,false⟩,⟨m,⟨tk,tf⟩,false⟩]:=by simp[cE,cj,hq]
   rw[ht];have HT:=af ht;go_enter func244,ntmps244;go_wp2;go_ret;exact⟨_,rfl,GM ⟨n,⟨tk,tf⟩,false⟩ ⟨m,⟨tk,tf⟩,false⟩ fu j6 (Yo _ (by omega)) (pS (by simp) _),(by repeat(first|exact Qbg _ _|refine Below.setCell ?_ (by simp<;>omega) _|refine Below.alloc ?_ (by simp<;>omega) _))⟩
  .have ht:cE ⟨6,fi,n,m,⟨tk,tf⟩,e,o⟩ ⟨fn,⟨fk,fo⟩,ix⟩=[⟨fn,⟨fk,fo⟩,!ix⟩]:=by simp[cE,cj,hq]
   rw[ht];have HT:=af ht;go_enter func244,ntmps244;go_wp2;go_ret;exact⟨_,rfl,my ⟨fn,⟨fk,fo⟩,!ix⟩ hs (Yo _ (by omega)) (pS (by simp) _),(by repeat(first|exact Qbg _ _|refine Below.setCell ?_ (by simp<;>omega) _|refine Below.alloc ?_ (by simp<;>omega) _))⟩
 .have ht:cE ⟨k,fi,n,m,⟨tk,tf⟩,e,o⟩ ⟨fn,⟨fk,fo⟩,ix⟩=[⟨fn,⟨fk,fo⟩,ix⟩]:=by simp[cE,cj,hq]
  rw[ht];have HT:=af ht;go_enter func244,ntmps244;go_wp2;go_ret;exact⟨_,rfl,my ⟨fn,⟨fk,fo⟩,ix⟩ hs (Yo _ (by omega)) (pS (by simp) _),(by repeat(first|exact Qbg _ _|refine Below.setCell ?_ (by simp<;>omega) _|refine Below.alloc ?_ (by simp<;>omega) _))⟩
def aA.kind:aA->Int| .mk k _ _ _=>k
def aA.num:aA->Int| .mk _ n _ _=>n
def aA.list:aA->List aA| .mk _ _ _ l=>l
def cC(k:Int)(v:aA):List Int:=if v.kind=k then[v.num]else(v.list.filter λi=>decide (i.kind=k)).map aA.num
def kE {k many j:Int}{v:aA}(h:lh k many v)(hj:j=3\/j=4):(v.list=[]/\(v.kind=j->1<=v.num/\v.num<=many))/\(k=1\/k=2->v.kind≠j):=by
 rcases h with⟨rfl,n,rfl,_⟩|⟨rfl,s,rfl,_⟩|⟨hk,rfl|⟨n,rfl,h1,h2⟩⟩
 .exact⟨⟨rfl,λh=>by simp[aA.kind]at h;omega⟩,λ_ h=>by simp[aA.kind]at h;omega⟩
 .exact⟨⟨rfl,λh=>by simp[aA.kind]at h;omega⟩,λ_ h=>by simp[aA.kind]at h;omega⟩
 .exact⟨⟨rfl,λh=>by simp[aA.kind]at h;omega⟩,λh=>by omega⟩
 .exact⟨⟨rfl,λ_=>⟨h1,h2⟩⟩,λh=>by omega⟩
def q9 {t:aT}{many j:Int}{v:aA}(h:dx t many v)(hj:j=3\/j=4):∀n∈cC j v,1<=n/\n<=many:=by
 intro n hn;unfold cC at hn;rcases h with⟨ht,l,rfl,hl,ha⟩|⟨ht,h1⟩
 .rw[if_neg (by simp[aA.kind];omega)]at hn;obtain⟨i,hi,rfl⟩:=List.mem_map.1 hn;obtain⟨h2,h3⟩:=List.mem_filter.1 hi;exact(kE (ha i h2) hj).1.2 (by simpa using h3)
 .obtain⟨⟨h2,h3⟩,_⟩:=kE h1 hj;by_cases hk:v.kind=j
  .rw[if_pos hk]at hn;simp at hn;subst hn;exact h3 hk
  .rw[if_neg hk,h2]at hn;simp at hn
def GW {t:aT}{many j:Int}{v:aA}(h:dx t many v)(hj:j=3\/j=4)(ht:t.kind=1\/t.kind=2):cC j v=[]:=by
 unfold cC;rcases h with⟨h5,_⟩|⟨_,h1⟩
 .omega
 .obtain⟨⟨h2,_⟩,h3⟩:=kE h1 hj;rw[if_neg (h3 ht),h2];rfl
def kj(t:aT):aA:=if t.kind=3\/t.kind=4 then .mk 0 0 oe []else .mk t.kind 0 oe []
def JW {t:aT}(ht:aG t=true)(many:Int):dx t many (kj t)/\cC 3 (kj t)=[]:=by
 unfold aG at ht;by_cases h5:t.kind=5
 .have e:kj t= .mk 5 0 oe []:=by unfold kj;rw[if_neg (by omega),h5]
  rw[e];exact⟨.inl ⟨h5,[],rfl,by simp,λx h=>by cases h⟩,rfl⟩
 .rw[if_neg h5]at ht;simp at ht;by_cases Cu:t.kind=3\/t.kind=4
  .have e:kj t= .mk 0 0 oe []:=by unfold kj;rw[if_pos Cu]
   rw[e];exact⟨.inr ⟨h5, .inr (.inr ⟨Cu, .inl rfl⟩)⟩,rfl⟩
  .have e:kj t= .mk t.kind 0 oe []:=by unfold kj;rw[if_neg Cu]
   rw[e];refine⟨.inr ⟨h5,?_⟩,by simp[cC,aA.kind,aA.list];omega⟩;have:t.kind=1\/t.kind=2:=by omega
   rcases this with h|h
   .exact .inl ⟨h,0,by rw[h],by omega,by omega⟩
   .exact .inr (.inl ⟨h,oe,by rw[h],by decide,iP [] (by decide) (by decide)⟩)
def GX(c:ax)(e:aw)(rs:List (List Int)):List Int:=if e.kind=3 then rs.getD (fieldAt c e.str).toNat []else[]
def ky(c:ax)(s:aM)(rs:List (List Int)):List Int:=match ee s.data.toList with|some e=>GX c e rs|none=>[]
def lB(c:ax)(t:aT)(many:Int)(s:aM)(vs:List aA)(v:aA):Prop:=dx t many v/\cC 3 v=ky c s (vs.map (cC 3))
def nu(c:ax)(t:aT)(many:Int)(e:aw)(vs:List aA)(v:aA):Prop:=dx t many v/\(e.kind=3->vs[(fieldAt c e.str).toNat]? =some v)
def OF {c:ax}{e:aw}{t:aT}(h:kW c e t):e.kind=3\/t.kind=1\/t.kind=2:=by
 cases h<;>first|exact .inl rfl|exact .inr (.inl rfl)|exact .inr (.inr rfl)|skip
 rename_i hp _ _ _;exact .inr hp
def Lv {c:ax}{t:aT}{many:Int}{e:aw}{vs:List aA}{v:aA}(hp:ee s.data.toList=some e)(ht:kW c e t)(h:nu c t many e vs v):lB c t many s vs v:=by
 refine⟨h.1,?_⟩;unfold ky;rw[hp];unfold GX;by_cases hk:e.kind=3
 .simp only[if_pos hk];rw[List.getD_eq_getElem?_getD,List.getElem?_map,h.2 hk];rfl
 .simp only[if_neg hk];exact GW h.1 (.inl rfl) ((OF ht).resolve_left hk)
def OG {c:ax}{t:aT}{many:Int}{vs:List aA}(hs:s.data.toList=[])(ht:aG t=true):lB c t many s vs (kj t):=by
 refine⟨(JW ht many).1,?_⟩;rw[(JW ht many).2];unfold ky;rw[hs];have:ee []=none:=by decide
 rw[this]
def lP(c:ax)(x:aC)(rs:List (List Int)):List (List Int):=
 if x.kind=1 then rs++[ky c x.expr rs]
 else if x.kind=2 then rs.take (fieldAt c x.field).toNat++rs.drop ((fieldAt c x.field).toNat+1)
 else if x.kind=4 then rs.take (fieldAt c x.field).toNat++ky c x.expr rs::rs.drop ((fieldAt c x.field).toNat+1)
 else if x.kind=5 then rs.take (fieldAt c x.field).toNat++ky c x.expr rs::ky c x.other rs::rs.drop ((fieldAt c x.field).toNat+1)
 else rs
def gP(c:ax)(x:aC)(many:Int)(vs vs':List aA):Prop:=bh (bZ c x).fields many vs'/\vs'.map (cC 3)=lP c x (vs.map (cC 3))
theorem bh.nil(many:Int):bh [] many []:=⟨rfl,λi f v h=>by simp at h⟩
theorem bh.cons {f:az}{fs:List az}{many:Int}{v:aA}{vs:List aA}(h:dx f.type many v)(k:bh fs many vs):bh (f::fs) many (v::vs):=
 ⟨by simp[k.1],λi g u hg hu=>by
   cases i with
   |zero=>simp at hg hu;subst hg hu;exact h
   |succ i=>exact k.2 i g u (by simpa using hg) (by simpa using hu)⟩
theorem bh.GY {f:az}{fs:List az}{many:Int}{vs:List aA}(h:bh (f::fs) many vs):∃v us,vs=v::us/\dx f.type many v/\bh fs many us:=by
 obtain⟨h1,h2⟩:=h;cases vs with
 |nil=>simp at h1
 |cons v us=>exact⟨v,us,rfl,h2 0 f v rfl rfl,by simpa using h1,λi g u hg hu=>h2 (i+1) g u (by simpa using hg) (by simpa using hu)⟩
theorem bh.app {fs gs:List az}{many:Int}{vs:List aA}(h:bh fs many vs)(k:bh gs many us):bh (fs++gs) many (vs++us):=by
 induction fs generalizing vs with
 |nil=>have:=h.1;simp at this;subst this;exact k
 |cons f fs ih=>
  obtain⟨v,vs',rfl,h1,h2⟩:=h.GY;exact(ih h2).cons h1
theorem bh.Zf {fs gs:List az}{many:Int}{vs:List aA}(h:bh (fs++gs) many vs):bh fs many (vs.take fs.length)/\bh gs many (vs.drop fs.length):=by
 induction fs generalizing vs with
 |nil=>exact⟨by simpa using bh.nil many,by simpa using h⟩
 |cons f fs ih=>
  obtain⟨v,vs',rfl,h1,h2⟩:=bh.GY h;obtain⟨k1,k2⟩:=ih h2;exact⟨k1.cons h1,by simpa using k2⟩
theorem bh.nr {fs:List az}{pre post:List az}{f:az}{many:Int}{vs:List aA}(h:bh fs many vs)(e:fs=pre++f::post):bh pre many (vs.take pre.length)/\bh post many (vs.drop (pre.length+1))/\∃v,vs[pre.length]? =some v/\dx f.type many v:=by
 subst e;obtain⟨h1,h2⟩:=h.Zf;obtain⟨v,us,e,h3,h4⟩:=h2.GY;refine⟨h1,?_,v,?_,h3⟩
 .rw[<-List.drop_drop,e];simpa using h4
 .have:(vs.drop pre.length)[0]? =some v:=by rw[e];rfl
  simpa using this
def OH {c:ax}{x:aC}{many:Int}{vs:List aA}{v:aA}(hk:x.kind=1)(h:bh c.fields many vs)(ht:lB c x.type many x.expr vs v):gP c x many vs (vs++[v]):=by
 refine⟨?_,?_⟩
 .rw[pR hk];exact h.app ((bh.nil many).cons (f:=⟨x.name,x.type,false⟩) ht.1)
 .unfold lP;rw[if_pos hk,List.map_append,<-ht.2];rfl
section
variable {c:ax}{x:aC}{many:Int}{vs:List aA}{pre post:List az}{f:az}
def Lw(ha:iA c x.field pre f post)(hk:x.kind=2)(h:bh c.fields many vs):gP c x many vs (vs.take pre.length++vs.drop (pre.length+1)):=by
 obtain⟨h1,h2,_⟩:=h.nr ha.eq;refine⟨?_,?_⟩
 .rw[fh ha (by omega)];have e:iQ x f=[]:=by simp[iQ,hk]
  rw[e,List.append_nil];exact h1.app h2
 .unfold lP;rw[if_neg (by omega),if_pos hk,ha.at_,List.map_append,List.map_take,List.map_drop];rfl
def Lx(ha:iA c x.field pre f post)(hk:x.kind=3\/x.kind=6)(h:bh c.fields many vs):gP c x many vs vs:=by
 obtain⟨h1,h2,v,hv,h3⟩:=h.nr ha.eq;have e0:vs=vs.take pre.length++v::vs.drop (pre.length+1):=by
  obtain⟨hl,he⟩:=Qad.1 hv;rw[<-he,List.getElem_cons_drop,List.take_append_drop]
 refine⟨?_,?_⟩
 .rw[fh ha (by omega)];obtain⟨g,e,hg⟩:∃g:az,iQ x f=[g]/\g.type=f.type:=by
   rcases hk with hk|hk
   .exact⟨⟨x.name,f.type,f.indexed⟩,by simp[iQ,hk],rfl⟩
   .exact⟨⟨f.name,f.type,!f.indexed⟩,by simp[iQ,hk],rfl⟩
  rw[e,e0,List.append_assoc];exact h1.app (h2.cons (by rw[hg];exact h3))
 .unfold lP;rw[if_neg (by omega),if_neg (by omega),if_neg (by omega),if_neg (by omega)]
def Ly(ha:iA c x.field pre f post)(hk:x.kind=4)(h:bh c.fields many vs){v:aA}(ht:lB c x.type many x.expr vs v):gP c x many vs (vs.take pre.length++v::vs.drop (pre.length+1)):=by
 obtain⟨h1,h2,_⟩:=h.nr ha.eq;refine⟨?_,?_⟩
 .rw[fh ha (by omega)];have e:iQ x f=[⟨f.name,x.type,false⟩]:=by simp[iQ,hk]
  rw[e,List.append_assoc];exact h1.app (h2.cons ht.1)
 .unfold lP;rw[if_neg (by omega),if_neg (by omega),if_pos hk,ha.at_,List.map_append,List.map_cons,List.map_take,List.map_drop,<-ht.2];rfl
def GZ(ha:iA c x.field pre f post)(hk:x.kind=5)(h:bh c.fields many vs){v u:aA}(ht:lB c x.type many x.expr vs v)(hu:lB c x.type many x.other vs u):gP c x many vs (vs.take pre.length++v::u::vs.drop (pre.length+1)):=by
 obtain⟨h1,h2,_⟩:=h.nr ha.eq;refine⟨?_,?_⟩
 .rw[fh ha (by omega)];have e:iQ x f=[⟨x.name,x.type,false⟩,⟨x.more,x.type,false⟩]:=by simp[iQ,hk]
  rw[e,List.append_assoc];exact h1.app ((h2.cons hu.1).cons ht.1)
 .unfold lP;rw[if_neg (by omega),if_neg (by omega),if_neg (by omega),if_pos hk,ha.at_,List.map_append,List.map_cons,List.map_cons,List.map_take,List.map_drop,<-ht.2,<-hu.2];rfl
end
def pU:ax->List aC->List (List Int)->List (List Int)
 |_,[],rs=>rs
 |c,x::l,rs=>pU (bZ c x) l (lP c x rs)
def BH(c d:ax)(l:List aC)(x:aC)(rs:List (List Int))(h:cY c l d):pU c (l++[x]) rs=lP d x (pU c l rs):=by
 induction h generalizing rs with
 |nil c=>rfl
 |cons c d y l _ _ _ ih=>exact ih _
end Go.Proofs.YtepaofffbkfodaaGreatDoor
