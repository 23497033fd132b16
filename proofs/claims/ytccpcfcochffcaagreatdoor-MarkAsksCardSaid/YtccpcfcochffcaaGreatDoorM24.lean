/- A part of MarkAsks's proof; no condition. -/
import Derived.Test.YtccpcfcochffcaaGreatDoorM13
import Derived.Test.YtccpcfcochffcaaGreatDoorM14
set_option linter.all false
set_option maxHeartbeats 8000000
set_option maxRecDepth 100000
namespace Go.Proofs.YtccpcfcochffcaaGreatDoor
open Go.Proofs.Tryz
open Go.RowKit Go.Shelf
variable{w W w0:aj}
def Qp(k n:Int)(s:aT)(a:dC)(c:Nat)(k2 n2:Int)(s2:aT)(a2:dC)(c2:Nat)(p:ec)(w:aj):
 xC 191 #[.agg #[xI k,xI n,xS s,xL a 0 c,xI k2,xI n2,xS s2,xL a2 0 c2],ng p] w (gk w):=by
 obtain⟨k',n',s',a',c',i'⟩:=p;unfold ng;dsimp only;have rA:Hd (∀W,_):=λW=>iW k' k n' n s' s a' a c' c W;have AY:Hd (∀W,_):=λW=>iW k' k2 n' n2 s' s2 a' a2 c' c2 W;unfold jl at rA AY;have HX:Hd (∀W,Bx w [xK #[xI k,xI n,xS s,xL a 0 c,xI k2,xI n2,xS s2,xL a2 0 c2] 273,xK #[xI k',xI n',xS s',xL a' 0 c',xI i'] 238] W->_):=λW hb=>
  have x:=hb.bJ rfl
  have y:=hb.cE rfl
  And.intro (cell_of_heap x (i:=4) rfl) (And.intro (cell_of_heap x (i:=5) rfl) (And.intro (cell_of_heap x (i:=6) rfl) (And.intro (cell_of_heap x (i:=7) rfl) (And.intro (cell_of_heap y (i:=0) rfl) (And.intro (cell_of_heap y (i:=1) rfl) (And.intro (cell_of_heap y (i:=2) rfl) (cell_of_heap y (i:=3) rfl)))))));go_enter func191,ntmps191;go_wp2_with fail;refine(rA.o _).mono ?_;rintro e w1⟨x,rfl,hb⟩;have HB:=af ((Bx.dh w (xK #[xI k,xI n,xS s,xL a 0 c,xI k2,xI n2,xS s2,xL a2 0 c2] 273) (xK #[xI k',xI n',xS s',xL a' 0 c',xI i'] 238)).below hb);obtain⟨x4,x5,x6,x7,y0,y1,y2,y3⟩:=HX.o _ HB.o;by_cases hx:x<0
 .go_wp2;go_ret;exact(show gk _ _ _ from⟨_,rfl,HB.o.1⟩)
 go_wp2_with fail;refine(AY.o _).mono ?_;rintro e w2⟨y,rfl,hb⟩;have aL:=af (HB.o.below hb);by_cases hy:0<y;all_goals
  go_wp2;go_ret;exact(show gk _ _ _ from⟨_,rfl,aL.o.1⟩)
structure wO(w0:aj)(V:Nat)(L:List Int)(w:aj):Prop where
 blk:∃v,w.heap[V]? =some (RQ v)/\aP (α:=Int) xF (V+1) 3 w v L
 below:aq w0 w
 base:w0.heap.size<=V
theorem wO.later {V:Nat}{L:List Int}(h:wO w0 V L w)(hb:aq w W):wO w0 V L W:=by
 obtain⟨⟨v,h1,h2⟩,h3,h4⟩:=h;exact⟨⟨v,(hb.block V (Qaa.1 h1).1).trans h1,h2.below hb⟩,h3.trans (hb.mono h3.size),h4⟩
def Qq(w0 w:aj)(V:Nat)(L:List Int)(h:wO w0 V L w)(hz:L.length<=300)(b:Nat)(p:ec)(hh:Nat)(l r:an)(hb:cI w0 b (lQ 270 p l r hh)):
 xC 192 #[xP b,xP V] w λe w'=>e=xR (.tuple #[])/\wO w0 V (L++[p.id]) w':=by
 obtain⟨i0,dz,dX,cY,dA⟩:=info_parts iU;have HI:=af h;obtain⟨⟨v,hv,hacc⟩,cw,hbase⟩:=h;have c4:aU w b 4 (xI p.id):=(cB ((cw.block b (Qaa.1 hb).1).trans hb)).1.2.2.2.2.1;have HV:=af hv;have HA:=af (hacc.below ((Qbg _ w).drew));obtain⟨a1,c1,rfl,_⟩:=(hacc.slice λj hj=>hj.elim).open_;have v0:=one_cell hv;have v0':∀o,(w.alloc o).cell? ⟨V,0,none⟩=some (xL a1 L.length c1):=λo=>one_cell ((Qcb w o V (Qaa.1 hv).1).trans hv);have c4':∀o,(w.alloc o).cell? ⟨b,4,none⟩=some (xI p.id):=λo=>(World.cell?_alloc_lt _ o ⟨b,4,none⟩ (mJ c4)).trans c4;have NP:=af cw.drew;generalize qch:p.id=id at*;have HVZ:Hd (V<w.heap.size):=(Qaa.1 hv).1;go_enter func192,ntmps192;go_region_law(first
  |(refine cO (α:=Int) rfl _ _ _ rfl xF (V+1) 3 i0 _ 8 underlying27 dz dX cY dA rfl (by decide) (.slice a1 L.length c1) L rfl (HA.o.alloc _) (λ_=>True) _ _ id rfl (b9 _ _ _ _ rfl trivial) rfl (by unfold maxLen;omega) (by omega) (by have:=HVZ.o;simp;omega) ?_;intro a2 c2 w4 bu dr dT;have hv4:=(dT.block V (by omega)).trans ((Qcb w _ V HVZ.o).trans HV.o);have s4:=one_cell hv4;have f4:=ag hv4 0;have Ss:=af hv4;have HA4:=af bu;have eH:=af (NP.o.trans (((Qbg (V+1) w.drew).alloc (by have:=HVZ.o;show V+1<=w.heap.size;omega) _).trans dT|>.mono (by have:=HI.o.base;omega)));clear bu dr dT hv4)
  |fail);all_goals
  go_wp2_with fail;refine bodyPost_end (results_none rfl _ _ _) rfl ⟨rfl,?_⟩;have o1:ai (λk=>k=V) w4 (w4.setCell ⟨V,0,none⟩ (xL a2 (L.length+1) c2)):=(ai.refl (λk=>k=V) w4).setCell (p:=⟨V,0,none⟩) (.inl rfl) _;exact⟨⟨_,Qca w4 V 0 _ _ _ Ss.o,HA4.o.uj o1 (λj hj=>by have:j=V:=hj;omega) xj⟩,eH.o.setCell HI.o.base _,HI.o.base⟩
def Z6(w0:aj)(V:Nat)(L:List Int)(t:Tr)(w':aj):Prop:=∃L',wO w0 V L' w'/\(∀n∈L',n∈L\/n∈t.cells.map Prod.snd)/\L'.length<=L.length+t.cells.length
def Qr(w0:aj)(V:Nat)(k n:Int)(s:aT)(a:dC)(c:Nat)(k2 n2:Int)(s2:aT)(a2:dC)(c2:Nat):∀(t:Tr)(L:List Int)(w:aj),xA 270 w0 t->wO w0 V L w->L.length+t.cells.length<=300->
 xC 190 #[t.ptr, .func (.func 191) #[.agg #[xI k,xI n,xS s,xL a 0 c,xI k2,xI n2,xS s2,xL a2 0 c2]] #[], .func (.func 192) #[] #[xP V]] w
  λe w'=>e=xR (.tuple #[])/\Z6 w0 V L t w':=by
 intro t;induction t with
 |nil=>
  intro L w _ h _;have HI:=af h;unfold Tr.ptr;go_enter func190,ntmps190;go_wp2_with fail;refine Qae (results_none rfl _ _ _) rfl ⟨rfl,L,HI.o,λn h=> .inl h,by omega⟩
 |node b p h l r ihl ihr=>
  intro L w ht cm hz;obtain⟨hb,_,hl,hr⟩:=ht;have Ux:L.length+l.cells.length+r.cells.length+1<=300:=by simp[Tr.cells]at hz;omega
  have HL:Hd (∀w,wO w0 V L w->_):=λw h=>ihl L w hl h (by omega);have HR:Hd (∀(L1:List Int)w,L1.length<=L.length+l.cells.length+1->wO w0 V L1 w->_):=λL1 w cY h=>ihr L1 w hr h (by omega);have HV:Hd (∀(L1:List Int)w,L1.length<=L.length+l.cells.length->wO w0 V L1 w->_):=λL1 w cY h1=>Qq w0 w V L1 h1 (by omega) b p h l.ptr r.ptr hb;have HS:Hd (∀W,_):=λW=>Qp k n s a c k2 n2 s2 a2 c2 p W;have HC:=fV (w:=w0) (λW hB=>(cB ((hB.block b (Qaa.1 hb).1).trans hb)).1);have HI:=af cm;obtain⟨lp,Sw⟩:=l.eW;obtain⟨rp,Sx⟩:=r.eW;rw[Sw]at HL HC;rw[Sx]at HR HC;have HM:Hd (∀x,x∈(Tr.node b p h l r).cells.map Prod.snd↔x=p.id\/x∈l.cells.map Prod.snd\/x∈r.cells.map Prod.snd):=λx=>by simp[Tr.cells,List.map_append]
  have HZ:=af (show(Tr.node b p h l r).cells.length=l.cells.length+r.cells.length+1 by simp[Tr.cells]);obtain⟨k',m',s',a',c',i'⟩:=p;unfold ng at HS;dsimp only at*;obtain⟨q0,q1,q2,q3,q4,q5,q6,q7⟩:=HC.o _ cm.below;show xC 190 #[xP b,_,_] _ _;go_enter func190,ntmps190;go_wp2_with fail;refine(HS.o _).mono ?_;rintro e w1⟨x,rfl,hb⟩;have wD:=af (HI.o.later hb);obtain⟨q0,q1,q2,q3,q4,q5,q6,q7⟩:=HC.o _ wD.o.below;rcases Int.lt_trichotomy x 0 with hx|rfl|hx
  .have x0:(x==0)=false:=by simp;omega
   go_wp2_with fail;refine(HR.o L _ (by omega) wD.o).mono ?_;rintro e w2⟨rfl,L2,h2,m2,z2⟩;have HF:=af (And.intro h2 (And.intro m2 z2));go_wp2_with fail;refine bodyPost_end (results_none rfl _ _ _) rfl ⟨rfl,L2,HF.o.1,λy hy=>(HF.o.2.1 y hy).imp_right λh=>(HM.o y).2 (.inr (.inr h)),by have:=HF.o.2.2;have:=HZ.o;omega⟩
  .go_wp2_with fail;refine(HL.o _ wD.o).mono ?_;rintro e w2⟨rfl,L2,h2,m2,z2⟩;have xN:=af (And.intro h2 (And.intro m2 z2));go_wp2_with fail;refine cG (HV.o L2 _ xN.o.2.2 xN.o.1) λw3 h3=> ?_;have HF3:=af h3;obtain⟨_,_,_,_,_,r5,r6,_⟩:=HC.o _ h3.below;have HZ3:=af (show(L2++[i']).length<=L.length+l.cells.length+1 by have:=xN.o.2.2;simp;omega);go_wp2_with fail;refine(HR.o (L2++[i']) _ HZ3.o HF3.o).mono ?_;rintro e w4⟨rfl,L4,h4,m4,z4⟩;have HF4:=af (And.intro h4 (And.intro m4 z4));go_wp2_with fail;refine bodyPost_end (results_none rfl _ _ _) rfl ⟨rfl,L4,HF4.o.1,λy hy=> ?_,by have:=HF4.o.2.2;have:=HZ3.o;have:=HZ.o;omega⟩;rcases HF4.o.2.1 y hy with h|h
   .rcases Qch.1 h with h|h
    .exact(xN.o.2.1 y h).imp_right λh=>(HM.o y).2 (.inr (.inl h))
    .exact .inr ((HM.o y).2 (.inl (List.mem_singleton.1 h)))
   .exact .inr ((HM.o y).2 (.inr (.inr h)))
  .have x0:(x==0)=false:=by simp;omega
   go_wp2_with fail;refine(HL.o _ wD.o).mono ?_;rintro e w2⟨rfl,L2,h2,m2,z2⟩;have HF:=af (And.intro h2 (And.intro m2 z2));go_wp2_with fail;refine bodyPost_end (results_none rfl _ _ _) rfl ⟨rfl,L2,HF.o.1,λy hy=>(HF.o.2.1 y hy).imp_right λh=>(HM.o y).2 (.inr (.inl h)),by have:=HF.o.2.2;have:=HZ.o;omega⟩
def Qs(M:aS)(t:Tr)(v:an)(w':aj):Prop:=∃L:List Int,ab M w' v L/\(∀n∈L,n∈t.cells.map Prod.snd)/\L.length<=t.cells.length
def Qu(X:Nat)(t:Tr)(k n:Int)(s:aT)(a:dC)(c:Nat)(k2 n2:Int)(s2:aT)(a2:dC)(c2:Nat)(hk:k≠5)(si:k2≠5)(hs:s.size<=maxLen)(jC:s2.size<=maxLen)(M:aS)(w:aj)(hM:Bd M w)(hT:Tb w)(hX:KY w X t)(hz:t.cells.length<=300):
 xG 159 #[xP X, .agg #[xI k,xI n,xS s,xL a 0 c], .agg #[xI k2,xI n2,xS s2,xL a2 0 c2]] w (Qs M t):=by
 have pZ:=fV (w:=w) (λW hb=>kZ ⟨k,n,s,a,0,c⟩ hk hs W (hT.below hb));have zY:=fV (w:=w) (λW hb=>kZ ⟨k2,n2,s2,a2,0,c2⟩ si jC W (hT.below hb));unfold rI.val at pZ zY;dsimp only at pZ zY;have HI:=fV (w:=w) (λW hb=>hX.below hb);have HM:=af hM;have HZ:=af hz;have HN:Hd (∀W,Qs M t (xL none 0 0) W):=λW=>⟨[],ab.nil _ _,λn h=>(by cases h),Qbf _⟩;have DK:∀(fn:Fn)(first cap:Array an)(w:aj),(Instr.makeFunc fn first cap).run prog w= .ok (.func fn first cap) w:=λ_ _ _ _=>rfl;have bN:=af (Bx.dh w (xK #[xI k,xI n,xS s,xL a 0 c] 30) (xK #[xI k2,xI n2,xS s2,xL a2 0 c2] 30));clear hT hX hk si hs jC hM hz;go_enter func159,ntmps159;go_wp2_with fail;refine(pZ.o _ bN.o.1).mono ?_;rintro e w1⟨⟨b,rfl,_⟩,hb⟩;have aO:=af (bN.o.below hb);obtain⟨v0,v1,v2,v3⟩:=ae (aO.o.bJ rfl);obtain⟨u0,u1,u2,u3⟩:=ae (aO.o.cE rfl);clear hb;cases b
 .go_wp2;go_ret;exact⟨_,rfl,HN.o _,aO.o.1⟩
 go_wp2_with fail;refine(zY.o _ aO.o.1).mono ?_;rintro e w2⟨⟨b,rfl,_⟩,hb⟩;have aL:=af (aO.o.below hb);clear hb v0 v1 v2 v3 u0 u1 u2 u3;obtain⟨v0,v1,v2,v3⟩:=ae (aL.o.bJ rfl);obtain⟨u0,u1,u2,u3⟩:=ae (aL.o.cE rfl);cases b
 .go_wp2;go_ret;exact⟨_,rfl,HN.o _,aL.o.1⟩
 go_upto_region 4 with fail;obtain⟨W3,lK⟩:=cM (w2.alloc (RQ (xL none 0 0)));have bI:=af (show Bx w _ W3 by rw[lK];exact aL.o.alloc _);have Rt:=af (show Bx w2 [RQ (xL none 0 0)] W3 by rw[lK];exact Bx.dR w2 _);unfold RQ at lK;rw[<-lK];clear lK v0 v1 v2 v3 u0 u1 u2 u3;obtain⟨v0,v1,v2,v3⟩:=ae (bI.o.bJ rfl);obtain⟨u0,u1,u2,u3⟩:=ae (bI.o.cE rfl);go_upto_region 5 with fail;obtain⟨W4,lR⟩:=cM (W3.alloc (xK #[xI k,xI n,xS s,xL a 0 c,xI k2,xI n2,xS s2,xL a2 0 c2] 273));have eH:=af (show aq w W4 by rw[lR];exact(bI.o.alloc _).1);have Ss:=af (show Bx w2 [RQ (xL none 0 0)] W4 by rw[lR];exact Rt.o.alloc _);have jV:=af (show Bx W3 [xK #[xI k,xI n,xS s,xL a 0 c,xI k2,xI n2,xS s2,xL a2 0 c2] 273] W4 by rw[lR];exact Bx.dR W3 _);rw[<-lR];clear lR v0 v1 v2 v3 u0 u1 u2 u3;have hx:=HI.o _ eH.o;obtain⟨sz,rZ⟩:=hx.at_;obtain⟨tp,DC⟩:=t.eW;have xH:=HI.o _ aL.o.1;have HW:Hd (∀W,wO w2 w2.heap.size [] W->_):=λW h=>Qr w2 w2.heap.size k n s a c k2 n2 s2 a2 c2 t [] W xH.ok.rep h (by have:=HZ.o;simpa using this);rw[DC]at rZ HW;obtain⟨x0,x1⟩:=ah rZ;have fI:=af rZ;have ui:=jV.o.bJ rfl;have s0:pd W4 W3 0 (xI k):=cell_of_heap ui rfl;have s1:pd W4 W3 1 (xI n):=cell_of_heap ui rfl;have s2':pd W4 W3 2 (xS s):=cell_of_heap ui rfl;have s3:pd W4 W3 3 (xL a 0 c):=cell_of_heap ui rfl;have s4:pd W4 W3 4 (xI k2):=cell_of_heap ui rfl;have s5:pd W4 W3 5 (xI n2):=cell_of_heap ui rfl;have s6:pd W4 W3 6 (xS s2):=cell_of_heap ui rfl;have s7:pd W4 W3 7 (xL a2 0 c2):=cell_of_heap ui rfl;have HI4:Hd (wO w2 w2.heap.size [] W4.drew):=⟨⟨_,Ss.o.bJ rfl,aP.nil _ _ _ _⟩,Ss.o.1.drew,bq⟩;clear hx rZ xH DC ui;go_cut [](λwx=>Hd (Z6 w2 w2.heap.size [] t wx));case first=>
  go_region_law(first
   |(go_simp;go_at_call 190;refine cG (HW.o _ HI4.o) λwa h=> ?_;have HF:=af h;clear h)
   |fail);all_goals
   go_wp2;go_meet;exact HF
 case rest=>
 obtain⟨L,hL,hm,hz⟩:=hcut.o;obtain⟨v,hv,hacc⟩:=hL.blk;have l0:=one_cell hv;have HLZ:=af (show L.length<=t.cells.length by simpa using hz);have HF:Hd (aP (α:=Int) xF (w2.heap.size+1) 3 wc v L/\(∀n∈L,n∈t.cells.map Prod.snd)/\aq w2 wc):=⟨hacc,λn hn=>(hm n hn).elim (λh=>by cases h) id,hL.below⟩;obtain⟨va,vc,rfl,_⟩:=(hacc.slice λj hj=>hj.elim).open_;clear hL hm hz hv hacc hcut;go_wp2;go_ret;have dA:=aL.o.1.size;refine⟨_,rfl,⟨L,HF.o.1.any (by omega) HM.o,HF.o.2.1,HLZ.o⟩,aL.o.1.trans (HF.o.2.2.mono dA)⟩
def Qv(X:Nat)(t:Tr)(k n:Int)(s:aT)(a:dC)(c:Nat)(hk:k≠5)(hs:s.size<=maxLen)(M:aS)(w:aj)(hM:Bd M w)(hT:Tb w)(hX:KY w X t)(hz:t.cells.length<=300):
 xG 112 #[xP X, .agg #[xI k,xI n,xS s,xL a 0 c]] w (Qs M t):=by
 have HR:=fV (w:=w) (λW hb=>Qu X t k n s a c k n s a c hk hk hs hs M W (hM.below hb) (hT.below hb) (hX.below hb) hz);have bN:=af (Bx.dR w (xK #[xI k,xI n,xS s,xL a 0 c] 30));go_enter func112,ntmps112;go_wp2_with fail;refine(HR.o _ bN.o.1).mono ?_;rintro e w1⟨v,rfl,h,hb⟩;have HF:=af (And.intro h (bN.o.below hb).1);obtain⟨L,hL,_⟩:=h;obtain⟨va,vc,rfl,_⟩:=hL.open_;go_wp2;go_ret;exact⟨_,rfl,HF.o.1,HF.o.2⟩
def TG(w:aj):xC 110 #[] w λe w'=>∃X,e=xR (xP X)/\w.heap.size<=X/\KY w' X .nil/\aq w w':=by
 go_enter func110,ntmps110;go_wp2;go_ret;exact⟨_,rfl,bq,⟨⟨0,Qbh w _⟩,fU.nil _ _,by simp[Tr.blocks,Tr.cells]⟩,bO⟩
end Go.Proofs.YtccpcfcochffcaaGreatDoor
