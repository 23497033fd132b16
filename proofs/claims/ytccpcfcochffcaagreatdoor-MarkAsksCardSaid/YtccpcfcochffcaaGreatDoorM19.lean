/- A part of MarkAsks's proof; no condition. -/
import Derived.Test.YtccpcfcochffcaaGreatDoorM18
import Derived.OwnWalkIn
set_option linter.all false
set_option maxHeartbeats 8000000
set_option maxRecDepth 100000
namespace Go.Proofs.YtccpcfcochffcaaGreatDoor
open Tryz
open Go.RowKit
variable{A w w2 W2 W W':aj}{i b bm base B:Nat}{v lv:an}{e:TypeId}{M M':aS}{o:Obj}
def E2(w:aj)(o:Obj):(w.alloc o).heap.size=w.heap.size+1:=by simp
def E3:(Tryz.prog.info? 346).map (λi=>(i.zero,i.size,i.bytes))=some (some (.agg #[xI 0,xI 0,xS ⟨#[]⟩,xI 0]),4,40):=by kernel_rfl
def Mn(s:aT)(w:aj):xC 265 #[xS s] w λe w'=>e=xR (.func (.func 276) #[] #[xP w.heap.size])/\w.alloc (xK #[xS s] 9)=w':=by
 have DK:∀(fn:Fn)(first cap:Array an)(w:aj),(Instr.makeFunc fn first cap).run prog w= .ok (.func fn first cap) w:=λ_ _ _ _=>rfl;go_enter func265,ntmps265;go_wp2;go_ret;exact⟨rfl,rfl⟩
def Mo(b bm:Nat)(sz:Nat)(T:List Tok)(w:aj)(i:Nat)(W:aj):Prop:=
 ∃lv,W.heap[b]? =some (xK #[lv,xI 0,xI sz, .map (some bm)] 341)/\aP xF (w.heap.size+2) 346 W lv ((T.take i).map fB)/\ai (λj=>j=b) w W/\eP W bm
theorem Mo.only {sz:Nat}{T:List Tok}{B:aj}(h:Mo b bm sz T w i A)(ho:ai (SU w 0) A B)(hb:b<w.heap.size)(hm:bm<w.heap.size):Mo b bm sz T w i B:=by
 obtain⟨lv,h1,h2,h3,h4⟩:=h;refine⟨lv,ho.at_ h1 (λh=>by have:=h.1;omega),?_,?_,h4.only ho (λh=>by have:=h.1;omega)⟩
 .obtain⟨css,k1,k2,k3⟩:=h2;refine⟨css,⟨k1.1,?_⟩,k2,k3⟩;rcases k1.2 with h0|⟨g,cap,cur,e1,e2,e3,e4⟩
  .exact .inl h0
  .exact .inr ⟨g,cap,cur,e1,e2,ho.at_ e3 (λh=>by have:=h.2;omega),e4⟩
 .exact h3.dc ho λi hi aX=>by have:=hi.1;omega
theorem aP.swap {α:Type} [aA α]{xs:List α}(h:aP M base e w v xs)(hS:∀{M M':aS}{cs:List an}{x:α},aA.rep M w cs x->aA.rep M' w cs x):aP M' base e w v xs:=by
 obtain⟨css,k1,k2,k3⟩:=h;exact⟨css,k1,k2,λi cs x hc hx=>hS (k3 i cs x hc hx)⟩
def Mp {sz oY:Nat}{T:List Tok}{W3:aj}{a2:dC}{t:Tok}(kE:ai (λj=>j=b) w2 W2)(Nu:eP W2 bm)(hb:b<w2.heap.size)(iG:bm≠b)(Uf:bm<w2.heap.size)(h3:Below (w2.heap.size+2) (W2.alloc o) W3)(hz:w2.heap.size+2<=W2.heap.size)
 (Gx:cI W3 b (xK #[lv,xI 0,xI sz, .map (some bm)] 341)){n:Nat}(hacc:aP xF (w2.heap.size+2) 346 W3 (xL a2 n oY) ((T.take i).map fB++[fB t]))(hT:(T.take (i+1)).map fB=(T.take i).map fB++[fB t]):
 ai (NF (λj=>j=b) w2 0) W2 (W3.setCell ⟨b,0,none⟩ (xL a2 n oY))/\Mo b bm sz T w2 (i+1) (W3.setCell ⟨b,0,none⟩ (xL a2 n oY)):=by
 have o3:ai (λj=>w2.heap.size+2<=j) W2 W3:=by
  have h1:ai (λj=>w2.heap.size+2<=j) W2 (W2.alloc o):=(ai.refl _ W2).alloc o;refine h1.trans ⟨h3.os,h3.tape,h3.output,h3.size,λj hj hS=>h3.block j (by omega)⟩
 have o4:ai (λj=>j=b) W3 (W3.setCell ⟨b,0,none⟩ (xL a2 n oY)):=(ai.refl (λj=>j=b) W3).setCell (p:=⟨b,0,none⟩) (.inl rfl) _;have o5:ai (NF (λj=>j=b) w2 0) W2 (W3.setCell ⟨b,0,none⟩ (xL a2 n oY)):=(o3.mono λj hj=> .inr hj).trans (o4.mono λj hj=> .inl hj);refine⟨o5,_,by simpa using Qca W3 b 0 _ _ (xL a2 n oY) Gx,?_,?_,Nu.only o5 (λh=>by rcases h with h|h;exact iG h;omega)⟩
 .rw[hT];exact hacc.uj o4 (λj hj=>by have:j=b:=hj;omega) (λh=>h)
 .exact kE.dc o5 λj hj aX=>by rcases hj with hj|hj;exact hj;omega
def jO {S:aS}(h:Below B w w2)(hB:B<=w2.heap.size)(k:ai S w2 W)(hS:∀i,S i->B<=i):Below B w W:=
 ⟨k.os.trans h.os,k.tape.trans h.tape,k.output.trans h.output,Qcg h.size k.size,λi hi=>(k.block i (by omega) (λhs=>by have:=hS i hs;omega)).trans (h.block i hi)⟩
def Mq {w4:aj}{xk xn:Int}{xs:aT}{sl:an}(h0:dY w4 w (GJ 0 0 ⟨#[]⟩ (xL none 0 0)))(h1:cI w4 (w.heap.size+1) (tW 3 (xI 0)))(h2:cI w4 (w.heap.size+1+1) (tW 44 (xI 0)))
 (hW:W'=(((((w4.setCell ⟨w.heap.size,0,none⟩ (xI xk)).setCell ⟨w.heap.size,1,none⟩ (xI xn)).setCell ⟨w.heap.size,2,none⟩ (xS xs)).setCell ⟨w.heap.size,3,none⟩ sl).setCell ⟨w.heap.size+1,0,none⟩ (xI 0)).setCell ⟨w.heap.size+1+1,0,none⟩ (xI 0)):
 W'.heap[w.heap.size]? =some (GJ xk xn xs sl)/\W'.heap[w.heap.size+1]? =some (tW 3 (xI 0))/\W'.heap[w.heap.size+1+1]? =some (tW 44 (xI 0))/\ai (λj=>w.heap.size<=j/\j<w.heap.size+3) w4 W':=by
 obtain⟨C,hC⟩:=cM ((((w4.setCell ⟨w.heap.size,0,none⟩ (xI xk)).setCell ⟨w.heap.size,1,none⟩ (xI xn)).setCell ⟨w.heap.size,2,none⟩ (xS xs)).setCell ⟨w.heap.size,3,none⟩ sl);have oC:ai (λi=>i=w.heap.size) w4 C:=by rw[hC];exact((((ai.refl (λi=>i=w.heap.size) w4).setCell (p:=⟨w.heap.size,0,none⟩) (.inl rfl) _).setCell (p:=⟨w.heap.size,1,none⟩) (.inl rfl) _).setCell (p:=⟨w.heap.size,2,none⟩) (.inl rfl) _).setCell (p:=⟨w.heap.size,3,none⟩) (.inl rfl) _
 have gC:=dM (o:=0) h0 (xI xk) (xI xn) (xS xs) sl;simp only[Nat.zero_add]at gC;rw[<-hC]at gC hW;have gC1:=oC.at_ h1 (by omega);have gC2:=oC.at_ h2 (by omega);obtain⟨D,hD⟩:=cM (C.setCell ⟨w.heap.size+1,0,none⟩ (xI 0));have oD:ai (λi=>i=w.heap.size+1) C D:=by rw[hD];exact(ai.refl (λi=>i=w.heap.size+1) C).setCell (p:=⟨w.heap.size+1,0,none⟩) (.inl rfl) _
 have gD1:=Qca C (w.heap.size+1) 0 _ _ (xI 0) gC1;rw[<-hD]at gD1 hW;have oE:ai (λi=>i=w.heap.size+1+1) D W':=by rw[hW];exact(ai.refl (λi=>i=w.heap.size+1+1) D).setCell (p:=⟨w.heap.size+1+1,0,none⟩) (.inl rfl) _
 have gE2:=Qca D (w.heap.size+1+1) 0 _ _ (xI 0) (oD.at_ gC2 (by omega));rw[<-hW]at gE2;refine⟨oE.at_ (oD.at_ (by simpa [GJ]using gC) (by omega)) (by omega),oE.at_ (by simpa [tW]using gD1) (by omega),by simpa [tW]using gE2,?_⟩;exact((oC.mono λi hi=>by have:i=w.heap.size:=hi;omega).trans (oD.mono λi hi=>by have:i=w.heap.size+1:=hi;omega)).trans (oE.mono λi hi=>by have:i=w.heap.size+1+1:=hi;omega)
def Pt(w:aj)(x:ax)(v:an)(w':aj):Prop:=∃u,v= .tuple #[u,xI 0,xI 0]/\bS (fp w) w' u x
def Mr(s:ByteArray)(x:ax)(T:List Tok)(hs:s.size<=200)(hT:l6 s 0 T)(oO:qS T)(hk:∀t∈T,1<=t.kind/\t.kind<=4)(hl:T.length<=200)(hp:ji 60 1 T=some (x,[]))(Xf:ir x=true)(hxd:kR x<=8)(iO:eo x<=40)(w:World)(hTb:Tb w):
 xG 237 #[xS s] w (Pt w x):=by
 have TX:=af hT;have Vd:=af hTb;have HK:=af hk;clear hT hTb hk;refine callsIn_wide.1 (callsIn_of_wp_marks (n:=0) func237 rfl trivial (wpIn_wide.2 ?_) rfl);simp only[ntmps237,List.size_toArray,Qcc,Qcd,Nat.reduceAdd,Nat.reduceSub,Array.replicate_succ,Array.replicate_zero,List.push_toArray,List.append_toArray,List.nil_append,List.cons_append];go_wp2_with fail;refine(vR _).mono ?_;rintro e w1⟨bm,rfl,Nu,Uf,aC⟩;have aO:=af ((Bx.gI w (GJ 0 0 ⟨#[]⟩ (xL none 0 0)) (tW 3 (xI 0)) (tW 44 (xI 0))).below aC);have WH:=af Nu;have JR:Hd (bm<w1.heap.size):=(Qaa.1 Nu).1;clear aC Nu;go_wp2_with fail;refine(Mn s _).mono ?_;rintro e w2⟨rfl,rfl⟩;go_wp2_with fail;obtain⟨w2,oo⟩:=cM ((w1.alloc (xK #[xL none 0 0,xI 0,xI s.size, .map (some bm)] 341)).alloc (xK #[xS s] 9));have aL:=af (show Bx w [GJ 0 0 ⟨#[]⟩ (xL none 0 0),tW 3 (xI 0),tW 44 (xI 0)] w2 by rw[oo];exact(aO.o.alloc _).alloc _);have qbc:=af (show eP w2 bm by rw[oo];exact WH.o.below (bO.alloc (by simp) _));have Rf:=af (show w2.heap[w1.heap.size]? =some (xK #[xL none 0 0,xI 0,xI s.size, .map (some bm)] 341)by rw[oo];exact(Bx.dh w1 _ _).bJ rfl);have tZ:=af (show w2.heap[w1.heap.size+1]? =some (xK #[xS s] 9)by rw[oo];exact(Bx.dh w1 _ _).cE rfl);have dA:w2.heap.size=w1.heap.size+1+1:=by rw[oo];simp
 have cY:=aO.o.bY;rw[<-oo];have Vi:Hd (bm<w2.heap.size):=(Qaa.1 qbc.o).1;clear oo WH;simp only[Qcc,Qcd]at cY;have Ah:=af (show L3 prog 276 #[xP (w1.heap.size+1)] w2 (λi=>i=w1.heap.size) 0 0 (IB T) (λi=>i=T.length)from
  IC s hs T TX.o (w1.heap.size+1) w w2 aL.o.1 Vd.o (by have:=tZ.o;simp[World.cell?,this]) (by omega) _ (by omega) (λi hi=>by rw[hi];omega));refine wpIn_wide.1 (uM rfl (enters_of func276 (by kernel_rfl) rfl) (λi=>i=w1.heap.size) 0 0 (IB T) (λi=>i=T.length) Ah.o (λi args i' W h=>by obtain⟨t,_,rfl,_⟩:=h;rfl) (λi hi=>by rw[hi];omega)
  (Mo w1.heap.size bm s.size T w2) (λ_ _=>False) (λi A B h ho=>h.only ho (by omega) Vi.o) (λc A B h _=>h) ?h0 ?hround ?hdone ?hstop);case h0=>
  exact⟨_,Rf.o,aP.nil _ _ _ _,ai.refl _ _,qbc.o⟩
 case hround=>
  intro l i args i' W hI No hsz;obtain⟨t,ht,rfl,rfl,Yu⟩:=No;obtain⟨lv,Gx,hacc,kE,Nu⟩:=hI;simp only[ke];gi_wp2_with(rw[Oper.semAt_eq _ _ _ (λc h=>by cases h)];go_simp;try go_bits);have hP:Mo w1.heap.size bm s.size T w2 i W:=⟨_,Gx,hacc,kE,Nu⟩;refine⟨(ai.refl _ W).alloc _,λW2 iM NN=> ?_⟩;have hP2:=(hP.only ((ai.refl (SU w2 0) W).alloc _) (by omega) Vi.o).only (iM.mono λi hi=>(show SU w2 0 i from by have:i=w2.heap.size+1:=hi;exact⟨by omega,by omega⟩)) (by omega) Vi.o;have Rb:=iM.at_ (Qbh W _) (by show¬W.heap.size=w2.heap.size+1;omega);obtain⟨lv,Gx,hacc,kE,Nu⟩:=hP2;obtain⟨a,cap,rfl,gw,wP⟩:=hacc.open_;have qd9:=af Gx;have nj:=af hacc;have mi:=af kE;have qea:=af Nu;have HPC:=af Rb;obtain⟨q0,q1,q2,q3⟩:=ae Rb;obtain⟨p0,p1,p2,p3⟩:=ae Gx;have qM:((t.kind:Int)==0)=false:=by simp;omega
  obtain⟨i0,dz,qeb,qec,qed⟩:=info_parts E3;have zV:=(Qad.1 ht).1;have oR:=af (show(T.take (i+1)).map fB=(T.take i).map fB++[fB t]by rw[Qbb,ht];simp);simp only[Qdc,Qdb]at gw p0;rw[Nat.min_eq_left (by omega)]at gw p0;have Cf:=af (show(bL t.s).size<=200 by have:=(oO t (Qaf ht)).1;simpa [bL,ByteArray.size]using this);have ek:=af (show((T.take i).map fB).length=i by simp;omega);have cL:=af (show aP xF (w2.heap.size+2) 346 W2 (xL a i cap) ((T.take i).map fB)by have h:=nj.o;rw[ek.o]at h;exact h);have qee:=af (show W2.heap[w1.heap.size]? =some (xK #[xL a i cap,xI 0,xI s.size, .map (some bm)] 341)by have h:=qd9.o;rw[ek.o]at h;exact h);simp only[E2]at NN;clear Gx hacc kE Nu Rb hP ht iM;gi_wp2_with(first
   |(gi_at_builtin;go_loud(refine qH (α:=ye) rfl _ _ _ rfl xF (w2.heap.size+2) 346 i0 _ 40 underlying335 dz qeb qec qed rfl (by decide) (.slice a i cap) ((T.take i).map fB) rfl (cL.o.alloc _) (λ_=>True) _ _ (fB t) rfl (kW _ _ _ _ 4 rfl NN trivial) ⟨rfl,Cf.o⟩ (by rw[ek.o];unfold maxLen;omega) (by rw[ek.o];omega) (by show _<=(W2.alloc _).heap.size;simp;omega) ?_);rw[ek.o];intro a2 c2 W3 gx rV bG;have lM:=af gx;have bI:=af bG;have Xw:Hd (W3.heap[w1.heap.size]? =some (xK #[xL a i cap,xI 0,xI s.size, .map (some bm)] 341)):=(bG.block _ (by omega)).trans ((Qcb W2 _ _ (by omega)).trans qee.o);have p0':=(ae Xw.o).1;have f0':=ag Xw.o 0;clear gx rV bG)
   |(rw[Oper.semAt_eq _ _ _ (λc h=>by cases h)];go_simp;try go_bits));exact Mp mi.o qea.o (by omega) (by have:=JR.o;omega) Vi.o bI.o (by omega) Xw.o lM.o oR.o
 case hdone=>
  intro i W hE hI hD;obtain rfl:i=T.length:=hE;obtain⟨lv,Gx,hacc,kE,Nu⟩:=hI;rw[List.take_length]at hacc;have DI:=aL.o.1.size;have hsW:=kE.size;have HPX:Hd (eU w1.heap.size bm lv s.size T W 0):=⟨Gx,(hacc.swap (M':=aN w1.heap.size) (λh=>h)).slice (λj hj=>by have:j=w1.heap.size:=hj;omega),Nu,by have:=JR.o;omega,hl,Qbf _,HK.o⟩;have HWH:=af (Ps w1.heap.size bm lv s.size T oO x hp W HPX.o);have mi:=af kE;have HD:=af hD;clear Gx hacc kE Nu hD hp;go_wp2_with fail;refine(HWH.o).mono ?_;rintro e w3⟨_,rfl,gz,A7⟩;have HR:Hd (∀W' v,aq w3 W'->bS (fp W) w3 v x->_):=λW' v hb ha=>BH x Xf hxd iO (fp W) W' v (λj hj=>by
   have:j<W.heap.size:=hj;have h1:=A7.size;have h2:=hb.size;omega) (ha.below hb) (Vd.o.below ((jO (jO aL.o.1 DI mi.o (λj hj=>by omega)) (by omega) A7 (λj hj=>by have:j=w1.heap.size:=hj;omega)).trans (hb.mono (by have:=A7.size;omega))));obtain⟨xk,xn,xs,xl⟩:=x;have uf:=af gz;obtain⟨cs,rfl,bU⟩:=gz;obtain⟨av,rfl,bo,j6⟩:=cC.iff.1 bU;obtain⟨xa,xc,rfl,_⟩:=bo.open_;have eE:=af bo;have R0:=A7.at_ (mi.o.at_ (aL.o.bJ rfl) (by omega)) (by unfold aN;omega);have R1:=A7.at_ (mi.o.at_ (aL.o.cE rfl) (by omega)) (by unfold aN;omega);have R2:=A7.at_ (mi.o.at_ (aL.o.gy rfl) (by omega)) (by unfold aN;omega);have HD3:=af (A7.at_ HD.o (by unfold aN;omega));have bI:Hd (aq w w3):=jO (jO aL.o.1 DI mi.o (λj hj=>by omega)) (by omega) A7 (λj hj=>by have:j=w1.heap.size:=hj;omega);have Sg:=af R0;have pZ:=af R1;have zY:=af R2;have NS:=A7.size;clear bU bo A7 Xf hxd iO R0 R1 R2;go_wp2_with fail;refine(HR.o _ _ bO uf.o).mono ?_;rintro e w4⟨rfl,dT⟩;have Nv:Hd (w4.heap[w3.heap.size]? =some (GJ xk xn xs (xL xa xl.length xc))):=boxed dT;have eH:=af (aQ dT);obtain⟨q0,q1,q2,q3⟩:=ae Nv.o;have lt0:w.heap.size<w3.heap.size:=by omega
  have lt1:w.heap.size+1<w3.heap.size:=by omega
  have lt2:w.heap.size+1+1<w3.heap.size:=by omega
  have Xx:=af ((eH.o.block _ lt0).trans Sg.o);have Xy:=af ((eH.o.block _ lt1).trans pZ.o);have Xz:=af ((eH.o.block _ lt2).trans zY.o);have HD4:=af ((eH.o.block _ (Qaa.1 HD3.o).1).trans HD3.o);obtain⟨r0,r1,r2,r3⟩:=ae Xx.o;obtain⟨f0,f1,f2,f3⟩:=ic Xx.o;have s0:=ag Xy.o 0;have s1:=ag Xz.o 0;have m0:w4.cell? ⟨w.heap.size+1,0,none⟩=some (xI 0):=by simp[World.cell?,Xy.o,tW]
  have m1:w4.cell? ⟨w.heap.size+1+1,0,none⟩=some (xI 0):=by simp[World.cell?,Xz.o,tW]
  clear dT HR;go_wp2_with fail;obtain⟨W',iL⟩:=cM ((((((w4.setCell ⟨w.heap.size,0,none⟩ (xI xk)).setCell ⟨w.heap.size,1,none⟩ (xI xn)).setCell ⟨w.heap.size,2,none⟩ (xS xs)).setCell ⟨w.heap.size,3,none⟩ (xL xa xl.length xc)).setCell ⟨w.heap.size+1,0,none⟩ (xI 0)).setCell ⟨w.heap.size+1+1,0,none⟩ (xI 0));rw[<-iL];obtain⟨g0,g1,g2,g3⟩:=Mq Xx.o Xy.o Xz.o iL;have gd:=g3.at_ HD4.o (by omega);refine⟨by simp, .inl ⟨_,_,rfl,run_takeDeferred gd,?_⟩⟩;obtain⟨W2,fT⟩:=cM (W'.putObj w2.heap.size (.deferred none));rw[<-fT];have o2:ai (λj=>j=w2.heap.size) W' W2:=by rw[fT];exact(ai.refl (λj=>j=w2.heap.size) W').putObj (.inl rfl) _
  have o4:ai (λj=>w.heap.size<=j/\j<=w2.heap.size) w4 W2:=(g3.mono λj hj=>⟨hj.1,by omega⟩).trans (o2.mono λj hj=>by have:j=w2.heap.size:=hj;omega);have k0:=o2.at_ g0 (by omega);have k1:=o2.at_ g1 (by omega);have k2:=o2.at_ g2 (by omega);have h2W:w2.heap.size<W.heap.size:=(Qaa.1 HD.o).1;obtain⟨a0,a1,a2,a3⟩:=ae k0;have a4:W2.cell? ⟨w.heap.size+1,0,none⟩=some (xI 0):=by simp[World.cell?,k1,tW]
  have a5:W2.cell? ⟨w.heap.size+1+1,0,none⟩=some (xI 0):=by simp[World.cell?,k2,tW]
  refine⟨.tuple #[.agg #[xI xk,xI xn,xS xs,xL xa xl.length xc],xI 0,xI 0],by simp[results,results237,go_sem,a0,a1,a2,a3,a4,a5],(show bW _ _ _ _ from⟨_,rfl,⟨_,rfl,⟨_,rfl,cC.iff.2 ⟨_,rfl,?_,j6⟩⟩⟩,?_⟩)⟩
  .refine ab.ev (eE.o.below eH.o) ⟨o4.mono λj hj=> ?_,λj hj=> .inl ?_⟩
   .show j<W.heap.size;omega
   .have h1:j<w.heap.size:=hj;show j<W.heap.size;omega
  .exact jO (bI.o.trans (eH.o.mono (by omega))) (by have:=eH.o.size;omega) o4 (λj hj=>hj.1)
 case hstop=>intro c W h;exact h.elim
end Go.Proofs.YtccpcfcochffcaaGreatDoor
