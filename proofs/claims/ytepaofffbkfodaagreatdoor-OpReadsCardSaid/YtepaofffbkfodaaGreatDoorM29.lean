/- a part; no condition -/
import Derived.Test.YtepaofffbkfodaaGreatDoorM28
import Derived.Sort.CutIn
set_option linter.all false
set_option maxHeartbeats 8000000
set_option maxRecDepth 100000
namespace Go.Proofs.YtepaofffbkfodaaGreatDoor
open Go.Proofs.Tryz
open Go.RowKit Go.Shelf
variable{j i cap R fr te K k g p b yc:Nat}{A w W wx w' W2 w3:aj}{N M M':aN}{a ya:fA}{us vs:List aA}{x:aC}{fv cv sv v:an}{many:Int}{ls:List aH}{t:TypeId}{o:Obj}{nm:aM}
section
attribute [local go_sem]Oper.semAt_some
def pj(nm:aM)(fv cv:an)(w:aj):xC 183 #[.agg #[xS nm,fv,cv]] w λe w'=>e=xR (.func (.func 246) #[] #[xP w.heap.size])/\w.alloc (cI nm fv cv)=w':=by
 have CA:∀(fn:Fn)(first cap:Array an)(w:aj),(Instr.makeFunc fn first cap).run prog w= .ok (.func fn first cap) w:=λ_ _ _ _=>rfl;go_enter func183,ntmps183;go_wp2;go_ret;exact⟨rfl,rfl⟩
def qS(M S:aN)(w:aj):Nat->Prop:=λi=>M i\/S i\/Sp w 1 i
def po(l:aH)(N:aN)(i:Nat)(args:Array an)(j:Nat)(A:aj):Prop:=j=i+1/\i<=l.changes.length/\∃jA,args= #[.agg #[xS l.first.name,jA],xI 0]/\ab N A jA (aI l i).fields
structure uw(l:aH)(N:aN)(p:Nat)(w0 w:aj)(fv cv:an)(i:Nat)(fvc:an)(A:aj):Prop where
 below:aq w0 A
 line:A.heap[p]? =some (cI l.first.name fv cv)
 cls:A.heap[w.heap.size+2]? =some (cU l.first.name fvc)
 sl:ab N A fvc (aI l i).fields
section
variable {l:aH}{M S:aN}{p:Nat}{w0 w:aj}{fv cv:an}{i:Nat}{fvc:an}{A B:aj}
theorem uw.size(h:uw l (qS M S w) p w0 w fv cv i fvc A):w.heap.size+2<A.heap.size:=(Qaa.1 h.cls).1
theorem uw.round(h:uw l (qS M S w) p w0 w fv cv i fvc A)(ho:ai (Zi S w) A B)(hS:∀i,S i->w0.heap.size<=i/\i<w.heap.size)(hw:w0.heap.size<=w.heap.size)(hp:p<w.heap.size)(hSp:¬S p):uw l (qS M S w) p w0 w fv cv i fvc B:=by
 have hz:=h.size;refine⟨⟨ho.os.trans h.below.os,ho.tape.trans h.below.tape,ho.output.trans h.below.output,Qcg h.below.size ho.size,λj hj=>(ho.block j (by omega) (λhS'=> ?_)).trans (h.below.block j hj)⟩,ho.at_ h.line (λh=> ?_),ho.at_ h.cls (λh=> ?_),h.sl.ev ⟨ho.mono λj hj=> ?_,λj hj=> .inl hj⟩⟩
 .rcases hS' with hS'|hS'
  .have:=(hS j hS').1;omega
  .omega
 .rcases h with h|h
  .exact hSp h
  .omega
 .rcases h with h|h
  .have:=(hS _ h).2;omega
  .omega
 .rcases hj with hj|hj
  .exact .inr (.inl hj)
  .exact .inr (.inr ⟨by omega,by omega⟩)
theorem uw.own(h:uw l (qS M S w) p w0 w fv cv i fvc A)(hb:aq A B)(hw:w0.heap.size<=w.heap.size)(hp:p<w.heap.size):uw l (qS M S w) p w0 w fv cv i fvc B:=by
 have hz:=h.size;exact⟨h.below.trans (hb.mono (by omega)),(hb.block p (by omega)).trans h.line,(hb.block _ hz).trans h.cls,h.sl.below hb⟩
def VI(hM:Bd M w0)(hS:∀i,S i->w0.heap.size<=i/\i<w.heap.size)(hw:w0.heap.size<=w.heap.size)(hA:w.heap.size+2<A.heap.size):Bd (qS M S w) A:=λi hi=>by
 rcases hi with hi|hi|hi
 .have:=hM i hi;omega
 .have:=(hS i hi).2;omega
 .have:=hi.2;omega
def VJ(hS:∀i,S i->w0.heap.size<=i/\i<w.heap.size)(hw:w0.heap.size<=w.heap.size)(hb:aq w0 A):Ev M w0 (qS M S w) A:=⟨ai.ao hb,λi hi=>by
 rcases hi with hi|hi|hi
 .exact .inl hi
 .exact .inr (hS i hi).1
 .exact .inr (by have:=hi.1;omega)⟩
theorem uw.next(h:uw l (qS M S w) p w0 w fv cv i fvc A){fvn:an}(hs:ab (qS M S w) A fvn (aI l j).fields)(hw:w0.heap.size<=w.heap.size)(hp:p<w.heap.size)
 (hB:B=(A.setCell ⟨w.heap.size+2,0,none⟩ (xS l.first.name)).setCell ⟨w.heap.size+2,1,none⟩ fvn):uw l (qS M S w) p w0 w fv cv j fvn B/\ai (Zh w 1) A B:=by
 subst hB;have ho:ai (Zh w 1) A ((A.setCell ⟨w.heap.size+2,0,none⟩ (xS l.first.name)).setCell ⟨w.heap.size+2,1,none⟩ fvn):=((ai.refl (Zh w 1) A).setCell (p:=⟨w.heap.size+2,0,none⟩) (.inl ⟨by simp,by simp⟩) _).setCell (p:=⟨w.heap.size+2,1,none⟩) (.inl ⟨by simp,by simp⟩) _;refine⟨⟨h.below.trans (((dQ.setCell (by show w0.heap.size<=w.heap.size+2;omega) _).setCell (by show w0.heap.size<=w.heap.size+2;omega) _)),ho.at_ h.line (λh=>by have:=h.1;omega),rX h.cls _ _,hs.ev ⟨ho.mono λj hj=> .inr (.inr ⟨by have:=hj.1;omega,by have:=hj.2;omega⟩),λj hj=> .inl hj⟩⟩,ho⟩
end
def nF(l:aH)(hl:dZ l)(M S:aN)(p:Nat)(w0 w:aj)(hM:Bd M w0)(hw:aq w0 w)(hT:Tb w0)(fv cv:an)(cq:ab M w0 fv l.first.fields)(bJ:ab M w0 cv l.changes)
 (hp:bR w p (cI l.first.name fv cv))(hSp:¬S p)(hS:∀i,S i->w0.heap.size<=i/\i<w.heap.size):
 LH prog 246 #[xP p] w S 1 0 (po l (qS M S w)) (λi=>i=l.changes.length+1):=by
 intro J Jx W hz hb hJ UF hY h0;have HJ:=af hJ;have HJX:=af UF;have HY:=af hY;have CU:=hw.size;have ij:p<w.heap.size:=(Qaa.1 hp).1;have Th:Hd (bR W p (cI l.first.name fv cv)):=(hb.block p ij).trans hp;have tp:Hd (aq w0 W):=hw.trans (hb.mono CU);have h5:=hl.len;have HR:Hd (∀A,aq w0 A->xC 45 #[.agg #[xS l.first.name,fv]] A (cr (xB true) A)):=λA hb=>by
  have h:=fX M fv A l.first (cq.below hb) (cF hl.first.small);rw[hl.first.right]at h;exact h
 have qp:Hd (∀(i:Nat)(x:aC)A fvc,l.changes[i]? =some x->aq w0 A->w.heap.size+2<A.heap.size->ab (qS M S w) A fvc (aI l i).fields->xC 153 #[.agg #[xS l.first.name,fvc], .agg #[xI x.kind,xS x.field,xS x.name,xS x.more,xI x.type.kind,xI x.type.of,xS x.expr,xS x.other]] A (cg A λv w'=>∃jA,v= .tuple #[.agg #[xS l.first.name,jA],xI 0]/\ab (qS M S w) w' jA (aI l (i+1)).fields)):=λi x A fvc hx hb hA hs=>by
  obtain⟨h1,h2,h3⟩:=hl.step hx;have h:=Mo (qS M S w) A (VI hM hS CU hA) (aI l i) (hl.kk i) x h1 h2 fvc hs (hT.below hb);rw[hl.name i]at h;rw[h3];exact h
 have qk:Hd (∀k x,l.changes[k]? =some x->_):=λk x h=>oP bJ h;have qbk:Hd (∀A,aq w0 A->ab (qS M S w) A fv (aI l 0).fields):=λA hb=>cq.ev (VJ hS CU hb);have Ty:=af h0;obtain⟨fa,fc,rfl,_⟩:=cq.open_;obtain⟨ca,cc,rfl,_⟩:=bJ.open_;obtain⟨l0,l1,l2⟩:=aD Th.o;clear hJ UF hY h0 hT hp hb cq bJ hw hl;refine callsIn_of_wp func246 rfl trivial ?_ rfl;simp only[ntmps246,List.size_toArray,Qcc,Qcd,Nat.reduceAdd,Nat.reduceSub,Array.replicate_succ,Array.replicate_zero,List.push_toArray,List.append_toArray,List.nil_append,List.cons_append];gi_wp2_with fail;obtain⟨W1,bT⟩:=bS (W.alloc (cU l.first.name (xL fa l.first.fields.length fc)));have TQ:aq W W1:=by rw[bT];exact bM
 have hB1:aq w0 W1:=tp.o.trans (TQ.mono (by omega));have HV1:Hd (uw l (qS M S w) p w0 w (xL fa l.first.fields.length fc) (xL ca l.changes.length cc) 0 (xL fa l.first.fields.length fc) W1):=⟨hB1,(TQ.block p (by omega)).trans Th.o,by rw[bT,<-hz];exact Qbh W _,qbk.o W1 hB1⟩;have QY:Hd (J 0 W1):=HJ.o 0 W W1 Ty.o (ai.ao TQ);unfold cU at bT;rw[<-bT];clear bT TQ hB1 l0 l1 l2;refine⟨trivial,rfl,(callsIn_wide.2 (HR.o _ HV1.o.below)).mono ?_⟩;rintro e w1⟨rfl,aF⟩;have HV2:=af (HV1.o.own aF CU ij);have HJ2:Hd (J 0 w1):=HJ.o 0 W1 w1 QY.o (ai.ao aF);obtain⟨c0,c1⟩:=ah HV2.o.cls;obtain⟨fn,tmps,assign,body,hy,hR⟩:=HY.o 0 #[.agg #[xS l.first.name,xL fa l.first.fields.length fc],xI 0] 1 w1 HJ2.o ⟨rfl,Qbf _,_,rfl,HV2.o.sl⟩;have mY:=af hR;clear hR aF;gi_wp2_with fail;refine⟨rfl,mY.o.mono ?_⟩;rintro e W3(⟨rfl,WV,Bm⟩|⟨rfl,Js⟩)
 .have UG:=af WV;have YR:=af (HV2.o.round Bm hS CU ij hSp);obtain⟨l0,l1,l2⟩:=aD YR.o.line;clear WV Bm hy c0 c1;gi_wp2_with fail;gi_loopw [4,6,24](λe4 _ k wr=>∃(i n cap:Nat)(a:fA),e4=xI 0/\k=xI i/\i<=l.changes.length/\Hd (J (i+1) wr)/\Hd (uw l (qS M S w) p w0 w (xL fa l.first.fields.length fc) (xL ca l.changes.length cc) i (xL a n cap) wr))(λ_ _ k _=>l.changes.length-(intOf k).toNat);case atStart=>exact⟨0,l.first.fields.length,fc,fa,rfl,rfl,Qbf _,UG,YR⟩
  case round=>
   obtain⟨i,n,cap,a,rfl,rfl,hi,HJi,HVi⟩:=hrel;clear l0 l1 l2;by_cases bu:i<l.changes.length
   .obtain⟨x,hx⟩:=eB l.changes i bu;obtain⟨b,off,ig,vN,cR,ay⟩:=qk.o i x hx;obtain⟨rfl,rfl⟩:=iB vN;obtain⟨q0,q1,q2,q3,q4,q5,q6,q7⟩:=ay wr HVi.o.below;have hzr:=HVi.o.size;have hOA:=λo=>HVi.o.own ((Qbg wr.heap.size wr).alloc bN o) CU ij;have d0:=λo=>(ah (hOA o).cls).1;have d1:=λo=>(ah (hOA o).cls).2;have Xq:=af (hOA (tA x));have HJ5:Hd (J (i+1) (wr.alloc (tA x))):=HJ.o _ wr _ HJi.o (ai.ao ((Qbg wr.heap.size wr).alloc bN _));have br:=af (qp.o i x (wr.alloc (tA x)) _ hx Xq.o.below Xq.o.size Xq.o.sl);unfold tA at Xq HJ5 br;clear vN ay hx hOA;gi_wp2_with fail;refine⟨trivial,rfl,(callsIn_wide.2 br.o).mono ?_⟩;rintro e w6⟨_,rfl,⟨fvn,rfl,hsn⟩,jz⟩;obtain⟨ya,yc,rfl,_⟩:=hsn.open_;have TR:=af (Xq.o.own jz CU ij);have HJ6:Hd (J (i+1) w6):=HJ.o _ _ w6 HJ5.o (ai.ao jz);have Xr:=af hsn;obtain⟨m0,m1⟩:=ah TR.o.cls;obtain⟨f0,f1⟩:=mV TR.o.cls;obtain⟨W7,vy⟩:=bS ((w6.setCell ⟨w.heap.size+2,0,none⟩ (xS l.first.name)).setCell ⟨w.heap.size+2,1,none⟩ (xL ya (aI l (i+1)).fields.length yc));obtain⟨hv7,Jl⟩:=TR.o.next (j:=i+1) Xr.o CU ij vy;have HV7:=af hv7;have HJ7:Hd (J (i+1) W7):=HJ.o _ _ W7 HJ6.o Jl;obtain⟨fn,tmps,assign,body,hy,hR⟩:=HY.o (i+1) #[.agg #[xS l.first.name,xL ya (aI l (i+1)).fields.length yc],xI 0] (i+1+1) W7 HJ7.o ⟨rfl,bu,_,rfl,HV7.o.sl⟩;have Gc:=af hR;obtain⟨s0,s1⟩:=ah HV7.o.cls;have uH:=af vy;clear hsn jz hv7 Jl hR d0 d1 q0 q1 q2 q3 q4 q5 q6 q7 vy;gi_upto_region 8 with fail;rw[<-uH.o];clear m0 m1 f0 f1;gi_wp2_with fail;refine⟨rfl,Gc.o.mono ?_⟩;rintro e W9(⟨rfl,hJ9,hk9⟩|⟨rfl,qbl⟩)
    .have Xp:=af hJ9;have HV9:=af (HV7.o.round hk9 hS CU ij hSp);clear hJ9 hk9 hy s0 s1;gi_wp2_with fail;go_roundw;case rel=>exact⟨i+1,_,yc,ya,rfl,by go_num,bu,Xp,HV9⟩
     case measure=>simp[intOf];omega
    .have qeo:=af qbl;clear qbl hy;gi_wp2_with fail;refine Qae (results_none rfl _ _ _) rfl ?_;exact⟨⟨_,rfl⟩, .inr qeo.o⟩
   .obtain rfl:i=l.changes.length:=by omega
    have HJe:=HJi;clear HVi HJi qp qk HR HY qbk Th tp UG YR;gi_wp2_with fail;refine bodyPost_end (results_none rfl _ _ _) rfl ?_;exact⟨⟨_,rfl⟩, .inl ⟨_,rfl,HJe.o⟩⟩
 .have QZ:=af Js;clear Js hy;gi_wp2_with fail;refine Qae (results_none rfl _ _ _) rfl ?_;exact⟨⟨_,rfl⟩, .inr QZ.o⟩
end
def pq {l:aH}{args:Array an}(h:po l N i args j A):args.size=2:=by obtain⟨_,_,_,rfl,_⟩:=h;rfl
def Mp(l:aH)(hl:dZ l)(M:aN)(w:aj)(hM:Bd M w)(hT:Tb w)(fv cv:an)(cq:ab M w fv l.first.fields)(bJ:ab M w cv l.changes):
 xC 124 #[.agg #[xS l.first.name,fv,cv]] w (cr (xB true) w):=by
 have h5:=hl.len;have yQ:Hd (∀p W,aq w W->bR W p (cI l.first.name fv cv)->LH prog 246 #[xP p] W xF 1 0 (po l (qS M xF W)) (λi=>i=l.changes.length+1)):=λp W h1 h2=>
  nF l hl M xF p w W hM h1 hT fv cv cq bJ h2 (λh=>h) (λi h=>h.elim);obtain⟨fa,fc,rfl,_⟩:=cq.open_;obtain⟨ca,cc,rfl,_⟩:=bJ.open_;have Ga:(l.changes.length:Int)<=12:=by omega
 refine callsIn_wide.1 (callsIn_of_wp_marks (n:=0) func124 rfl trivial (wpIn_wide.2 ?_) rfl);simp only[ntmps124,List.size_toArray,Qcc,Qcd,Nat.reduceAdd,Nat.reduceSub,Array.replicate_succ,Array.replicate_zero,List.push_toArray,List.append_toArray,List.nil_append,List.cons_append];go_wp2_with fail;refine cT (pj _ _ _ _) ?_;go_wp2_with fail;obtain⟨w2,nK⟩:=bS (((w.alloc (cI l.first.name (xL fa l.first.fields.length fc) (xL ca l.changes.length cc))).alloc (NH false)).alloc (cI l.first.name (xL fa l.first.fields.length fc) (xL ca l.changes.length cc)));have aQ:=af (show Bx w [cI l.first.name (xL fa l.first.fields.length fc) (xL ca l.changes.length cc),NH false,cI l.first.name (xL fa l.first.fields.length fc) (xL ca l.changes.length cc)] w2 by rw[nK];exact Bx.gO w _ _ _);have er:w2.heap.size=w.heap.size+3:=by rw[nK];simp
 unfold cI at nK⊢;unfold NH at nK;rw[<-nK];have Tz:=af (yQ.o _ w2 aQ.o.1 (aQ.o.fR rfl));refine wpIn_wide.1 (nz rfl (enters_of func246 (by kernel_rfl) rfl) xF 1 0 (po l (qS M xF w2)) (λi=>i=l.changes.length+1) Tz.o (λi args i' W h=>pq h) (λi hi=>hi.elim)
  (λ_ W=>Bx w [cI l.first.name (xL fa l.first.fields.length fc) (xL ca l.changes.length cc),NH false,cI l.first.name (xL fa l.first.fields.length fc) (xL ca l.changes.length cc)] W) (λ_ _=>False) (λi A B h ho=>h.only ho (λj hj=>by have:=hj.1;simp;omega)) (λc A B h _=>h) (aQ.o) ?hround ?hdone ?hstop);case hstop=>intro c W h;exact h.elim
 case hround=>
  intro k i args i' W hI Nf hsz;obtain⟨rfl,hi,jA,rfl,_⟩:=Nf;have HI:=af hI;gi_wp2_with(rw[Oper.semAt_eq _ _ _ (λc h=>by cases h)];go_simp;try go_bits);refine⟨ai.refl _ _,λW2 nZ KG=> ?_⟩;have me:Hd (Bx w [cI l.first.name (xL fa l.first.fields.length fc) (xL ca l.changes.length cc),NH false,cI l.first.name (xL fa l.first.fields.length fc) (xL ca l.changes.length cc)] W2):=HI.o.only nZ (λj hj=>by have:j=w2.heap.size+1:=hj;simp;omega);gi_wp2_with(rw[Oper.semAt_eq _ _ _ (λc h=>by cases h)];go_simp;try go_bits);exact⟨ai.refl _ _,me.o⟩
 case hdone=>
  intro i W hE hI hD;have HI:=af hI;have HD:=af hD;have b0:zm W w 0 (xB false):=one_cell (HI.o.bU rfl);have f0:=ag (HI.o.bU rfl) 0;go_wp2_with fail;obtain⟨W',gU⟩:=bS (W.setCell ⟨w.heap.size+1,0,none⟩ (xB true));have o1:ai (λj=>j=w.heap.size+1) W W':=by rw[gU];exact(ai.refl (λj=>j=w.heap.size+1) W).setCell (p:=⟨w.heap.size+1,0,none⟩) (.inl rfl) _
  have g1:W'.heap[w.heap.size+1]? =some (NH true):=by
   rw[gU];have:=Qca W (w.heap.size+1) 0 _ _ (xB true) (HI.o.bU rfl);simpa [NH]using this
  rw[<-gU];have gd:=o1.at_ HD.o (by omega);refine⟨by simp, .inl ⟨_,_,rfl,run_takeDeferred gd,?_⟩⟩;obtain⟨W2,gS⟩:=bS (W'.putObj w2.heap.size (.deferred none));have o2:ai (λj=>j=w2.heap.size) W' W2:=by rw[gS];exact(ai.refl (λj=>j=w2.heap.size) W').putObj (.inl rfl) _
  have k1:=one_cell (o2.at_ g1 (by omega));rw[<-gS];refine⟨xB true,by simp[results,results124,go_sem,k1],rfl,?_⟩;exact aS (aS HI.o.1 HI.o.1.size o1 (λj hj=>by have:j=w.heap.size+1:=hj;omega)) (Qcg HI.o.1.size o1.size) o2 (λj hj=>by have:j=w2.heap.size:=hj;omega)
def lT(n:Int):Obj:=xK #[xI n] 3
def PN(w:aj):Nat->Prop:=λj=>j=w.heap.size+1+1\/j=w.heap.size+1+1+1
def MdX(l:aH)(ver:Nat)(N:aN)(w:aj)(c:Code)(W:aj):Prop:=
 c= .ret/\aq w W/\∃a n cap,W.heap[w.heap.size+1+1]? =some (cU l.first.name (xL a n cap))/\ab N W (xL a n cap) (aI l ver).fields
theorem MdX.only {l:aH}{ver:Nat}{B:aj}{c:Code}{S:aN}(h:MdX l ver N w c A)(ho:ai S A B)(hS:∀j,S j->w.heap.size+3<=j/\N j):MdX l ver N w c B:=by
 obtain⟨h1,h2,a,n,cap,h3,h4⟩:=h;exact⟨h1,aS h2 h2.size ho (λj hj=>by have:=(hS j hj).1;omega),a,n,cap,ho.at_ h3 (λh=>by have:=(hS _ h).1;omega),h4.ev ⟨ho.mono λj hj=>(hS j hj).2,λj hj=> .inl hj⟩⟩
def SO(l:aH)(hl:dZ l)(ver:Nat)(hv:ver<=l.changes.length)(M:aN)(w:aj)(hM:Bd M w)(hT:Tb w)(fv cv:an)(cq:ab M w fv l.first.fields)(bJ:ab M w cv l.changes):
 xG 154 #[.agg #[xS l.first.name,fv,cv],xI ver] w λv w'=>∃jA,v= .agg #[xS l.first.name,jA]/\ab M w' jA (aI l ver).fields:=by
 have h5:=hl.len;have yQ:Hd (∀p W,aq w W->w.heap.size+5=W.heap.size->p=w.heap.size+1+1+1+1->bR W p (cI l.first.name fv cv)->LH prog 246 #[xP p] W (PN w) 1 0 (po l (qS M (PN w) W)) (λi=>i=l.changes.length+1)):=λp W h1 h3 h4 h2=>
  nF l hl M (PN w) p w W hM h1 hT fv cv cq bJ h2 (λh=>by rcases h with h|h<;>omega) (λi h=>by rcases h with h|h<;>omega);obtain⟨fa,fc,rfl,_⟩:=cq.open_;obtain⟨ca,cc,rfl,_⟩:=bJ.open_;obtain⟨os,RX⟩:∃os:Int->List Obj,os=λk=>[cI l.first.name (xL fa l.first.fields.length fc) (xL ca l.changes.length cc),lT ver,cU ⟨#[]⟩ (xL none 0 0),lT k,cI l.first.name (xL fa l.first.fields.length fc) (xL ca l.changes.length cc)]:=⟨_,rfl⟩;refine callsIn_wide.1 (callsIn_of_wp_marks (n:=0) func154 rfl trivial (wpIn_wide.2 ?_) rfl);simp only[ntmps154,List.size_toArray,Qcc,Qcd,Nat.reduceAdd,Nat.reduceSub,Array.replicate_succ,Array.replicate_zero,List.push_toArray,List.append_toArray,List.nil_append,List.cons_append];go_wp2_with fail;refine cT (pj _ _ _ _) ?_;go_wp2_with fail;obtain⟨w2,nK⟩:=bS (((((w.alloc (cI l.first.name (xL fa l.first.fields.length fc) (xL ca l.changes.length cc))).alloc (lT ver)).alloc (cU ⟨#[]⟩ (xL none 0 0))).alloc (lT 0)).alloc (cI l.first.name (xL fa l.first.fields.length fc) (xL ca l.changes.length cc)));have aQ:=af (show Bx w (os 0) w2 by rw[nK,RX];exact Bx.GO w _ _ _ _ _);have er:w2.heap.size=w.heap.size+5:=by rw[nK];simp
 unfold cI at nK⊢;unfold lT cU at nK;rw[<-nK];have Tz:=af (yQ.o _ w2 aQ.o.1 er.symm rfl (by have h:=aQ.o.Ub (o:=cI l.first.name (xL fa l.first.fields.length fc) (xL ca l.changes.length cc)) (by rw[RX];rfl);exact h));refine wpIn_wide.1 (nz rfl (enters_of func246 (by kernel_rfl) rfl) (PN w) 1 0 (po l (qS M (PN w) w2)) (λi=>i=l.changes.length+1) Tz.o (λi args i' W h=>pq h) (λi hi=>by rcases hi with hi|hi<;>omega)
  (λi W=>i<=ver/\Bx w (os i) W) (MdX l ver (qS M (PN w) w2) w) (λi A B h ho=>⟨h.1,h.2.only ho (λj hj=>by have:=hj.1;rw[RX];simp;omega)⟩) (λc A B h ho=>h.only ho (λj hj=>⟨by have:=hj.1;omega, .inr (.inr hj)⟩)) ⟨Qbf _,aQ.o⟩ ?hround ?hdone ?hstop);case hdone=>
  intro i W hE hI hD;exfalso;have:=hI.1;omega
 case hround=>
  intro k i args i' W hI Nf hsz;obtain⟨rfl,hi,jA,rfl,bI⟩:=Nf;obtain⟨hiv,tt⟩:=hI;obtain⟨ya,yc,rfl,_⟩:=bI.open_;have HI:=af tt;have gp:=af bI;gi_wp2_with(rw[Oper.semAt_eq _ _ _ (λc h=>by cases h)];go_simp;try go_bits);refine⟨(ai.refl _ W).alloc _,λW2 nZ KG=> ?_⟩;have me:Hd (Bx w (os i) W2):=(HI.o.alloc _).only nZ (λj hj=>by have:j=w2.heap.size+1:=hj;rw[RX];simp;omega);have Wv:=af (nZ.at_ (Qbh W (cU l.first.name (xL ya (aI l i).fields.length yc))) (by show¬W.heap.size=w2.heap.size+1;omega));have Q9:Hd (ab (qS M (PN w) w2) W2 (xL ya (aI l i).fields.length yc) (aI l i).fields):=gp.o.ev ⟨((ai.refl _ W).alloc _).trans (nZ.mono λj hj=> .inr (.inr (by have:j=w2.heap.size+1:=hj;exact⟨by omega,by omega⟩))),λj hj=> .inl hj⟩;obtain⟨p0,p1⟩:=ah Wv.o;have v0:zm W2 w 0 (xI ver):=one_cell (me.o.bU (by rw[RX];rfl));have t0:bt W2 (w.heap.size+1+1+1) 0 (xI i):=one_cell (me.o.BD (by rw[RX];rfl));have t1:=ag (me.o.BD (o:=lT i) (by rw[RX];rfl)) 0;have CN:=me.o.fR (o:=cU ⟨#[]⟩ (xL none 0 0)) (by rw[RX];rfl);have vL:=af CN;obtain⟨r0,r1⟩:=ah CN;obtain⟨f0,f1⟩:=mV CN;by_cases he:i=ver
  .subst he;gi_wp2_with(rw[Oper.semAt_eq _ _ _ (λc h=>by cases h)];go_simp;try go_bits);obtain⟨B,hB⟩:=bS ((W2.setCell ⟨w.heap.size+1+1,0,none⟩ (xS l.first.name)).setCell ⟨w.heap.size+1+1,1,none⟩ (xL ya (aI l i).fields.length yc));have o1:ai (PN w) W2 B:=by rw[hB];exact((ai.refl (PN w) W2).setCell (p:=⟨w.heap.size+1+1,0,none⟩) (.inl (.inl rfl)) _).setCell (p:=⟨w.heap.size+1+1,1,none⟩) (.inl (.inl rfl)) _
   have g1:bR B (w.heap.size+1+1) (cU l.first.name (xL ya (aI l i).fields.length yc)):=by rw[hB];exact rX vL.o _ _
   rw[<-hB];exact⟨o1,rfl,aS me.o.1 me.o.1.size o1 (λj hj=>by rcases hj with hj|hj<;>omega),ya,_,yc,g1,Q9.o.ev ⟨o1.mono λj hj=> .inr (.inl hj),λj hj=> .inl hj⟩⟩
  .have he2:((i:Int)==(ver:Int))=false:=by simp;omega
   gi_wp2_with(rw[Oper.semAt_eq _ _ _ (λc h=>by cases h)];go_simp;try go_bits);obtain⟨B,hB⟩:=bS (W2.setCell ⟨w.heap.size+1+1+1,0,none⟩ (xI ((i:Int)+1)));have o1:ai (PN w) W2 B:=by rw[hB];exact(ai.refl (PN w) W2).setCell (p:=⟨w.heap.size+1+1+1,0,none⟩) (.inl (.inr rfl)) _
   have g1:Bx w (os ((i+1:Nat):Int)) B:=by
    have h:=me.o.set 3 0 (cs:= #[xI (i:Int)]) (t:=3) (by rw[RX];rfl) (xI ((i:Int)+1));rw[hB];rw[RX]at h⊢;exact h
   rw[<-hB];exact⟨o1,by omega,g1⟩
 case hstop=>
  intro c W hX hD;obtain⟨rfl,hb,a,n,cap,h1,h2⟩:=hX;have HD:=af hD;refine wpIn_wide.2 ?_;dsimp only;go_wp2_with fail;obtain⟨W2,gS⟩:=bS (W.putObj w2.heap.size (.deferred none));have o2:ai (λj=>j=w2.heap.size) W W2:=by rw[gS];exact(ai.refl (λj=>j=w2.heap.size) W).putObj (.inl rfl) _
  obtain⟨k0,k1⟩:=ah (o2.at_ h1 (by omega));refine⟨by simp, .inl ⟨_,_,rfl,run_takeDeferred HD.o,?_⟩⟩;rw[<-gS];refine⟨.agg #[xS l.first.name,xL a n cap],by simp[results,results154,go_sem,k0,k1],_,rfl,⟨_,rfl,(h2.ev ⟨o2.mono λj hj=> .inr (.inr (by have:j=w2.heap.size:=hj;exact⟨by omega,by omega⟩)),λj hj=> .inl hj⟩).ev (Ev.dD W2 λj hj=> .inl hj)⟩,?_⟩;exact aS hb hb.size o2 (λj hj=>by have:j=w2.heap.size:=hj;omega)
def EH(M:aN)(v:an)(w:aj)(ls:List aH)(name:aM)(hs:ab M w v ls)(h8:ls.length<=8)(n:Nat)(hn:dU ls name=n):
 xC 123 #[.agg #[v],xS name] w (cr (.tuple #[xI n,xB true]) w):=by
 have HL:Hd (∀k l,ls[k]? =some l->_):=λk l h=>eE hs h;obtain⟨a,bQ,rfl,cV,hm,_⟩:=hs.open_;have HN:=af hn;go_enter func123,ntmps123;go_wp2;go_loopg [4,5,6,7,11]ls.length(λg r4 r5 _ _ iv wr=>∃k:Nat,k<=ls.length/\g=ls.length-k/\iv=xI k/\r4=xI 0/\r5=xB false/\Hd (Bx w [fS (xL a ls.length bQ)] wr)/\Hd (∀y∈ls.take k,cj y.first.name name=false));case atStart=>exact⟨0,Qbf _,rfl,rfl,rfl,rfl,(Bx.eD w _),(show∀y∈_,_ fromλy hy=>by simp at hy)⟩
 case round=>
  obtain⟨k,hk,rfl,rfl,rfl,rfl,HX,HK⟩:=hrel;have tC:=one_cell (HX.o.bG rfl);by_cases bu:k<ls.length
  .obtain⟨l,hl⟩:=eB ls k bu;obtain⟨b,off,cap,fa,fc,ca,cc,hv,cR,_,_,_,ay⟩:=HL.o k l hl;obtain⟨rfl,rfl⟩:=iB hv;obtain⟨q0,q1,q2⟩:=ay wr HX.o.1;have fU:=af (HX.o.alloc (xK #[xS l.first.name,xL fa l.first.fields.length fc,xL ca l.changes.length cc] 72));have CC:=af hl;by_cases hq:(l.first.name.toList==name.toList)=true
   .have e0:dU ls name=k:=idxOf_hit (p:=λl:aH=>cj l.first.name name) HK.o CC.o hq;have HE0:=af e0;go_wp2;go_ret2;exact⟨wG (by have:=HE0.o;have:=HN.o;omega) rfl,fU.o.1⟩
   .go_wp2;go_roundg(ls.length-(k+1));case measure=>omega
    case rel=>
     refine⟨k+1,by omega,rfl,by go_num,rfl,rfl,fU,(show∀y∈ls.take (k+1),_ fromλy hy=> ?_)⟩;rw[Qbb,CC.o]at hy;rcases Qch.1 hy with hy|hy
     .exact HK.o y hy
     .simp at hy;subst hy;simpa [cj]using hq
  .exfalso;have e0:dU ls name= -1:=ng (p:=λl:aH=>cj l.first.name name) (by have:=HK.o;rw[show k=ls.length from by omega,List.take_length]at this;exact this);have:=HN.o;omega
def p8(ls:List aH)(h:dK ls)(M:Nat->Prop)(w:World)(hM:Bd M w)(hT:Tb w)(v:Value)(hs:ab M w v ls):
 xC 53 #[.agg #[v]] w (cr (.tuple #[xI 0,xI 0]) w):=by
 have h4:=h.len;have HL:Hd (∀k l,ls[k]? =some l->_):=λk l h=>eE hs h;have eF:Hd (∀(k:Nat)(l:aH)W(fv cv:Value),ls[k]? =some l->aq w W->ab M w fv l.first.fields->ab M w cv l.changes->_):=λk l W fv cv hk hb h1 h2=>Mp l (h.lines l (Qaf hk)) M W (hM.below hb) (hT.below hb) fv cv (h1.below hb) (h2.below hb);have HF:Hd (∀(k:Nat)(l:aH)W,ls[k]? =some l->aq w W->_):=λk l W hk hb=>EH M v W ls l.first.name (hs.below hb) (by omega) k (h.apart k l hk);obtain⟨a,bQ,rfl,cV,hm,_⟩:=hs.open_;have h8:(ls.length:Int)<=8:=by omega
 clear hs h;go_enter func53,ntmps53;go_wp2;go_loopg [2,3,4,5,6,7,15]ls.length(λg r2 r3 _ _ _ _ iv wr=>∃k:Nat,k<=ls.length/\g=ls.length-k/\iv=xI k/\r2=xI 0/\r3=xI 0/\Hd (Bx w [fS (xL a ls.length bQ)] wr));case atStart=>exact⟨0,Qbf _,rfl,rfl,rfl,rfl,(Bx.eD w _)⟩
 case round=>
  obtain⟨k,hk,rfl,rfl,rfl,rfl,HX⟩:=hrel;have tC:=one_cell (HX.o.bG rfl);by_cases bu:k<ls.length
  .obtain⟨l,hl⟩:=eB ls k bu;obtain⟨b,off,cap,fa,fc,ca,cc,hv,cR,tI,mZ,_,ay⟩:=HL.o k l hl;obtain⟨rfl,rfl⟩:=iB hv;obtain⟨q0,q1,q2⟩:=ay wr HX.o.1;have NQ:=gG (w:=w) (λW hb=>eF.o k l W _ _ hl hb tI mZ);have jy:=af (λW hb=>HF.o k l W hl hb);have WQ:=λo=>one_cell ((HX.o.alloc o).bG rfl);clear tI mZ hv hl ay;go_upto_region 6 with fail;obtain⟨W5,nM⟩:=bS (wr.alloc (xK #[xS l.first.name,xL fa l.first.fields.length fc,xL ca l.changes.length cc] 72));have oq:=af (show Bx w [fS (xL (some ⟨b,off,none⟩) ls.length bQ)] W5 by rw[nM];exact HX.o.alloc _);have Nx:=af (show W5.heap[wr.heap.size]? =some (cI l.first.name (xL fa l.first.fields.length fc) (xL ca l.changes.length cc))by rw[nM];exact Qbh wr _);rw[<-nM];clear nM q0 q1 q2 tC WQ;generalize wr.heap.size=Q at*;have tC:=one_cell (oq.o.bG rfl);obtain⟨q0,q1,q2⟩:=aD Nx.o;go_wp2_with fail;refine(jy.o _ oq.o.1).mono ?_;rintro e w6⟨rfl,jz⟩;have C3:=af (oq.o.below jz);have HK6:=af ((jz.block Q (Qaa.1 Nx.o).1).trans Nx.o);clear jz q0 q1 q2 tC;obtain⟨q0,q1,q2⟩:=aD HK6.o;go_wp2_with fail;refine(NQ.o _ C3.o.1).mono ?_;rintro e w7⟨rfl,iJ⟩;have Nu:=af (C3.o.below iJ);clear iJ;go_wp2;go_roundg(ls.length-(k+1));case measure=>omega
   case rel=>exact⟨k+1,by omega,rfl,by go_num,rfl,rfl,Nu⟩
  .obtain rfl:k=ls.length:=by omega
   go_wp2;go_ret2;exact⟨rfl,HX.o.1⟩
def yj(ls:List aH)(h:dK ls)(n:Nat)(l:aH)(hn:ls[n]? =some l)(M:aN)(w:aj)(hM:Bd M w)(hT:Tb w)(v:an)(hs:ab M w v ls):
 xC 152 #[.agg #[v],xI n] w λe w'=>(∃fa fc ca cc,e=xR (.tuple #[.agg #[xS l.first.name,xL fa l.first.fields.length fc,xL ca l.changes.length cc],xI 0])/\ab M w (xL fa l.first.fields.length fc) l.first.fields/\ab M w (xL ca l.changes.length cc) l.changes)/\aq w w':=by
 have HC:=gG (w:=w) (λW hb=>p8 ls h M W (hM.below hb) (hT.below hb) v (hs.below hb));have bu:=(Qad.1 hn).1;obtain⟨b,off,cap,fa,fc,ca,cc,rfl,cR,tI,mZ,_,ay⟩:=eE hs hn;have jy:=af tI;have wm:=af mZ;have zN:=af ay;have bW:=af (Bx.dq w (fS (xL (some ⟨b,off,none⟩) ls.length cap)) (cI ⟨#[]⟩ (xL none 0 0) (xL none 0 0)));have ed:(0:Int)<=(n:Int):=Qba _;have NN:(n:Int)<(ls.length:Int):=by omega
 go_enter func152,ntmps152;go_wp2_with fail;refine bY (HC.o _ bW.o.1) λw1 aF=> ?_;have aY:=af (bW.o.below aF);have tC:=one_cell (aY.o.bG rfl);obtain⟨q0,q1,q2⟩:=zN.o w1 aY.o.1;obtain⟨r0,r1,r2⟩:=aD (aY.o.bU rfl);obtain⟨f0,f1⟩:=mV (aY.o.bU rfl);have f2:=ag (aY.o.bU rfl) 2;go_wp2_with fail;refine Qae (v:= .tuple #[.agg #[xS l.first.name,xL fa l.first.fields.length fc,xL ca l.changes.length cc],xI 0]) (by simp[results,results152,go_sem,r0,r1,r2]) rfl ⟨⟨fa,fc,ca,cc,rfl,jy.o,wm.o⟩,nD aY.o.1 (by omega)⟩
def EI(ls:List aH)(h:dK ls)(n:Nat)(l:aH)(hn:ls[n]? =some l)(M:aN)(w:aj)(hM:Bd M w)(hT:Tb w)(v:an)(hs:ab M w v ls):
 xC 138 #[.agg #[v],xI n] w (cr (.tuple #[xI l.changes.length,xI 0]) w):=by
 have HC:=gG (w:=w) (λW hb=>yj ls h n l hn M W (hM.below hb) (hT.below hb) v (hs.below hb));obtain⟨a,bQ,rfl,cV,hm,_⟩:=hs.open_;have bW:=af (Bx.eD w (fS (xL a ls.length bQ)));go_enter func138,ntmps138;go_wp2_with fail;refine(HC.o _ bW.o.1).mono ?_;rintro e w1⟨⟨fa,fc,ca,cc,rfl,_,_⟩,aF⟩;have aY:=af (bW.o.below aF);go_wp2;go_ret2;exact⟨rfl,(aY.o.alloc _).1⟩
def IA(ls:List aH)(h:dK ls)(n:Nat)(l:aH)(hn:ls[n]? =some l)(ver:Nat)(hv:ver<=l.changes.length)(M:aN)(w:aj)(hM:Bd M w)(hT:Tb w)(v:an)(hs:ab M w v ls):
 xG 139 #[.agg #[v],xI n,xI ver] w λv w'=>∃jA,v= .tuple #[.agg #[xS l.first.name,jA],xI 0]/\ab M w' jA (aI l ver).fields:=by
 have uI:=h.lines l (Qaf hn);have HC:Hd (∀W,aq w W->w.heap.size+2<=W.heap.size->_):=λW hb hz=>yj ls h n l hn (ew M w 2) W (dN hM hz) (hT.below hb) v (hs.ev (dF hb));have US:Hd (∀W fv cv,aq w W->w.heap.size+2<=W.heap.size->ab (ew M w 2) W fv l.first.fields->ab (ew M w 2) W cv l.changes->_):=λW fv cv hb hz h1 h2=>SO l uI ver hv (ew M w 2) W (dN hM hz) (hT.below hb) fv cv h1 h2;have h8:=((bo (aI l ver)).1 (uI.kk ver).right).2.1;have QR:Hd (∀W fv,w.heap.size+2<=W.heap.size->ab (ew M w 2) W fv (aI l ver).fields->_):=λW fv hz h1=>qO l.first.name (aI l ver).fields (by omega) (ew M w 2) W fv (dN hM hz) h1;obtain⟨a,bQ,rfl,cV,hm,_⟩:=hs.open_;have bW:=af (Bx.dq w (fS (xL a ls.length bQ)) (cU ⟨#[]⟩ (xL none 0 0)));have ed:(0:Int)<=(ver:Int):=Qba _;have NN:(ver:Int)<=(l.changes.length:Int):=by omega
 have lM:=af hM;go_enter func139,ntmps139;go_wp2_with fail;refine(HC.o _ bW.o.1 bW.o.bF).mono ?_;rintro e w1⟨⟨fa,fc,ca,cc,rfl,tI,mZ⟩,aF⟩;have aY:=af (bW.o.below aF);have HMC:Hd (∀o,_):=λo=>US.o (w1.alloc o) _ _ (aY.o.alloc o).1 (by have:=aY.o.bF;simp at this⊢;omega) (tI.below (aF.alloc aF.size o)) (mZ.below (aF.alloc aF.size o));go_wp2_with fail;refine(HMC.o _).mono ?_;rintro e w2⟨_,rfl,⟨fv,rfl,bI⟩,bC⟩;obtain⟨ya,yc,rfl,_⟩:=bI.open_;have aQ:=af ((aY.o.alloc _).below bC);have zP:=af (QR.o w2 _ aQ.o.bF bI);go_wp2_with fail;refine(zP.o).mono ?_;rintro e w3⟨_,rfl,⟨fv3,rfl,qbm⟩,bP⟩;obtain⟨za,zc,rfl,_⟩:=qbm.open_;have bO:=af (aQ.o.below bP);have jC:=af qbm;obtain⟨r0,r1⟩:=ah (bO.o.bU rfl);obtain⟨f0,f1⟩:=mV (bO.o.bU rfl);go_wp2_with fail;refine Qae (v:= .tuple #[.agg #[xS l.first.name,xL za (aI l ver).fields.length zc],xI 0]) (by simp[results,results139,go_sem,r0,r1]) rfl ⟨_,rfl,⟨_,rfl,?_⟩,(bO.o.1.setCell (by show w.heap.size<=w.heap.size+1;omega) _).setCell (by show w.heap.size<=w.heap.size+1;omega) _⟩;exact(jC.o.ev (((Ev.refl _ _).setCell (.inl (.inr ⟨by show w.heap.size<=w.heap.size+1;omega,by show w.heap.size+1<w.heap.size+2;omega⟩)) _).setCell (.inl (.inr ⟨by show w.heap.size<=w.heap.size+1;omega,by show w.heap.size+1<w.heap.size+2;omega⟩)) _)).ev (Ev.dD _ λi hi=> .inl hi)
def zB(n:Int):Obj:=xK #[xI n] 37
def eJ(l:aH)(fr te i:Nat):List aC:=(l.changes.drop fr).take (min i te-fr)
structure kC(l:aH)(fr te:Nat)(many:Int)(vs:List aA)(N:aN)(V R H F T L:Nat)(fv cv:an)(i:Nat)(W:aj):Prop where
 gv:W.heap[V]? =some (lT i)
 gr:W.heap[R]? =some (lT fr)
 gf:W.heap[F]? =some (zB 0)
 gt:W.heap[T]? =some (lT te)
 gl:W.heap[L]? =some (cI l.first.name fv cv)
 gh:∃us a n cap,W.heap[H]? =some (FQ (xL a n cap))/\ab N W (xL a n cap) us/\jS (aI l fr) (eJ l fr te i) many vs us
def p9(V H F:Nat):Nat->Prop:=λj=>j=V\/j=H\/j=F
structure EJ(V R H F T L:Nat):Prop where
 vr:V≠R
 vh:V≠H
 vf:V≠F
 vt:V≠T
 vl:V≠L
 hr:H≠R
 hf:H≠F
 ht:H≠T
 hl:H≠L
 fr:F≠R
 ft:F≠T
 fl:F≠L
section
variable {l:aH}{fr te:Nat}{many:Int}{vs:List aA}{N:aN}{V R H F T L:Nat}{fv cv:an}{i:Nat}{W W':aj}
theorem kC.only {S:aN}(h:kC l fr te many vs N V R H F T L fv cv i W)(ho:ai S W W')(hS:∀j,S j->j≠V/\j≠R/\j≠H/\j≠F/\j≠T/\j≠L)(hN:∀j,S j->N j):kC l fr te many vs N V R H F T L fv cv i W':=by
 obtain⟨us,a,n,cap,h1,h2,h3⟩:=h.gh;exact⟨ho.at_ h.gv (λh=>(hS _ h).1 rfl),ho.at_ h.gr (λh=>(hS _ h).2.1 rfl),ho.at_ h.gf (λh=>(hS _ h).2.2.2.1 rfl),ho.at_ h.gt (λh=>(hS _ h).2.2.2.2.1 rfl),ho.at_ h.gl (λh=>(hS _ h).2.2.2.2.2 rfl),us,a,n,cap,ho.at_ h1 (λh=>(hS _ h).2.2.1 rfl),h2.ev ⟨ho.mono hN,λj hj=> .inl hj⟩,h3⟩
theorem kC.below(h:kC l fr te many vs N V R H F T L fv cv i W)(hb:aq W W'):kC l fr te many vs N V R H F T L fv cv i W':=
 h.only (S:=λ_=>False) (ai.ao hb) (λ_ h=>h.elim) (λ_ h=>h.elim)
theorem kC.tick(h:kC l fr te many vs N V R H F T L fv cv i W)(hn:EJ V R H F T L)(hN:∀j,p9 V H F j->N j)(hc:eJ l fr te j=eJ l fr te i)(hW:W'=W.setCell ⟨V,0,none⟩ (xI j)):kC l fr te many vs N V R H F T L fv cv j W'/\ai (p9 V H F) W W':=by
 have ho:ai (λj=>j=V) W W':=by rw[hW];exact(ai.refl (λj=>j=V) W).setCell (p:=⟨V,0,none⟩) (.inl rfl) _
 obtain⟨us,a,n,cap,h1,h2,h3⟩:=h.gh;refine⟨⟨?_,ho.at_ h.gr (λh=>hn.vr h.symm),ho.at_ h.gf (λh=>hn.vf h.symm),ho.at_ h.gt (λh=>hn.vt h.symm),ho.at_ h.gl (λh=>hn.vl h.symm),us,a,n,cap,ho.at_ h1 (λh=>hn.vh h.symm),h2.ev ⟨ho.mono λj hj=>hN j (.inl hj),λj hj=> .inl hj⟩,by rw[hc];exact h3⟩,ho.mono λj hj=> .inl hj⟩;have:=Qca W V 0 _ _ (xI j) h.gv;rw[hW];simpa [lT]using this
theorem kC.Vd(h:kC l fr te many vs N V R H F T L fv cv i W)(hn:EJ V R H F T L)(hN:∀j,p9 V H F j->N j)(hW:W'=W.setCell ⟨F,0,none⟩ (xI 0)):kC l fr te many vs N V R H F T L fv cv i W'/\ai (p9 V H F) W W':=by
 have ho:ai (λj=>j=F) W W':=by rw[hW];exact(ai.refl (λj=>j=F) W).setCell (p:=⟨F,0,none⟩) (.inl rfl) _
 obtain⟨us,a,n,cap,h1,h2,h3⟩:=h.gh;refine⟨⟨ho.at_ h.gv hn.vf,ho.at_ h.gr (λh=>hn.fr h.symm),?_,ho.at_ h.gt (λh=>hn.ft h.symm),ho.at_ h.gl (λh=>hn.fl h.symm),us,a,n,cap,ho.at_ h1 hn.hf,h2.ev ⟨ho.mono λj hj=>hN j (.inr (.inr hj)),λj hj=> .inl hj⟩,h3⟩,ho.mono λj hj=> .inr (.inr hj)⟩;have:=Qca W F 0 _ _ (xI 0) h.gf;rw[hW];simpa [zB]using this
theorem kC.hold(h:kC l fr te many vs N V R H F T L fv cv i W)(hn:EJ V R H F T L)(hN:∀j,p9 V H F j->N j){n:Nat}(hs:ab N W (xL a n cap) us)(hc:jS (aI l fr) (eJ l fr te (i+1)) many vs us)
 (hW:W'=(W.setCell ⟨H,0,none⟩ (xL a n cap)).setCell ⟨F,0,none⟩ (xI 0)):(∃W1,W1=W'.setCell ⟨V,0,none⟩ (xI ((i+1:Nat):Int))/\kC l fr te many vs N V R H F T L fv cv (i+1) W1/\ai (p9 V H F) W W1)/\(W'.heap[V]? =some (lT i)/\W'.heap[F]? =some (zB 0)/\W'.heap[T]? =some (lT te)):=by
 have h1:ai (p9 V H F) W (W.setCell ⟨H,0,none⟩ (xL a n cap)):=(ai.refl (p9 V H F) W).setCell (p:=⟨H,0,none⟩) (.inl (.inr (.inl rfl))) _;have ho:ai (λj=>j=H\/j=F) W W':=by rw[hW];exact((ai.refl (λj=>j=H\/j=F) W).setCell (p:=⟨H,0,none⟩) (.inl (.inl rfl)) _).setCell (p:=⟨F,0,none⟩) (.inl (.inr rfl)) _
 obtain⟨_,a0,n0,c0,h0,_,_⟩:=h.gh;have gH:W'.heap[H]? =some (FQ (xL a n cap)):=by
  have e1:=Qca W H 0 _ _ (xL a n cap) h0;rw[hW];refine(Qag _ _ _ _ (by show H≠F;exact hn.hf)).trans ?_;simpa [FQ]using e1
 have gF:W'.heap[F]? =some (zB 0):=by
  have e0:(W.setCell ⟨H,0,none⟩ (xL a n cap)).heap[F]? =some (zB 0):=(Qag _ _ _ _ (by show F≠H;exactλh=>hn.hf h.symm)).trans h.gf;have e1:=Qca _ F 0 _ _ (xI 0) e0;rw[hW];simpa [zB]using e1
 have gV:=ho.at_ h.gv (λh=>h.elim hn.vh hn.vf);have gT:=ho.at_ h.gt (λh=>h.elim (λh=>hn.ht h.symm) (λh=>hn.ft h.symm));have gR:=ho.at_ h.gr (λh=>h.elim (λh=>hn.hr h.symm) (λh=>hn.fr h.symm));have gL:=ho.at_ h.gl (λh=>h.elim (λh=>hn.hl h.symm) (λh=>hn.fl h.symm));have hoS:ai (p9 V H F) W W':=ho.mono λj hj=> .inr hj;obtain⟨W1,bT⟩:=bS (W'.setCell ⟨V,0,none⟩ (xI ((i+1:Nat):Int)));have o1:ai (λj=>j=V) W' W1:=by rw[bT];exact(ai.refl (λj=>j=V) W').setCell (p:=⟨V,0,none⟩) (.inl rfl) _
 have gV1:bR W1 V (lT ((i+1:Nat):Int)):=by
  have:=Qca W' V 0 _ _ (xI ((i+1:Nat):Int)) gV;rw[bT];simpa [lT]using this
 have qbn:ai (p9 V H F) W W1:=hoS.trans (o1.mono λj hj=> .inl hj);exact⟨⟨W1,bT,⟨gV1,o1.at_ gR (λh=>hn.vr h.symm),o1.at_ gF (λh=>hn.vf h.symm),o1.at_ gT (λh=>hn.vt h.symm),o1.at_ gL (λh=>hn.vl h.symm),us,a,n,cap,o1.at_ gH (λh=>hn.vh h.symm),hs.ev ⟨qbn.mono hN,λj hj=> .inl hj⟩,hc⟩,qbn⟩,gV,gF,gT⟩
end
def AT {l:aH}{fr te i:Nat}(h:i<=fr):eJ l fr te i=[]:=by unfold eJ;rw[show min i te-fr=0 by omega];rfl
def pr {l:aH}{fr te i:Nat}(h:i<fr\/te<=i):eJ l fr te (i+1)=eJ l fr te i:=by
 unfold eJ;rcases h with h|h
 .rw[show min (i+1) te-fr=0 by omega,show min i te-fr=0 by omega]
 .rw[show min (i+1) te=min i te by omega]
def EK {l:aH}{fr te i:Nat}(h1:fr<=i)(h2:i<te)(hx:l.changes[i]? =some x):eJ l fr te (i+1)=eJ l fr te i++[x]:=by
 unfold eJ;rw[show min (i+1) te-fr=(i-fr)+1 by omega,show min i te-fr=i-fr by omega,Qbb];congr 1;rw[List.getElem?_drop,show fr+(i-fr)=i by omega,hx];rfl
def IB {l:aH}(hl:dZ l){fr te i:Nat}(h1:fr<=i)(h2:i<=te):cY (aI l fr) (eJ l fr te i) (aI l i):=by
 have h:=(hl.from_ fr).at_ (i-fr);rw[oU,show fr+(i-fr)=i by omega]at h;unfold eJ;rw[show min i te=i by omega];exact h
def EL(l:aH)(fr te:Nat)(many:Int)(vs:List aA)(N:aN)(V R H F T L:Nat)(fv cv:an)(i:Nat)(W wx:aj):Prop:=
 (∃W1,W1=wx.setCell ⟨V,0,none⟩ (xI ((i+1:Nat):Int))/\kC l fr te many vs N V R H F T L fv cv (i+1) W1/\ai (p9 V H F) W W1)/\(wx.heap[V]? =some (lT i)/\wx.heap[F]? =some (zB 0)/\wx.heap[T]? =some (lT te))
theorem kC.Ua {l:aH}{V H F T L:Nat}(h:kC l fr te many vs N V R H F T L fv cv i wx)(hn:EJ V R H F T L)(hN:∀j,p9 V H F j->N j)(ho:ai (p9 V H F) W wx)(hc:eJ l fr te (i+1)=eJ l fr te i):EL l fr te many vs N V R H F T L fv cv i W wx:=by
 obtain⟨h1,h2⟩:=h.tick hn hN hc (W':=wx.setCell ⟨V,0,none⟩ (xI ((i+1:Nat):Int))) rfl;exact⟨⟨_,rfl,h1,ho.trans h2⟩,h.gv,h.gf,h.gt⟩
def Mq(l:aH)(hl:dZ l)(fr te i:Nat)(RI:fr<=te)(hte:te<=l.changes.length)(hi:i<=te)(many:Int)(hm:many<=100000)(vs:List aA)(M N:Nat->Prop)(V R H F T L:Nat)(fv cv fvc:Value)(hn:EJ V R H F T L)(w0 W:World)
 (hS:∀j,p9 V H F j->N j)(hSw:∀j,p9 V H F j->w0.heap.size<=j)(hN:Bd N W)(lZ:aq w0 W)(hG:Gd w0)(bJ:ab M w0 cv l.changes)(bI:ab N W fvc (aI l i).fields)(fJ:kC l fr te many vs N V R H F T L fv cv i W):
 xC 280 #[.agg #[xS l.first.name,fvc],xP V,xP R,xP H,xP F,xP T,xP L] W λe W'=>e=xR (xB (decide (i+1<=te)))/\kC l fr te many vs N V R H F T L fv cv (i+1) W'/\ai (p9 V H F) W W':=by
 have hi5:(i:Int)<=12:=by have:=hl.len;omega
 obtain⟨RY,RZ,rfl,_⟩:=bI.open_;obtain⟨W1,bT⟩:=bS (W.alloc (cU l.first.name (xL RY (aI l i).fields.length RZ)));have Fz:aq W W1:=by rw[bT];exact bM
 have gM:Hd (kC l fr te many vs N V R H F T L fv cv i W1):=fJ.below Fz;have HQ:=af (show W1.heap[W.heap.size]? =some (cU l.first.name (xL RY (aI l i).fields.length RZ))by rw[bT];exact Qbh W _);have gp:Hd (ab N W1 (xL RY (aI l i).fields.length RZ) (aI l i).fields):=bI.below Fz;have jN:Hd (aq w0 W1):=lZ.trans (Fz.mono lZ.size);have rE:Hd (ai (p9 V H F) W W1):=ai.ao Fz;have nJ:Hd (Bd N W1):=hN.below Fz;have hQz:W.heap.size<W1.heap.size:=(Qaa.1 HQ.o).1;have HQS:Hd (∀j,p9 V H F j->j≠W.heap.size):=λj hj h=>by
  have h2:=hN j (hS j hj);omega
 generalize hQ:W.heap.size=Q at HQ hQz HQS;have FW:Hd (∀A us hv,aq w0 A->ab N A (xL RY (aI l i).fields.length RZ) (aI l i).fields->ab N A hv us->bh (aI l i).fields many us->xC 141 #[.agg #[xS l.first.name,xL RY (aI l i).fields.length RZ],hv] A (cr (.tuple #[xI 0,xI 0]) A)):=λA us hv h1 h2 h3 h4=>by
  have h:=hZ (aI l i) (hl.kk i).right (cF (hl.kk i).small) many hm us h4 N A _ hv h2 h3 (hG.tb.below h1);rw[hl.name i]at h;exact h
 have HVX:Hd (∀x A us hv,l.changes[i]? =some x->aq w0 A->Bd N A->ab N A (xL RY (aI l i).fields.length RZ) (aI l i).fields->ab N A hv us->bh (aI l i).fields many us->xC 281 #[.agg #[xS l.first.name,xL RY (aI l i).fields.length RZ], .agg #[xI x.kind,xS x.field,xS x.name,xS x.more,xI x.type.kind,xI x.type.of,xS x.expr,xS x.other],hv] A (cg A λv w'=>∃us' uv,v= .tuple #[uv,xI 0]/\gP (aI l i) x many us us'/\ab N w' uv us')):=λx A us hv hx h1 hA h2 h3 h4=>by
  obtain⟨g1,g2,_⟩:=hl.step hx;have h:=PM N A hA (aI l i) (hl.kk i) many hm x g1 g2 _ hv us h2 h3 h4 (hG.below h1);rw[hl.name i]at h;exact h
 have qk:Hd (∀x,l.changes[i]? =some x->_):=λx h=>oP bJ h;have HCS:Hd (fr<=i->cY (aI l fr) (eJ l fr te i) (aI l i)):=λh=>IB hl h hi;have HWX:=af bT;have Xr:=af hS;have zR:=af hn;have HSW:=af hSw;have HQE:=af hQ;clear Fz fJ bI bT hQ bJ hG hl lZ hN hS hSw hn;go_enter func280,ntmps280;go_upto_region 1 with fail;have bT:=HWX.o;unfold cU at bT;rw[<-bT,HQE.o];clear bT;have v0:=one_cell gM.o.gv;have r0:=one_cell gM.o.gr;go_upto_if 11 with fail;go_cut [](λwx=>Hd (kC l fr te many vs N V R H F T L fv cv i wx/\ai (p9 V H F) W1 wx));case first=>
  by_cases he:i=fr
  .have e1:((i:Int)==(fr:Int))=true:=by simp;omega
   obtain⟨us,ha,hn',hc',Xs,hh2,YS⟩:=gM.o.gh;have RV:bh (aI l i).fields many us:=by
    have h:=YS.1;rw[AT (by omega)]at h;rw[he];exact h
   have wm:=af (FW.o W1 us _ jN.o gp.o hh2 RV);have h0:=one_cell Xs;obtain⟨q0,q1⟩:=ah HQ.o;clear Xs hh2 YS RV he;go_wp2_with fail;refine(wm.o).mono ?_;rintro e w3⟨rfl,bP⟩;have jC:=af (gM.o.below bP);have uJ:=af (ai.ao (S:=p9 V H F) bP);have k0:=one_cell jC.o.gf;have f0:=ag jC.o.gf 0;clear bP;go_wp2;go_meet;have hf:=jC.o.Vd zR.o (λj hj=>Xr.o j hj) (W':=w3.setCell ⟨F,0,none⟩ (xI 0)) rfl;exact(show _/\_ from⟨hf.1,uJ.o.trans hf.2⟩)
  .have e1:((i:Int)==(fr:Int))=false:=by simp;omega
   go_wp2;go_meet;exact(show _/\_ from⟨gM.o,ai.refl _ _⟩)
 case rest=>
  obtain⟨wx,FB⟩:=bS (wc);subst FB;have gE:=af hcut.o.1;have Tk:=af hcut.o.2;have HQ2:Hd (wx.heap[Q]? =some (cU l.first.name (xL RY (aI l i).fields.length RZ))):=Tk.o.at_ HQ.o (λh=>HQS.o _ h rfl);have Q9:Hd (ab N wx (xL RY (aI l i).fields.length RZ) (aI l i).fields):=gp.o.ev ⟨Tk.o.mono Xr.o,λj hj=> .inl hj⟩;have aQ:Hd (aq w0 wx):=aS jN.o jN.o.size Tk.o (λj hj=>HSW.o j hj);have qep:Hd (Bd N wx):=λj hj=>Qde (nJ.o j hj) Tk.o.size;have uJ:Hd (ai (p9 V H F) W wx):=rE.o.trans Tk.o;clear hcut v0 r0;have v0:=one_cell gE.o.gv;have r0:=one_cell gE.o.gr;have f0:=one_cell gE.o.gf;have t0:=one_cell gE.o.gt;by_cases Nt:fr<=i
  .have e1:(fr:Int)<=(i:Int):=by omega
   by_cases hit:i<te
   .have e2:(i:Int)<(te:Int):=by omega
    go_upto_if 29 with fail;go_cut [](λwy=>Hd (EL l fr te many vs N V R H F T L fv cv i W wy));case first=>
     obtain⟨x,hx⟩:=eB l.changes i (by omega);obtain⟨b,off,ig,vN,cR,ay⟩:=qk.o x hx;obtain⟨us,ha,hn',hc',Xs,hh2,YS⟩:=gE.o.gh;have QG:=HCS.o Nt;have RV:bh (aI l i).fields many us:=by rw[QG.cls];exact YS.1
     have HUC:=af YS;have HCH:=af QG;have HXX:=af hx;have KK:=af (HVX.o x wx.drew us _ hx aQ.o.drew (qep.o.below (w':=wx.drew) dQ.drew) (Q9.o.ev ((Ev.refl _ _).drew)) (hh2.ev ((Ev.refl _ _).drew)) RV);have hHb:=af Xs;have h0:=one_cell Xs;have k0:=ag Xs 0;obtain⟨q0,q1⟩:=ah HQ2.o;have hKS:∀W',ai (λj=>j=H\/j=F) wx W'->(W'.cell? ⟨Q,0,none⟩=some (xS l.first.name)/\W'.cell? ⟨Q,1,none⟩=some (xL RY (aI l i).fields.length RZ)/\W'.cell? ⟨L,2,none⟩=some cv/\W'.cell? ⟨V,0,none⟩=some (xI i)/\W'.cell? ⟨b,off+i*8,none⟩=some (xI x.kind)/\W'.cell? ⟨b,off+i*8+1,none⟩=some (xS x.field)/\W'.cell? ⟨b,off+i*8+2,none⟩=some (xS x.name)/\W'.cell? ⟨b,off+i*8+3,none⟩=some (xS x.more)/\W'.cell? ⟨b,off+i*8+4,none⟩=some (xI x.type.kind)/\W'.cell? ⟨b,off+i*8+5,none⟩=some (xI x.type.of)/\W'.cell? ⟨b,off+i*8+6,none⟩=some (xS x.expr)/\W'.cell? ⟨b,off+i*8+7,none⟩=some (xS x.other)):=λW' ho=>by
      obtain⟨y0,y1⟩:=ah (ho.at_ HQ2.o (λh=>h.elim (λh=>HQS.o H (.inr (.inl rfl)) h.symm) (λh=>HQS.o F (.inr (.inr rfl)) h.symm)));have y2:=(aD (ho.at_ gE.o.gl (λh=>h.elim (λh=>zR.o.hl h.symm) (λh=>zR.o.fl h.symm)))).2.2;have y3:=one_cell (ho.at_ gE.o.gv (λh=>h.elim (λh=>zR.o.vh h) (λh=>zR.o.vf h)));obtain⟨z0,z1,z2,z3,z4,z5,z6,z7⟩:=ay wx aQ.o;have tt:b<wx.heap.size:=Qde cR aQ.o.size;have hne:¬(b=H\/b=F):=λh=>h.elim (λh=>by have:=HSW.o H (.inr (.inl rfl));omega) (λh=>by have:=HSW.o F (.inr (.inr rfl));omega);have g:∀o,W'.cell? ⟨b,o,none⟩=wx.cell? ⟨b,o,none⟩:=λo=>ho.cell (p:=⟨b,o,none⟩) tt hne;exact⟨y0,y1,y2,y3,(g _).trans z0,(g _).trans z1,(g _).trans z2,(g _).trans z3,(g _).trans z4,(g _).trans z5,(g _).trans z6,(g _).trans z7⟩
     have HKS:=af hKS;have HJ:Hd (ai (λj=>j=H\/j=F) wx wx):=ai.refl _ _;obtain⟨y0,y1,y2,y3,z0,z1,z2,z3,z4,z5,z6,z7⟩:=hKS wx HJ.o;have i0:(0:Int)<=(i:Int):=Qba _;have i1:(i:Int)<(l.changes.length:Int):=by omega
     subst vN;have kf:=ag gE.o.gf 0;have nHF:=zR.o.hf;have nFH:F≠H:=λh=>nHF h.symm;clear ay Xs hh2 YS RV QG hx q0 q1 hKS cR;go_upto_region 4 with fail;clear HKS HJ;go_region_law(first
      |(go_simp;go_at_call 281;refine KK.o.mono ?_;rintro en w4⟨_,rfl,⟨us2,uv,rfl,YB,hs4⟩,eA⟩;obtain⟨ua,uc,rfl,_⟩:=hs4.open_;have dI:Hd (aq wx w4):=(Qbg wx.heap.size wx).drew.trans eA;have fx:Hd (ai (λj=>j=H\/j=F) wx w4):=ai.ao dI.o;have qG:=af (gE.o.below dI.o);have HL4:=af hs4;have Xt:=af YB;have h4:=one_cell ((dI.o.block H (Qaa.1 hHb.o).1).trans hHb.o);have k4:=ag ((dI.o.block H (Qaa.1 hHb.o).1).trans hHb.o) 0;have f4:=one_cell qG.o.gf;have g4:=ag qG.o.gf 0;clear YB hs4 eA));all_goals(go_wp2;go_meet)
     all_goals
      have qeq:jS (aI l fr) (eJ l fr te (i+1)) many vs us2:=by rw[EK Nt hit HXX.o];exact jS.snoc HCH.o HUC.o Xt.o
      obtain⟨⟨W9,e9,s9,o9⟩,g9⟩:=qG.o.hold zR.o Xr.o HL4.o qeq rfl;exact(show EL _ _ _ _ _ _ _ _ _ _ _ _ _ _ _ _ _ from⟨⟨W9,e9,s9,(uJ.o.trans (ai.ao dI.o)).trans o9⟩,g9⟩)
    case rest=>
     obtain⟨wy,WR⟩:=bS (wc);subst WR;have HM:=af hcut.o;obtain⟨⟨W5,h5,Fs,zb⟩,gv,gf,gt⟩:=hcut.o;have mT:=af Fs;have Kx:=af zb;have qF:=af h5;have v5:=one_cell gv;have fv5:=ag gv 0;clear hcut h5 Fs zb gf gt gv v0 r0 f0 t0;go_upto_region 6 with fail;have nM:=qF.o;rw[show((i+1:Nat):Int)=(i:Int)+1 by omega]at nM;rw[<-nM];clear nM qF v5 fv5 HM;have v6:=one_cell mT.o.gv;have f6:=one_cell mT.o.gf;have t6:=one_cell mT.o.gt;rw[show((i+1:Nat):Int)=(i:Int)+1 by omega]at v6;by_cases hle:i+1<=te
     .have e6:(i:Int)+1<=(te:Int):=by omega
      go_wp2_with fail;all_goals
       go_ret;exact⟨by simp[hle],mT.o,Kx.o⟩
     .have e6:(te:Int)<(i:Int)+1:=by omega
      go_wp2_with fail;all_goals
       go_ret;exact⟨by simp[hle],mT.o,Kx.o⟩
   .have e2:(te:Int)<=(i:Int):=by omega
    go_upto_if 29 with fail;go_cut [](λwy=>Hd (EL l fr te many vs N V R H F T L fv cv i W wy));case first=>
     go_wp2;go_meet;exact(gE.o.Ua zR.o Xr.o uJ.o (pr (by omega)))
    case rest=>
     obtain⟨wy,WR⟩:=bS (wc);subst WR;have HM:=af hcut.o;obtain⟨⟨W5,h5,Fs,zb⟩,gv,gf,gt⟩:=hcut.o;have mT:=af Fs;have Kx:=af zb;have qF:=af h5;have v5:=one_cell gv;have fv5:=ag gv 0;clear hcut h5 Fs zb gf gt gv v0 r0 f0 t0;go_upto_region 6 with fail;have nM:=qF.o;rw[show((i+1:Nat):Int)=(i:Int)+1 by omega]at nM;rw[<-nM];clear nM qF v5 fv5 HM;have v6:=one_cell mT.o.gv;have f6:=one_cell mT.o.gf;have t6:=one_cell mT.o.gt;rw[show((i+1:Nat):Int)=(i:Int)+1 by omega]at v6;by_cases hle:i+1<=te
     .have e6:(i:Int)+1<=(te:Int):=by omega
      go_wp2_with fail;all_goals
       go_ret;exact⟨by simp[hle],mT.o,Kx.o⟩
     .have e6:(te:Int)<(i:Int)+1:=by omega
      go_wp2_with fail;all_goals first
       |(exfalso;omega)
       |(go_ret;exact⟨by simp[hle],mT.o,Kx.o⟩)
  .have e1:(i:Int)<(fr:Int):=by omega
   go_upto_if 29 with fail;go_cut [](λwy=>Hd (EL l fr te many vs N V R H F T L fv cv i W wy));case first=>
    go_wp2;go_meet;exact(gE.o.Ua zR.o Xr.o uJ.o (pr (by omega)))
   case rest=>
    obtain⟨wy,WR⟩:=bS (wc);subst WR;have HM:=af hcut.o;obtain⟨⟨W5,h5,Fs,zb⟩,gv,gf,gt⟩:=hcut.o;have mT:=af Fs;have Kx:=af zb;have qF:=af h5;have v5:=one_cell gv;have fv5:=ag gv 0;clear hcut h5 Fs zb gf gt gv v0 r0 f0 t0;go_upto_region 6 with fail;have nM:=qF.o;rw[show((i+1:Nat):Int)=(i:Int)+1 by omega]at nM;rw[<-nM];clear nM qF v5 fv5 HM;have v6:=one_cell mT.o.gv;have f6:=one_cell mT.o.gf;have t6:=one_cell mT.o.gt;rw[show((i+1:Nat):Int)=(i:Int)+1 by omega]at v6;by_cases hle:i+1<=te
    .have e6:(i:Int)+1<=(te:Int):=by omega
     go_wp2_with fail;all_goals
      go_ret;exact⟨by simp[hle],mT.o,Kx.o⟩
    .have e6:(te:Int)<(i:Int)+1:=by omega
     go_wp2_with fail;all_goals
      go_ret;exact⟨by simp[hle],mT.o,Kx.o⟩
def fnO(V R H F T L:Nat):Obj:=xK #[.func (.func 280) #[] #[xP V,xP R,xP H,xP F,xP T,xP L]] 131
structure PO(l:aH)(fr te:Nat)(many:Int)(vs:List aA)(N:aN)(V R H F T L K:Nat)(fv cv:an)(w:aj)(i:Nat)(W:aj):Prop where
 st:kC l fr te many vs N V R H F T L fv cv i W
 fn:W.heap[K]? =some (fnO V R H F T L)
 below:aq w W
theorem PO.only {l:aH}{V H F T L:Nat}{B:aj}{S:aN}(h:PO l fr te many vs N V R H F T L K fv cv w i A)(ho:ai S A B)(hS:∀j,S j->(j≠V/\j≠R/\j≠H/\j≠F/\j≠T/\j≠L)/\j≠K/\w.heap.size<=j)(hN:∀j,S j->N j):PO l fr te many vs N V R H F T L K fv cv w i B:=
 ⟨h.st.only ho (λj hj=>(hS j hj).1) hN,ho.at_ h.fn (λh=>(hS _ h).2.1 rfl),aS h.below h.below.size ho (λj hj=>(hS j hj).2.2)⟩
def PQ(l:aH)(hl:dZ l)(fr te:Nat)(RI:fr<=te)(hte:te<=l.changes.length)(many:Int)(hm:many<=100000)(vs:List aA)(hv:bh (aI l fr).fields many vs)(M:Nat->Prop)(w:World)(hM:Bd M w)(hG:Gd w)(fv cv vv:Value)(cq:ab M w fv l.first.fields)(bJ:ab M w cv l.changes)(dA:ab M w vv vs):
 xC 247 #[.agg #[.string l.first.name,fv,cv], .int .i64 fr, .int .i64 te,vv] w (cg w λv w'=>∃us uv,v= .tuple #[uv, .int .i64 0]/\jS (aI l fr) (eJ l fr te te) many vs us/\ab M w' uv us):=by
 have h8:vs.length<=12:=by
  have:=((dY _).1 (hl.kk fr).right).2.1;rw[hv.1];omega
 have lM:=af hM;have QR:Hd (∀W,aq w W->_):=(show∀W,_->_ fromλW hb=>B6 hv h8 M W vv (hM.below hb) (dA.below hb));have yQ:Hd (∀(S:Nat->Prop)p W,aq w W->¬S p->(∀i,S i->w.heap.size<=i/\i<W.heap.size)->W.heap[p]? =some (cI l.first.name fv cv)->LH prog 246 #[.pointer (some ⟨p,0,none⟩)] W S 1 0 (po l (qS M S W)) (λi=>i=l.changes.length+1)):=(show∀(S:Nat->Prop)p W,_->_->_->_->_ fromλS p W h1 h2 h3 h4=>nF l hl M S p w W hM h1 hG.tb fv cv cq bJ h4 h2 h3);have wm:Hd (∀(N:Nat->Prop)(i V R H F T L:Nat)fvc W,i<=te->EJ V R H F T L->(∀j,p9 V H F j->N j)->(∀j,p9 V H F j->w.heap.size<=j)->Bd N W->aq w W->ab N W fvc (aI l i).fields->kC l fr te many vs N V R H F T L fv cv i W->_):=(show∀(N:Nat->Prop)(i V R H F T L:Nat)fvc W,_->_->_->_->_->_->_->_->_ fromλN i V R H F T L fvc W h1 h2 h3 h4 h5 h6 h7 h8=>Mq l hl fr te i RI hte h1 many hm vs M N V R H F T L fv cv fvc h2 w W h3 h4 h5 h6 hG bJ h7 h8);have Ny:Hd (∀us,us.map (cC 3)=vs.map (cC 3)->bh (aI l fr).fields many us->jS (aI l fr) (eJ l fr te 0) many vs us):=(show∀us:List aA,_->_->_ fromλus h1 h2=>by
  rw[AT (Qbf _)];exact⟨h2,h1⟩);have HV:=af hv;have eg:∀args w,(callFunc 280 args).run prog w= .ok (.enter 280 args) w:=enters_of func280 (by kernel_rfl) rfl;have CA:∀(fn:Fn)(first cap:Array Value)(w:World),(Instr.makeFunc fn first cap).run prog w= .ok (.func fn first cap) w:=λ_ _ _ _=>rfl;obtain⟨fa,fc,rfl,_⟩:=cq.open_;obtain⟨ca,cc,rfl,_⟩:=bJ.open_;obtain⟨va,vc,rfl,_⟩:=dA.open_;have bW:=af (Bx.gO w (cI l.first.name (.slice fa l.first.fields.length fc) (.slice ca l.changes.length cc)) (lT fr) (lT te));clear cq bJ dA hM hG hv hl;refine callsIn_wide.1 (callsIn_of_wp_marks (n:=0) func247 rfl trivial (wpIn_wide.2 ?_) rfl);simp only[ntmps247,List.size_toArray,Qcc,Qcd,Nat.reduceAdd,Nat.reduceSub,Array.replicate_succ,Array.replicate_zero,List.push_toArray,List.append_toArray,List.nil_append,List.cons_append];go_wp2_with fail;refine(QR.o _ bW.o.1).mono ?_;rintro e w1⟨_,rfl,fu,aF⟩;obtain⟨ua,uc,rfl,_⟩:=fu.open_;have aY:=af (bW.o.below aF);have qH:=af fu;have dO:=aY.o.bF;simp only[Qcc,Qcd]at dO;clear aF fu;go_upto_region 3 with fail;obtain⟨q,hq⟩:∃q,w1.heap.size=q:=⟨_,rfl⟩;obtain⟨W3,fw⟩:∃W3:World,W3=(((w1.alloc (lT 0)).alloc (FQ (.slice ua vs.length uc))).alloc (zB 0)).alloc (fnO q (w.heap.size+1) (q+1) (q+1+1) (w.heap.size+1+1) w.heap.size):=⟨_,rfl⟩;have hX:=Bx.Ow w1 (lT 0) (FQ (.slice ua vs.length uc)) (zB 0) (fnO q (w.heap.size+1) (q+1) (q+1+1) (w.heap.size+1+1) w.heap.size);rw[<-fw]at hX;have lq:=af hX;have bO:=af (aY.o.below hX.1);have yK:W3.heap.size=q+4:=by rw[fw,<-hq];simp
 unfold lT FQ zB fnO at fw;rw[hq,<-fw];have HQE:=af hq;clear fw hX;obtain⟨l0,l1,l2⟩:=aD (bO.o.bG rfl);go_wp2_with fail;refine(pj _ _ _ _).mono ?_;rintro e w2⟨rfl,rfl⟩;go_wp2_with fail;obtain⟨W2,gS⟩:∃W2:World,W2=W3.alloc (cI l.first.name (.slice fa l.first.fields.length fc) (.slice ca l.changes.length cc)):=⟨_,rfl⟩;have qs:Hd (W2.heap[W3.heap.size]? =some (cI l.first.name (.slice fa l.first.fields.length fc) (.slice ca l.changes.length cc))):=(show _=_ by rw[gS];exact Qbh W3 _);have Xu:aq W3 W2:=by rw[gS];exact bM
 have aQ:=af (bO.o.below Xu);have fU:=af (lq.o.below Xu);have er:W2.heap.size=q+5:=by rw[gS];simp[yK]
 rw[<-gS];rw[yK]at qs;clear gS Xu l0 l1 l2;have hNS:∀j,p9 q (q+1) (q+1+1) j->w.heap.size<=j/\j<W2.heap.size:=λj hj=>by rcases hj with hj|hj|hj<;>omega
 have F3:=af hNS;have Tz:=af (yQ.o (p9 q (q+1) (q+1+1)) (q+4) W2 aQ.o.1 (λh=>by rcases h with h|h|h<;>omega) hNS qs.o);have zR:Hd (EJ q (w.heap.size+1) (q+1) (q+1+1) (w.heap.size+1+1) w.heap.size):=(show EJ _ _ _ _ _ _ from⟨by omega,by omega,by omega,by omega,by omega,by omega,by omega,by omega,by omega,by omega,by omega,by omega⟩);have HI0:Hd (PO l fr te many vs (qS M (p9 q (q+1) (q+1+1)) W2) q (w.heap.size+1) (q+1) (q+1+1) (w.heap.size+1+1) w.heap.size (q+1+1+1) (.slice fa l.first.fields.length fc) (.slice ca l.changes.length cc) w 0 W2):=(show PO _ _ _ _ _ _ _ _ _ _ _ _ _ _ _ _ _ _ from by
  have e0:=fU.o.bG rfl;have e1:=fU.o.bU rfl;have e2:=fU.o.fR rfl;have e3:=fU.o.BD rfl;(try unfold di at e0);rw[HQE.o]at e0 e1 e2 e3;exact⟨⟨e0,aQ.o.bU rfl,e2,aQ.o.fR rfl,aQ.o.bG rfl,vs,ua,_,uc,e1,qH.o.ev ⟨ai.ao (fU.o.1.mono bN),λj hj=>by
   rcases hj with hj|hj|hj
   .exact .inl hj
   .exact .inr (by have:=HQE.o;rcases hj with hj|hj|hj<;>omega)
   .exact .inr (by have:=hj.1;have:=HQE.o;omega)⟩,Ny.o vs rfl HV.o⟩,e3,aQ.o.1⟩);clear hNS;refine wpIn_wide.1 (nz rfl (enters_of func246 (by kernel_rfl) rfl) (p9 q (q+1) (q+1+1)) 1 0 (po l (qS M (p9 q (q+1) (q+1+1)) W2)) (λi=>i=l.changes.length+1) Tz.o (λi args i' W h=>pq h) (λi hi=> .inl (F3.o i hi).2)
  (λi W=>i<=te/\PO l fr te many vs (qS M (p9 q (q+1) (q+1+1)) W2) q (w.heap.size+1) (q+1) (q+1+1) (w.heap.size+1+1) w.heap.size (q+1+1+1) (.slice fa l.first.fields.length fc) (.slice ca l.changes.length cc) w i W)
  (λc W=>c= .exit 0/\PO l fr te many vs (qS M (p9 q (q+1) (q+1+1)) W2) q (w.heap.size+1) (q+1) (q+1+1) (w.heap.size+1+1) w.heap.size (q+1+1+1) (.slice fa l.first.fields.length fc) (.slice ca l.changes.length cc) w (te+1) W)
  (λi A B h ho=>⟨h.1,h.2.only ho (λj hj=>by have:=hj.1;exact⟨⟨by omega,by omega,by omega,by omega,by omega,by omega⟩,by omega,by omega⟩) (λj hj=> .inr (.inr hj))⟩)
  (λc A B h ho=>⟨h.1,h.2.only ho (λj hj=>by have:=hj.1;exact⟨⟨by omega,by omega,by omega,by omega,by omega,by omega⟩,by omega,by omega⟩) (λj hj=> .inr (.inr hj))⟩) ⟨Qbf _,HI0.o⟩ ?hround ?hdone ?hstop);case hdone=>
  intro i W hE hI hD;exfalso;have:=hI.1;omega
 case hround=>
  intro k i args i' W hI Nf hsz;obtain⟨rfl,hi,jA,rfl,bI⟩:=Nf;obtain⟨hiv,l9⟩:=hI;obtain⟨ya,yc,rfl,_⟩:=bI.open_;have HI:=af l9;have gp:=af bI;clear l9 bI;gi_wp2_with(rw[Oper.semAt_eq _ _ _ (λc h=>by cases h)];go_simp;try go_bits);refine⟨(ai.refl _ W).alloc _,λW5 zb KG=> ?_⟩;have qF:Hd (ai (λj=>j=W2.heap.size+1) W W5):=(show ai _ _ _ from((ai.refl _ W).alloc _).trans zb);have UT:Hd (PO l fr te many vs (qS M (p9 q (q+1) (q+1+1)) W2) q (w.heap.size+1) (q+1) (q+1+1) (w.heap.size+1+1) w.heap.size (q+1+1+1) (.slice fa l.first.fields.length fc) (.slice ca l.changes.length cc) w i W5):=(show PO _ _ _ _ _ _ _ _ _ _ _ _ _ _ _ _ _ _ from HI.o.only qF.o (λj hj=>by have:j=W2.heap.size+1:=hj;exact⟨⟨by omega,by omega,by omega,by omega,by omega,by omega⟩,by omega,by omega⟩) (λj hj=> .inr (.inr (by have:j=W2.heap.size+1:=hj;exact⟨by omega,by omega⟩))));have Xv:Hd (ab (qS M (p9 q (q+1) (q+1+1)) W2) W5 (.slice ya (aI l i).fields.length yc) (aI l i).fields):=(show ab _ _ _ _ from gp.o.ev ⟨qF.o.mono λj hj=> .inr (.inr (by have:j=W2.heap.size+1:=hj;exact⟨by omega,by omega⟩)),λj hj=> .inl hj⟩);have HP5:=af (zb.at_ (Qbh W (cU l.first.name (.slice ya (aI l i).fields.length yc))) (by show¬W.heap.size=W2.heap.size+1;omega));have hz5:W2.heap.size+3<=W5.heap.size:=by rw[KG];simp;omega
  have nJ:Hd (Bd (qS M (p9 q (q+1) (q+1+1)) W2) W5):=(show Bd _ _ fromλj hj=>by
   rcases hj with hj|hj|hj
   .have:=lM.o j hj;omega
   .have:=(F3.o j hj).2;omega
   .have:=hj.2;omega);have br:=af (wm.o _ i _ _ _ _ _ _ _ W5 hiv zR.o (λj hj=> .inr (.inl hj)) (λj hj=>(F3.o j hj).1) nJ.o UT.o.below Xv.o UT.o.st);obtain⟨p0,p1⟩:=ah HP5.o;have s0:=one_cell UT.o.fn;clear zb;gi_wp2_with(rw[Oper.semAt_eq _ _ _ (λc h=>by cases h)];go_simp;try go_bits);refine⟨trivial,rfl,(CallsIn.inRound k (callsIn_wide.2 br.o)).mono ?_⟩;rintro e w6⟨rfl,fJ,Xw⟩;have RE:=af Xw;have HI6:Hd (PO l fr te many vs (qS M (p9 q (q+1) (q+1+1)) W2) q (w.heap.size+1) (q+1) (q+1+1) (w.heap.size+1+1) w.heap.size (q+1+1+1) (.slice fa l.first.fields.length fc) (.slice ca l.changes.length cc) w (i+1) w6):=(show PO _ _ _ _ _ _ _ _ _ _ _ _ _ _ _ _ _ _ from⟨fJ,Xw.at_ UT.o.fn (λh=>by rcases h with h|h|h<;>omega),aS UT.o.below UT.o.below.size Xw (λj hj=>(F3.o j hj).1)⟩);clear fJ Xw s0 p0 p1;by_cases hle:i+1<=te
  .gi_wp2_with(rw[Oper.semAt_eq _ _ _ (λc h=>by cases h)];go_simp;try go_bits);exact⟨RE.o,hle,HI6.o⟩
  .obtain rfl:i=te:=by omega
   gi_wp2_with(rw[Oper.semAt_eq _ _ _ (λc h=>by cases h)];go_simp;try go_bits);exact⟨RE.o,rfl,HI6.o⟩
 case hstop=>
  intro c W hX hD;obtain⟨rfl,l9⟩:=hX;have HI:=af l9;have HD:=af hD;obtain⟨us,a,n,cap,h1,h2,h3⟩:=l9.st.gh;have f0:=one_cell HI.o.st.gf;have h0:=one_cell h1;clear l9 hD;refine wpIn_wide.2 ?_;dsimp only;go_wp2_with fail;obtain⟨W4,j8⟩:∃W4:World,W4=W.putObj W2.heap.size (.deferred none):=⟨_,rfl⟩;have o4:ai (λj=>j=W2.heap.size) W W4:=by rw[j8];exact(ai.refl (λj=>j=W2.heap.size) W).putObj (.inl rfl) _
  refine⟨by simp, .inl ⟨_,_,rfl,run_takeDeferred HD.o,?_⟩⟩;rw[<-j8];rw[pr (.inr bN)]at h3;refine⟨.tuple #[.slice a n cap, .int .i64 0],by simp[results,results247,go_sem],_,rfl,⟨us,_,rfl,h3,(h2.ev ⟨o4.mono λj hj=> .inr (.inr (by have:j=W2.heap.size:=hj;exact⟨by omega,by omega⟩)),λj hj=> .inl hj⟩).ev (Ev.dD W4 λj hj=> .inl hj)⟩,?_⟩;exact aS HI.o.below HI.o.below.size o4 (λj hj=>by have:j=W2.heap.size:=hj;have:=aQ.o.1.size;omega)
def Mr(ls:List aH)(h:dK ls)(k:Nat)(l:aH)(hk:ls[k]? =some l)(fr:Nat)(RI:fr<=l.changes.length)(many:Int)(hm:many<=100000)(vs:List aA)(hv:bh (aI l fr).fields many vs)(M:aN)(w:aj)(hM:Bd M w)(hG:Gd w)(sv vv:an)(hs:ab M w sv ls)(dA:ab M w vv vs):
 xG 185 #[.agg #[sv],xI k,xI fr,xI l.changes.length,vv] w λv w'=>∃us uv,v= .tuple #[uv,xI 0]/\jS (aI l fr) (l.changes.drop fr) many vs us/\ab M w' uv us:=by
 have uI:=h.lines l (Qaf hk);have hcut:eJ l fr l.changes.length l.changes.length=l.changes.drop fr:=by
  unfold eJ;rw[Nat.min_self,Qah (by rw[List.length_drop];exact bN)]
 have HC:=gG (w:=w) (λW hb=>yj ls h k l hk M W (hM.below hb) (hG.tb.below hb) sv (hs.below hb));have KL:Hd (∀W fv cv,aq w W->ab M W fv l.first.fields->ab M W cv l.changes->_):=λW fv cv hb h1 h2=>PQ l uI fr l.changes.length RI bN many hm vs hv M W (hM.below hb) (hG.below hb) fv cv vv h1 h2 (dA.below hb);rw[hcut]at KL;obtain⟨a,bQ,rfl,cV,lL,_⟩:=hs.open_;obtain⟨va,vc,rfl,_⟩:=dA.open_;have bW:=af (Bx.eD w (fS (xL a ls.length bQ)));have i0:(0:Int)<=(fr:Int):=Qba _;have i1:(fr:Int)<=(l.changes.length:Int):=by omega
 go_enter func185,ntmps185;go_wp2_with fail;refine(HC.o _ bW.o.1).mono ?_;rintro e w1⟨⟨fa,fc,ca,cc,rfl,tI,mZ⟩,aF⟩;have aY:=af (bW.o.below aF);have HCB:Hd (∀o,_):=λo=>KL.o (w1.alloc o) _ _ (aY.o.alloc o).1 (tI.below (aF.alloc aF.size o)) (mZ.below (aF.alloc aF.size o));go_wp2_with fail;refine(HCB.o _).mono ?_;rintro e w2⟨_,rfl,⟨us,uv,rfl,Rb,bI⟩,bC⟩;obtain⟨ya,yc,rfl,_⟩:=bI.open_;have aQ:=af ((aY.o.alloc _).below bC);have Xx:=af Rb;have gp:=af bI;go_wp2;go_ret2;exact⟨_,rfl,⟨us,_,rfl,Xx.o,gp.o⟩,aQ.o.1⟩
def AU(h:dK ls){l:aH}(hk:ls[k]? =some l):dK [l]:=by
 have hl:=h.lines l (Qaf hk);refine⟨by simp,?_,?_⟩;all_goals first
  |(intro x hx;rcases List.mem_singleton.1 hx with rfl;exact hl)
  |(intro i x hi;match i,hi with
     |0,hi=>simp at hi;subst hi;simp[dU,cj,idxOf]
     |i+1,hi=>simp at hi)
def Ms {l:aH}(hk:ls[k]? =some l):(ls.drop k).take 1=[l]:=by
 rw[List.drop_eq_getElem?_toList_append,hk];simp
def EM(ls:List aH)(k:Nat)(l:aH)(hk:ls[k]? =some l)(h8:ls.length<=8)(M:aN)(w:aj)(sv:an)(hs:ab M w sv ls):
 xG 186 #[.agg #[sv],xI k] w λv w'=>∃u,v= .agg #[u]/\ab M w' u [l]:=by
 have bu:=(Qad.1 hk).1;obtain⟨a,bQ,rfl,cV,lL,_⟩:=hs.open_;obtain⟨b,off,cap,fa,fc,ca,cc,hv,cR,_,_,_,_⟩:=eE hs hk;obtain⟨rfl,rfl⟩:=iB hv;have s2:=(hs.from_ rfl (k:=k) (by omega)).upto (by simp) (k:=1) (by omega);rw[Ms hk,if_neg (by omega)]at s2;have gE:=af (show ab M w (xL (some ⟨b,off+k*3,none⟩) 1 (bQ-k)) [l]by
  have e:(⟨b,off,none⟩:Addr).add (k*3)=⟨b,off+k*3,none⟩:=by
   unfold Addr.add;by_cases hz:k=0
   .subst hz;simp
   .simp[show¬k*3=0 from by omega]
  simpa [e,show au.size aH=3 from rfl]using s2);have bW:=af (Bx.dq w (fS (xL (some ⟨b,off,none⟩) ls.length bQ)) (fS (xL none 0 0)));have i6:IntKind.i64.wrap ((k:Int)+1)=(k:Int)+1:=Qbe _ (by omega);have i0:(0:Int)<=(k:Int):=Qba _;have i1:(k:Int)+1<=(bQ:Int):=by omega
 have i2:¬bQ=k:=by omega
 have i3:(k:Int)<=(k:Int)+1:=by omega
 have i4:((k:Int)+1).toNat=k+1:=by omega
 have i5:k+1-k=1:=by omega
 have i7:k+1<=bQ:=by omega
 have c0:=one_cell (bW.o.bU rfl);have f0:=ag (bW.o.bU rfl) 0;have d0:=one_cell (bW.o.bG rfl);go_enter func186,ntmps186;go_wp2_with fail;refine Qae (v:= .agg #[xL (some ⟨b,off+k*3,none⟩) 1 (bQ-k)]) (by simp[results,results186,go_sem,c0]) rfl ⟨_,rfl,⟨_,rfl,?_⟩,?_⟩
 .exact gE.o.below (Bx.dq w (fS _) (fS _)).1
 .exact(Bx.dq w (fS _) (fS _)).1
def IC(ls:List aH)(h:dK ls)(k:Nat)(l:aH)(hk:ls[k]? =some l)(x:bE)(v:Nat)(many:Int)(hm:many<=100000)(hc:x.cls=k)(kZ:x.ver=v)(Gb:v<=l.changes.length)(hx:Hb many x)(hv:bh (aI l v).fields many x.aR)(M:aN)(w:aj)(hM:Bd M w)(hG:Gd w)(sv vv:an)(hs:ab M w sv ls)(dA:ab M w vv x.aR):
 xG 126 #[.agg #[sv], .agg #[xI x.id,xI x.cls,xI x.ver,vv]] w λr w'=>∃us uv,r= .tuple #[.agg #[xI x.id,xI x.cls,xI l.changes.length,uv],xI 0]/\jS (aI l v) (l.changes.drop v) many x.aR us/\ab M w' uv us:=by
 have uI:=h.lines l (Qaf hk);have h1:=AU h hk;have HL:=gG (w:=w) (λW hb=>EI ls h k l hk M W (hM.below hb) (hG.tb.below hb) sv (hs.below hb));have WS:=gG (w:=w) (λW hb=>DF x many hm hx M W (hM.below hb) vv (dA.below hb) (hG.tb.below hb));have HA:=gG (w:=w) (λW hb=>EM ls k l hk (by have:=h.len;omega) (ew M w 3) W sv (hs.ev (dF hb)));have KL:Hd (∀W u,aq w W->w.heap.size+3<=W.heap.size->ab (ew M w 3) W u [l]->_):=λW u hb h3 hu=>Mr [l] h1 0 l rfl v Gb many hm x.aR hv (ew M w 3) W (dN hM h3) (hG.below hb) u vv hu (dA.ev (dF hb));obtain⟨a,bQ,rfl,cV,lL,_⟩:=hs.open_;obtain⟨va,vc,rfl,_⟩:=dA.open_;obtain⟨xi,xc,xv,xs⟩:=x;dsimp only at*;subst hc;subst kZ;have bW:=af (Bx.gO w (fS (xL a ls.length bQ)) (dV ⟨xi,(k:Int),(v:Int),xs⟩ (xL va xs.length vc)) (dV ⟨0,0,0,[]⟩ (xL none 0 0)));have i0:(0:Int)<=(v:Int):=Qba _;have i1:(v:Int)<=(l.changes.length:Int):=by omega
 have c0:=one_cell (bW.o.bG rfl);obtain⟨o0,o1,o2,o3⟩:=ae (bW.o.bU rfl);go_enter func126,ntmps126;go_wp2_with fail;refine bY (HL.o _ bW.o.1) λw1 aF=> ?_;have aY:=af (bW.o.below aF);have c0:=one_cell (aY.o.bG rfl);obtain⟨o0,o1,o2,o3⟩:=ae (aY.o.bU rfl);go_wp2_with fail;refine bY (WS.o _ aY.o.1) λw2 bC=> ?_;have aQ:=af (aY.o.below bC);have c0:=one_cell (aQ.o.bG rfl);obtain⟨o0,o1,o2,o3⟩:=ae (aQ.o.bU rfl);go_upto_region 6 with fail;have dr:Hd (∀W,aq w2 W->ox W w 0 (xL a ls.length bQ)/\zm W w 1 (xI k)/\zm W w 2 (xI v)/\zm W w 3 (xL va xs.length vc)):=λW hb=>by
  have h:=aQ.o.below hb;have h4:=ae (h.bU rfl);exact⟨one_cell (h.bG rfl),h4.2.1,h4.2.2.1,h4.2.2.2⟩
 have fO:Hd (aq w w2):=aQ.o.1;have Bq:Hd (w.heap.size+3<=w2.heap.size):=aQ.o.bF;have HJ:Hd (aq w2 w2):=dQ;go_cut [8,7](λs8 s7 wx=>s7=xI 0/\Hd (aq w2 wx)/\Hd (∃us,jS (aI l v) (l.changes.drop v) many xs us/\ab (ew M w 3) wx s8 us));case first=>
  go_region_held3(λw'=>w'.cell? ⟨w.heap.size,0,none⟩=some (xL a ls.length bQ)/\w'.cell? ⟨w.heap.size+1,1,none⟩=some (xI k)/\w'.cell? ⟨w.heap.size+1,2,none⟩=some (xI v)/\w'.cell? ⟨w.heap.size+1,3,none⟩=some (xL va xs.length vc))
   (with_reducible first|exact dr.o _ rG.o|exact dr.o _ dE.o|exact dr.o _ dE.o.drew|exact dr.o _ HJ.o|exact dr.o _ HJ.o.drew)
   (first
     |(go_at_call 186;refine(HA.o _ (by with_reducible first|exact fO.o.drew|exact fO.o)).mono ?_;rintro e w3⟨_,rfl,⟨u,rfl,hu⟩,bP⟩;obtain⟨a1,c1,rfl,_⟩:=hu.open_;have HU:=af hu;have dE:Hd (aq w2 w3):=(by with_reducible first|exact af (It bP)|exact af bP);clear bP hu)
     |(go_at_call 185;refine(KL.o _ _ (fO.o.trans (dE.o.mono fO.o.size)) (Qcg Bq.o dE.o.size) HU.o).mono ?_;rintro e w4⟨_,rfl,⟨us,uv,rfl,Rb,bI⟩,eA⟩;obtain⟨a2,c2,rfl,_⟩:=bI.open_;have Xx:=af Rb;have gp:=af bI;have rG:Hd (aq w2 w4):=dE.o.trans (eA.mono dE.o.size);clear eA Rb bI));all_goals(go_wp2;go_meet)
  all_goals exact⟨rfl,rG,af ⟨_,Xx.o,gp.o⟩⟩
 case rest=>
  obtain⟨rfl,HJ5,Kz⟩:=hcut;have kK:=af (aQ.o.below HJ5.o);obtain⟨us,Rb,bI⟩:=Kz.o;obtain⟨a2,c2,rfl,_⟩:=bI.open_;have Xx:=af Rb;have gp:=af bI;have c0:=one_cell (kK.o.bG rfl);obtain⟨o0,o1,o2,o3⟩:=ae (kK.o.bU rfl);obtain⟨r0,r1,r2,r3⟩:=ae (kK.o.fR rfl);obtain⟨f0,f1,f2,f3⟩:=iK (kK.o.fR rfl);go_wp2_with fail;refine Qae (v:= .tuple #[.agg #[xI xi,xI k,xI l.changes.length,xL a2 us.length c2],xI 0]) (by simp[results,results126,go_sem,r0,r1,r2,r3]) rfl ⟨_,rfl,⟨_,_,rfl,Xx.o,?_⟩,?_⟩
  .exact gp.o.ev (((((fj _).setCell (.inl (.inr ⟨by simp;omega,by simp⟩)) _).setCell (.inl (.inr ⟨by simp;omega,by simp⟩)) _).setCell (.inl (.inr ⟨by simp;omega,by simp⟩)) _).setCell (.inl (.inr ⟨by simp;omega,by simp⟩)) _)
  .exact cW kK.o.1 (by omega)
abbrev ID(p:Int×Int):an:= .agg #[xI p.1,xI p.2]
def B9(e:Bool)(x:Int×Int)(w:aj):(Instr.checkKey e 10000 265 (ID x)).run prog w= .ok () w:=by
 kernel_rfl
def ZB(x y:Int×Int)(w:aj):(Op.equal 265 (ID x) (ID y)).run prog w= .ok (decide (x=y)) w:=by
 obtain⟨a,b⟩:=x;obtain⟨c,d⟩:=y;have p0:∀(x y:Int)(w:aj),(part 3 #[xI x,xI y] 0).run prog w= .ok (xI x) w:=λx y w=>by kernel_rfl
 have p1:∀(x y:Int)(w:aj),(part 3 #[xI x,xI y] 1).run prog w= .ok (xI y) w:=λx y w=>by kernel_rfl
 have pe:∀(x y:Int)(w:aj),(Op.equalIn 9999 3 (.int .i64 x) (.int .i64 y)).run prog w= .ok (x==y) w:=λx y w=>run_equalIn_int w 9998 _ _ _ x y underlying3;have h1:(Op.equal 265 (ID (a,b)) (ID (c,d))).run prog w= .ok ((a==c)&&(b==d)) w:=by
  show(Op.equalIn (9999+1) 265 (.agg #[xI a,xI b]) (.agg #[xI c,xI d])).run prog w=_;rw[run_equalIn_struct w 9999 265 #[.int .i64 a, .int .i64 b] #[.int .i64 c, .int .i64 d] (by simp[Program.fieldsOf,underlying265]) (by kernel_rfl)];simp only[Program.fieldsOf,underlying265,Op.eqFields,Sem.run_bind,p0,p1,pe,Result.andThen_ok];by_cases h:a=c<;>by_cases h2:b=d<;>simp[h,h2,Op.eqFields,p0,p1,pe]
 have h2:((a==c)&&(b==d))=decide ((a,b)=(c,d)):=by rw[Bool.eq_iff_iff];simp
 rw[h1,h2]
def sQ:lS ID prog 265:=Mi ID _ (λ_ _=>rfl) underlying265 ZB
def row_one {l:aH}(hg:bR W g (xK #[xS l.first.name,fv,cv] t))(hM:¬M g)(h1:ab M W fv l.first.fields)(h2:ab M W cv l.changes)(hn:l.first.name.size<=maxLen):ab M W (xL (some ⟨g,0,none⟩) 1 1) [l]:=by
 refine⟨[[xS l.first.name,fv,cv]],⟨rfl,some ⟨g,0,none⟩,1,rfl,bN,by unfold maxLen;omega,λ_=>⟨g,0,rfl,hM,(Qaa.1 hg).1,λj u hu=> ?_⟩⟩,rfl,λi cs x hc hx=> ?_⟩
 .simp only[World.cell?,hg,Nat.zero_add];simpa using hu
 .match i,hc,hx with
  |0,hc,hx=>cases hc;cases hx;exact⟨fv,cv,rfl,h1,h2,hn⟩
  |i+1,hc,hx=>simp at hx
def NK(s1 s2:an):an:= .agg #[xB true,s1,s2]
def vF(b:Bool)(s1 s2:an):Obj:=xK #[xB b,s1,s2] 209
def SP(c v:Int):Obj:=xK #[xI c,xI v] 265
def PR(sv:an)(b:Nat):Obj:=xK #[sv, .map (some b)] 207
def jL(l:aH)(v:Nat):aH:=⟨aI l v,[]⟩
structure je(ls:List aH)(M:aN)(p b:Nat)(sv:an)(w:aj):Prop where
 cell:w.heap[p]? =some (PR sv b)
 lines:ab M w sv ls
 mp:∃es clk,bD ID w b es clk/\∀x val,aZ es x=some val->∃(k v:Nat)(l:aH)(a1 a2:fA)(n1 c1 n2 c2:Nat),x=((k:Int),(v:Int))/\ls[k]? =some l/\v<=l.changes.length/\val=NK (xL a1 n1 c1) (xL a2 n2 c2)/\ab M w (xL a2 n2 c2) [ep l v]/\ab M w (xL a1 n1 c1) [jL l v]
theorem je.ev(h:je ls M p b sv w)(hv:Ev M w M' w')(hp:w'.heap[p]? =w.heap[p]?)(hb:w'.heap[b]? =w.heap[b]?):je ls M' p b sv w':=by
 obtain⟨h1,h2,es,clk,h3,h4⟩:=h;refine⟨hp.trans h1,h2.ev hv,es,clk,(show w'.heap[b]? =_ from hb.trans h3),λx val hx=> ?_⟩;obtain⟨k,v,l,a1,a2,n1,c1,n2,c2,e1,e2,e3,e4,e6,e7⟩:=h4 x val hx;exact⟨k,v,l,a1,a2,n1,c1,n2,c2,e1,e2,e3,e4,e6.ev hv,e7.ev hv⟩
def Ki(ls:List aH)(M:aN)(w:aj)(hM:Bd M w)(sv:an)(hs:ab M w sv ls):
 xC 55 #[.agg #[sv]] w λe w'=>∃p b,e=xR (xP p)/\w.heap.size<=p/\w.heap.size<=b/\p≠b/\p<w'.heap.size/\b<w'.heap.size/\(∀N:aN,(∀i,N i->M i\/w.heap.size<=i)->je ls N p b sv w')/\aq w w':=by
 obtain⟨a,bQ,rfl,cV,lL,_⟩:=hs.open_;have HS:=af hs;have wj:=λw=>eQ 205 w;have c0:=one_cell ((Bx.eD w (fS (xL a ls.length bQ))).bG rfl);clear hs;go_enter func55,ntmps55;go_wp2;go_ret;have hX:=Bx.gO w (fS (xL a ls.length bQ)) (.map #[] 0) (PR (xL a ls.length bQ) (w.heap.size+1));refine⟨w.heap.size+1+1,w.heap.size+1,rfl,by omega,by omega,by omega,by simp,by simp,λN hN=>⟨hX.fR rfl,HS.o.ev ⟨ai.ao hX.1,hN⟩,[],0,hX.bU rfl,λx val h=>by simp[aZ]at h⟩,hX.1⟩
def Mt(M:aN)(w:aj)(T:Nat):Nat->Prop:=λi=>M i\/(w.heap.size<=i/\i<T)
def VK {T:Nat}(hM:Bd M w)(hb:aq w W)(hT:T<=W.heap.size):Bd (Mt M w T) W:=λi hi=>by
 rcases hi with hi|hi
 .exact Qde (hM i hi) hb.size
 .omega
def IE(T:Nat)(hb:aq w W):Ev M w (Mt M w T) W:=⟨ai.ao hb,λi hi=>by
 rcases hi with hi|hi
 .exact .inl hi
 .exact .inr hi.1⟩
def Kj(ls:List aH)(h:dK ls)(k:Nat)(l:aH)(hk:ls[k]? =some l)(v:Nat)(hv:v<=l.changes.length)(M:aN)(w:aj)(hM:Bd M w)(hG:Gd w)(p b:Nat)(yW:p≠b)(wh:M b)(sv:an)(hB:je ls M p b sv w):
 xC 125 #[xP p,xI k,xI v] w λe w'=>(∃a1 n1 c1 s2,e=xR (NK (xL a1 n1 c1) s2)/\ab M w' s2 [ep l v]/\ab M w' (xL a1 n1 c1) [jL l v])/\je ls M p b sv w'/\ai (λi=>i=b) w w':=by
 have jN:=af hB;obtain⟨aL,hs,es,clk,R3,JA⟩:=hB;have hp:=(Qaa.1 aL).1;have YT:=af (hM b wh);have lM:=af hM;have HP0:=af hp;have dr:Hd (∀W,aq w W->bR W p (PR sv b)/\bD ID W b es clk):=λW hb=>⟨(hb.block _ hp).trans aL,(hb.block _ (hM b wh)).trans R3⟩;have HES:=af JA;have HS:=af hs;have RO:∀W val,aq w W->aZ es ((k:Int),(v:Int))=some val->(Instr.lookup 205 (.map (some b)) (.agg #[.int .i64 k, .int .i64 v]) true).run prog W= .ok (.tuple #[val, .bool true]) W:=λW val hb hx=>bD.Er ID underlying205 sQ B9 (dr.o W hb).2 ((k:Int),(v:Int)) val hx;have hz:∀W,(zeroValue 209).run prog W= .ok (.agg #[xB false,xL none 0 0,xL none 0 0]) W:=λW=>by kernel_rfl
 have Nn:∀W,aq w W->aZ es ((k:Int),(v:Int))=none->(Instr.lookup 205 (.map (some b)) (.agg #[.int .i64 k, .int .i64 v]) true).run prog W= .ok (.tuple #[.agg #[.bool false, .slice none 0 0, .slice none 0 0], .bool false]) W:=λW hb hx=>bD.Zx ID underlying205 sQ B9 (dr.o W hb).2 ((k:Int),(v:Int)) _ (hz W) hx;obtain⟨ob,KU,KV,KW,YU,YV,YW,qq,Nz,qbo⟩:∃(ob:Bool)(KU:fA)(KV KW:Nat)(YU:fA)(YV YW:Nat),(∀W,aq w W->(Instr.lookup 205 (.map (some b)) (.agg #[xI k,xI v]) true).run prog W= .ok (.tuple #[.agg #[xB ob,xL KU KV KW,xL YU YV YW],xB ob]) W)/\(ob=true->ab M w (xL YU YV YW) [ep l v]/\ab M w (xL KU KV KW) [jL l v])/\(ob=false->aZ es ((k:Int),(v:Int))=none):=by
  cases hq:aZ es ((k:Int),(v:Int))with
  |none=>exact⟨false,none,0,0,none,0,0,λW hb=>Nn W hb hq,by simp,by simp⟩
  |some val=>
   obtain⟨k',v',l',a1,a2,n1,c1,n2,c2,e1,e2,e3,e4,e6,e7⟩:=JA _ _ hq;rw[Prod.mk.injEq,Int.natCast_inj,Int.natCast_inj]at e1;obtain⟨rfl,rfl⟩:=e1;obtain rfl:l=l':=by rw[hk]at e2;exact Option.some.inj e2
   subst e4;exact⟨true,a1,n1,c1,a2,n2,c2,λW hb=>RO W _ hb hq,λ_=>⟨e6,e7⟩,by simp⟩
 obtain⟨lb,off,Z8,fa,fc,ca,cc,Yy,qdq,tI,mZ,mW,ay⟩:=eE hs hk;have jy:=af tI;have wm:=af mZ;have tl:=af mW;have zN:=af ay;have QR:=af (mZ.from_ rfl (k:=v) hv);have Yu:Hd (dZ l):=h.lines l (Qaf hk);have uA:Hd (∀T W u,aq w W->T<=W.heap.size->w.heap.size<=T->ab (Mt M w T) W u [l]->_):=λT W u hb h2 h3 hu=>IA [l] (AU h hk) 0 l rfl v hv (Mt M w T) W (VK hM hb h2) (hG.tb.below hb) u hu;have CC:=af qq;have UU:=af Nz;have Xy:=af qbo;obtain⟨a,bQ,rfl,cV,lL,_⟩:=hs.open_;obtain⟨rfl,rfl⟩:=iB Yy;have CL:=(Qad.1 hk).1;have i0:(0:Int)<=(k:Int):=Qba _;have i1:(k:Int)<(ls.length:Int):=by omega
 clear Yy tI mZ ay mW;have bW:=af (Bx.dq w (vF false (xL none 0 0) (xL none 0 0)) (SP k v));clear RO Nn JA hs aL R3 qq Nz qbo;go_enter func125,ntmps125;go_upto_region 2 with fail;obtain⟨W,hW⟩:=bS ((w.alloc (vF false (xL none 0 0) (xL none 0 0))).alloc (SP k v));have aQ:=af (show Bx w [vF false (xL none 0 0) (xL none 0 0),SP k v] W by rw[hW];exact bW.o);unfold vF SP at hW;rw[<-hW];clear hW;have KG:=aQ.o.bF;have c1:=(ah (dr.o W aQ.o.1).1).2;have c1':=λo=>(ah (dr.o (W.alloc o) (aQ.o.alloc o).1).1).2;obtain⟨d0,d1⟩:=ah (aQ.o.bU rfl);have d0':=λo=>(ah ((aQ.o.alloc o).bU rfl)).1;have d1':=λo=>(ah ((aQ.o.alloc o).bU rfl)).2;have l0:=CC.o W aQ.o.1;have l0':=λo=>CC.o (W.alloc o) (aQ.o.alloc o).1;have l1:=CC.o W.drew aQ.o.1.drew;have l1':=λo=>CC.o (W.alloc o).drew (aQ.o.alloc o).1.drew;have l2':=λo=>CC.o (W.drew.alloc o) (aQ.o.1.drew.alloc (Qcg aQ.o.1.size bN) o);go_cut [8,9](λs8 s9 wx=>s8=xP W.heap.size/\s9=xB ob/\Hd (aq W wx/\di wx W (vF ob (xL KU KV KW) (xL YU YV YW))));case first=>
  go_region_law fail;all_goals(go_wp2;go_meet)
  all_goals refine⟨rfl,rfl,af ⟨?_,?_⟩⟩
  all_goals first
   |exact bM.drew
   |exact(Qbg _ W).drew.alloc bN _
   |exact Qbh W _
 case rest=>
  obtain⟨rfl,rfl,HX⟩:=hcut;clear c1 c1' d0 d1 d0' d1' l0 l0' l1 l1' l2';have bO:=af (aQ.o.below HX.o.1);obtain⟨x0,x1,x2⟩:=aD HX.o.2;obtain⟨r0,r1,r2⟩:=aD (bO.o.bG rfl);obtain⟨f0,f1⟩:=mV (bO.o.bG rfl);have f2:=ag (bO.o.bG rfl) 2;cases ob;rotate_left
  .go_wp2_with fail;refine Qae (v:=NK (xL KU KV KW) (xL YU YV YW)) (by simp[results,results125,go_sem,r0,r1,r2,NK]) rfl ?_;have hb:=nD (a0:=xB true) (a1:=xL KU KV KW) (a2:=xL YU YV YW) bO.o.1 (Qab w.heap.size);exact⟨⟨_,_,_,_,rfl,(UU.o (by first|trivial|rfl)).1.below hb,(UU.o (by first|trivial|rfl)).2.below hb⟩,jN.o.ev (Ev.ao hb) (hb.block _ HP0.o) (hb.block _ YT.o),ai.ao hb⟩
  .clear x0 x1 x2 r0 r1 r2 f0 f1 f2;go_upto_region 6 with fail;obtain⟨W4,j8⟩:=bS (wc.alloc (vF false (xL none 0 0) (xL none 0 0)));have dI:=af (show Bx w [vF false (xL none 0 0) (xL none 0 0),SP k v] W4 by rw[j8];exact bO.o.alloc _);have Xt:=af (show di W4 wc (vF false (xL none 0 0) (xL none 0 0))by rw[j8];exact Qbh wc _);have hz4:W4.heap.size=wc.heap.size+1:=by rw[j8];simp
   have yK:w.heap.size+2<=wc.heap.size:=bO.o.bF;unfold vF at j8;rw[<-j8];clear j8 HX;generalize hVV:wc.heap.size=V at*;have Xt:=af (show bR W4 V (vF false (xL none 0 0) (xL none 0 0))by first|exact Xt.o|(rw[<-hVV];exact Xt.o));clear hVV;have c0:=(ah (dr.o W4 dI.o.1).1).1;obtain⟨q0,q1,q2⟩:=zN.o W4 dI.o.1;have q0':=λo=>(zN.o (W4.alloc o) (dI.o.alloc o).1).1;have q1':=λo=>(zN.o (W4.alloc o) (dI.o.alloc o).1).2.1;have q2':=λo=>(zN.o (W4.alloc o) (dI.o.alloc o).1).2.2;have c0':=λo=>(ah (dr.o (W4.alloc o) (dI.o.alloc o).1).1).1;go_upto_region 8 with fail;clear q0' q1' q2' c0' q0 q1 q2 c0;obtain⟨W7,vy⟩:=bS (W4.alloc (cI l.first.name (xL fa l.first.fields.length fc) (xL ca l.changes.length cc)));have pJ:=af (show Bx w [vF false (xL none 0 0) (xL none 0 0),SP k v] W7 by rw[vy];exact dI.o.alloc _);have HV7:=af (show bR W7 V (vF false (xL none 0 0) (xL none 0 0))by rw[vy];exact(bM.block V (by omega)).trans Xt.o);have HL7:=af (show bR W7 (V+1) (cI l.first.name (xL fa l.first.fields.length fc) (xL ca l.changes.length cc))by rw[vy,<-hz4];exact Qbh W4 _);have hz7:W7.heap.size=V+2:=by rw[vy];simp[hz4]
   unfold cI at vy;rw[<-vy];clear vy;obtain⟨y0,y1,y2⟩:=aD HL7.o;have Ur:Hd (∀t,ab (Mt M w (V+2)) (W7.alloc (xK #[xS l.first.name,xL fa l.first.fields.length fc,xL ca l.changes.length cc] t)) (xL (some ⟨V+2,0,none⟩) 1 1) [l]):=λt=>by
    have hb:aq w (W7.alloc (xK #[xS l.first.name,xL fa l.first.fields.length fc,xL ca l.changes.length cc] t)):=(pJ.o.alloc _).1;refine row_one (t:=t) (by rw[<-hz7];exact Qbh W7 _) (λh=> ?_) (jy.o.ev (IE _ hb)) (wm.o.ev (IE _ hb)) tl.o;rcases h with h|h
    .have:=lM.o _ h;omega
    .omega
   have HA7:Hd (∀o,ab (Mt M w (V+2)) (W7.alloc o) (xL (some ⟨V+2,0,none⟩) 1 1) [l]->_):=λo hu=>uA.o (V+2) (W7.alloc o) _ (pJ.o.alloc o).1 (by simp[hz7]) (by omega) hu;go_wp2_with fail;refine(HA7.o _ (Ur.o _)).mono ?_;rintro e w8⟨_,rfl,⟨fv,rfl,bI⟩,Rc⟩;obtain⟨ga,gc,rfl,_⟩:=bI.open_;have TS:aq W7 w8:=bM.trans (Rc.mono (by simp));have HB8:=af (pJ.o.below (TS.mono bN));have HV8:=af ((TS.block V (by omega)).trans HV7.o);have HL8:=af ((TS.block (V+1) (by omega)).trans HL7.o);have YO:=af bI;have hz8:V+3<=w8.heap.size:=by have:=Rc.size;simp[hz7]at this;omega
   clear Rc bI TS y0 y1 y2;have v0:=λo=>ag ((((Qbg _ w8).alloc bN o).block V (by omega)).trans HV8.o) 0;have v1:=λo=>ag ((((Qbg _ w8).alloc bN o).block V (by omega)).trans HV8.o) 1;have v2:=λo=>aD ((((Qbg _ w8).alloc bN o).block V (by omega)).trans HV8.o);have hVl:V<w8.heap.size:=by omega
   have qhs:V+1<w8.heap.size:=by omega
   go_upto_region 11 with fail;clear v0 v1 v2;obtain⟨FG,JB⟩:=bS ((w8.setCell ⟨V,0,none⟩ (xB true)).alloc (cU l.first.name (xL ga (aI l v).fields.length gc)));have hO8:ai (λi=>i=V) w8 FG:=by rw[JB];exact((ai.refl (λi=>i=V) w8).setCell (.inl rfl) _).alloc _
   have qbp:FG.heap.size=w8.heap.size+1:=by rw[JB];simp
   have zX:Hd (Bx w [vF false (xL none 0 0) (xL none 0 0),SP k v] FG):=HB8.o.only hO8 (by rintro i rfl;simp;omega);have TT:=af (show bR FG V (vF true (xL none 0 0) (xL none 0 0))by rw[JB];exact(((Qbg _ (w8.setCell ⟨V,0,none⟩ (xB true))).alloc bN _).block V (by simp;omega)).trans (Qca w8 V 0 _ _ _ HV8.o));have qer:Hd (bR FG (V+1) (cI l.first.name (xL fa l.first.fields.length fc) (xL ca l.changes.length cc))):=hO8.at_ HL8.o (by omega);have TP:=af (show di FG w8 (cU l.first.name (xL ga (aI l v).fields.length gc))by
    rw[JB];have:=Qbh (w8.setCell ⟨V,0,none⟩ (xB true)) (cU l.first.name (xL ga (aI l v).fields.length gc));simpa using this);have Xz:Hd (ab (Mt M w (V+2)) FG (xL ga (aI l v).fields.length gc) (aI l v).fields):=YO.o.ev ⟨hO8.mono (λi hi=> .inr ⟨by omega,by omega⟩),λj hj=> .inl hj⟩;unfold cU at JB;rw[<-JB];clear JB hO8;generalize hCC:w8.heap.size=C at*;have TP:=af (show bR FG C (cU l.first.name (xL ga (aI l v).fields.length gc))by first|exact TP.o|(rw[<-hCC];exact TP.o));clear hCC;obtain⟨y0,y1⟩:=ah TP.o;have v0:=λo=>ag ((((Qbg _ FG).alloc bN o).block V (by omega)).trans TT.o) 0;have v1:=λo=>ag ((((Qbg _ FG).alloc bN o).block V (by omega)).trans TT.o) 1;have v2:=λo=>aD ((((Qbg _ FG).alloc bN o).block V (by omega)).trans TT.o);have qht:V<FG.heap.size:=by omega
   go_upto_region 12 with fail;clear v0 v1 v2 y0 y1;obtain⟨CF,NA⟩:=bS ((FG.setCell ⟨V,1,none⟩ (xL (some ⟨C+1,0,none⟩) 1 1)).alloc (xK #[xS l.first.name,xL ga (aI l v).fields.length gc,xL none 0 0] 72));have Re:ai (λi=>i=V) FG CF:=by rw[NA];exact((ai.refl (λi=>i=V) FG).setCell (.inl rfl) _).alloc _
   have qbq:CF.heap.size=C+2:=by rw[NA];simp[qbp]
   have XA:Hd (Bx w [vF false (xL none 0 0) (xL none 0 0),SP k v] CF):=zX.o.only Re (by rintro i rfl;simp;omega);have XB:=af (show bR CF V (vF true (xL (some ⟨C+1,0,none⟩) 1 1) (xL none 0 0))by rw[NA];exact(((Qbg _ (FG.setCell ⟨V,1,none⟩ (xL (some ⟨C+1,0,none⟩) 1 1))).alloc bN _).block V (by simp;omega)).trans (Qca FG V 1 _ _ _ TT.o));have qbr:Hd (bR CF (V+1) (cI l.first.name (xL fa l.first.fields.length fc) (xL ca l.changes.length cc))):=Re.at_ qer.o (by omega);have XC:Hd (bR CF C (cU l.first.name (xL ga (aI l v).fields.length gc))):=Re.at_ TP.o (by omega);have qes:Hd (ab (Mt M w (V+2)) CF (xL ga (aI l v).fields.length gc) (aI l v).fields):=Xz.o.ev ⟨Re.mono (λi hi=> .inr ⟨by omega,by omega⟩),λj hj=> .inl hj⟩;have XD:=af (show bR CF (C+1) (xK #[xS l.first.name,xL ga (aI l v).fields.length gc,xL none 0 0] 72)by
    rw[NA];have:=Qbh (FG.setCell ⟨V,1,none⟩ (xL (some ⟨C+1,0,none⟩) 1 1)) (xK #[xS l.first.name,xL ga (aI l v).fields.length gc,xL none 0 0] 72);simpa [qbp]using this);rw[<-NA];clear NA Re;have qhu:V<CF.heap.size:=by omega
   obtain⟨y0,y1⟩:=ah XC.o;have y0':=λo=>(ah ((((Qbg _ CF).alloc bN o).block C (by omega)).trans XC.o)).1;have y1':=λo=>(ah ((((Qbg _ CF).alloc bN o).block C (by omega)).trans XC.o)).2;have z2:=(aD qbr.o).2.2;have z2':=λo=>(aD ((((Qbg _ CF).alloc bN o).block (V+1) (by omega)).trans qbr.o)).2.2;have v0:=λo=>ag ((((Qbg _ CF).alloc bN o).block V (by omega)).trans XB.o) 2;have v2:=λo=>aD ((((Qbg _ CF).alloc bN o).block V (by omega)).trans XB.o);obtain⟨_,_,ecc,Jq,hmc,_⟩:=wm.o.open_;cases ecc;have j0:(0:Int)<=(v:Int):=Qba _;have j1:(v:Int)<=(l.changes.length:Int):=by omega
   have j2:v<=cc:=by omega
   go_cut [](λwx=>∃ap cp,Hd (ab M w (xL ap (l.changes.length-v) cp) (l.changes.drop v))/\wx=((CF.alloc (xK #[xS l.first.name,xL ga (aI l v).fields.length gc,xL ap (l.changes.length-v) cp] 72)).setCell ⟨V,2,none⟩ (xL (some ⟨C+2,0,none⟩) 1 1)).drew);case first=>
    go_region_law fail;all_goals go_wp2_with fail
    all_goals go_meet
    all_goals
     have tH:=QR.o;rw[show au.size aC=8 from rfl]at tH;by_cases vN:cc=v
     .rw[if_pos vN,show cc-v=0 from by omega]at tH;first
       |exact⟨_,_,af tH,rfl⟩
       |(exfalso;omega)
       |(exfalso;simp_all;done)
     .rw[if_neg vN]at tH;first
       |exact⟨_,_,af tH,rfl⟩
       |(exfalso;omega)
       |(exfalso;simp_all;done)
   case rest=>
    obtain⟨ap,cp,KF,FB⟩:=hcut;clear v0 v2 y0 y1 y0' y1' z2 z2';have hX:ai (λi=>i=V) CF wc:=by rw[FB];exact(((ai.refl (λi=>i=V) CF).alloc _).setCell (.inl rfl) _).drewN 1
    have qhv:wc.heap.size=C+3:=by rw[FB];show((CF.alloc _).setCell _ _).heap.size=_;simp[qbq]
    have tx:Hd (Bx w [vF false (xL none 0 0) (xL none 0 0),SP k v] wc):=XA.o.only hX (by rintro i rfl;simp;omega);have XE:=af (show bR wc V (vF true (xL (some ⟨C+1,0,none⟩) 1 1) (xL (some ⟨C+2,0,none⟩) 1 1))by
     rw[FB];exact Qca _ V 2 _ _ _ ((bM.block V (by omega)).trans XB.o));have qet:=af (show bR wc (C+2) (xK #[xS l.first.name,xL ga (aI l v).fields.length gc,xL ap (l.changes.length-v) cp] 72)by
     rw[FB,<-qbq];exact(Qag _ _ _ _ (by simp;omega)).trans (Qbh CF _));have qbs:Hd (ab (Mt M w (V+2)) wc (xL ga (aI l v).fields.length gc) (aI l v).fields):=qes.o.ev ⟨hX.mono (λi hi=> .inr ⟨by omega,by omega⟩),λj hj=> .inl hj⟩;have qbt:Hd (ab (Mt M w (V+2)) wc (xL (some ⟨C+2,0,none⟩) 1 1) [ep l v]):=row_one (l:=ep l v) (t:=72) (by show bR wc (C+2) (xK #[xS (aI l v).name,_,_] 72);rw[Yu.o.name v];exact qet.o) (λh=>by
     rcases h with h|h
     .have:=lM.o _ h;omega
     .omega) qbs.o (by
     exact KF.o.ev (IE _ tx.o.1)) (by show(aI l v).name.size<=_;rw[Yu.o.name v];exact tl.o);have UW:Hd (ab (Mt M w (V+2)) wc (xL (some ⟨C+1,0,none⟩) 1 1) [jL l v]):=row_one (l:=jL l v) (t:=72) (by show bR wc (C+1) (xK #[xS (aI l v).name,_,_] 72);rw[Yu.o.name v];exact hX.at_ XD.o (by omega)) (λh=>by
     rcases h with h|h
     .have:=lM.o _ h;omega
     .omega) qbs.o (ab.nil _ _) (by show(aI l v).name.size<=_;rw[Yu.o.name v];exact tl.o);have hMP:bD ID wc b es clk:=(dr.o wc tx.o.1).2;obtain⟨wa,ea,ma,oa⟩:=bD.SJ ID underlying205 sQ B9 hMP ((k:Int),(v:Int)) (NK (.slice (some ⟨C+1,0,none⟩) 1 1) (.slice (some ⟨C+2,0,none⟩) 1 1)) (Xy.o (by first|trivial|rfl));obtain⟨wb,eb,mb,ob⟩:=bD.SJ (w:=wc.drew) ID underlying205 sQ B9 hMP ((k:Int),(v:Int)) (NK (.slice (some ⟨C+1,0,none⟩) 1 1) (.slice (some ⟨C+2,0,none⟩) 1 1)) (Xy.o (by first|trivial|rfl));have R4:=af (And.intro ma oa);have Cy:=af (And.intro mb (((ai.refl (λi=>i=b) wc).drewN 1).trans ob));unfold NK at ea eb;clear FB hX hMP ma mb oa ob;have g1:=(ah (dr.o wc tx.o.1).1).2;obtain⟨d0,d1⟩:=ah (tx.o.bU rfl);obtain⟨v0,v1,v2⟩:=aD XE.o;obtain⟨wr,XF⟩:=bS (wc);rw[<-XF]at R4 Cy tx XE qbt UW;have F7:=af XF;clear XF;go_upto_region 13 with fail;go_cut [](λwx=>Hd (bD ID wx b (es++[(((k:Int),(v:Int)),NK (xL (some ⟨C+1,0,none⟩) 1 1) (xL (some ⟨C+2,0,none⟩) 1 1),clk)]) (clk+1)/\ai (λi=>i=b) wr wx));case first=>
     go_region_law fail;all_goals go_wp2_with fail
     all_goals go_meet
     all_goals first|exact Cy|exact R4|trace_state
    case rest=>
     obtain⟨mp,ho⟩:=hcut.o;clear v0 v1 v2 d0 d1 g1 ea eb;have hMB:=YT.o;have lZ:aq w wr:=tx.o.1;have hO:ai (λi=>i=b) w wc:=(ai.ao lZ).trans ho;obtain⟨v0,v1,v2⟩:=aD (ho.at_ XE.o (by omega));have h0:=ho.at_ (tx.o.bG rfl) (by omega);obtain⟨r0,r1,r2⟩:=aD h0;obtain⟨f0,f1⟩:=mV h0;have f2:=ag h0 2;have HMP:=af mp;have HO:=af hO;have TU:=af ho;clear mp hO ho hcut h0;go_wp2_with fail;have oz:ai (λi=>i=w.heap.size) wc (((wc.setCell ⟨w.heap.size,0,none⟩ (xB true)).setCell ⟨w.heap.size,1,none⟩ (xL (some ⟨C+1,0,none⟩) 1 1)).setCell ⟨w.heap.size,2,none⟩ (xL (some ⟨C+2,0,none⟩) 1 1)):=(((ai.refl (λi=>i=w.heap.size) wc).setCell (.inl rfl) _).setCell (.inl rfl) _).setCell (.inl rfl) _;have ozw:ai (λi=>i=b) w (((wc.setCell ⟨w.heap.size,0,none⟩ (xB true)).setCell ⟨w.heap.size,1,none⟩ (xL (some ⟨C+1,0,none⟩) 1 1)).setCell ⟨w.heap.size,2,none⟩ (xL (some ⟨C+2,0,none⟩) 1 1)):=((HO.o.setCell (.inr bN) _).setCell (.inr bN) _).setCell (.inr bN) _;have hbM:=wh;have UX:=(UW.o.ev ⟨(TU.o.mono (T:=Mt M w (V+2)) (λi hi=> .inl (by subst hi;exact hbM))).trans (oz.mono (λi hi=> .inr (by omega))),λi hi=> .inl hi⟩).ev (Ev.dD (N:=M) _ λi hi=> .inl hi);have TV:=(qbt.o.ev ⟨(TU.o.mono (T:=Mt M w (V+2)) (λi hi=> .inl (by subst hi;exact hbM))).trans (oz.mono (λi hi=> .inr (by omega))),λi hi=> .inl hi⟩).ev (Ev.dD (N:=M) _ λi hi=> .inl hi);refine Qae (v:=NK (xL (some ⟨C+1,0,none⟩) 1 1) (xL (some ⟨C+2,0,none⟩) 1 1)) (by simp[results,results125,go_sem,r0,r1,r2,NK]) rfl ⟨⟨_,_,_,_,rfl,TV,UX⟩,?_,ozw⟩;refine⟨ozw.at_ jN.o.cell yW,jN.o.lines.ev ⟨ozw.mono (λi hi=>by subst hi;exact hbM),λi hi=> .inl hi⟩,_,_,oz.at_ HMP.o (by omega),λx val hx=> ?_⟩;rw[uu _ (Xy.o (by first|trivial|rfl))]at hx;by_cases hxe:x=((k:Int),(v:Int))
     .rw[if_pos hxe]at hx;cases hx;exact⟨k,v,l,_,_,_,_,_,_,hxe,hk,hv,rfl,TV,UX⟩
     .rw[if_neg hxe]at hx;obtain⟨k',v',l',a1,a2,n1,c1,n2,c2,e1,e2,e3,e4,e6,e7⟩:=HES.o _ _ hx;exact⟨k',v',l',a1,a2,n1,c1,n2,c2,e1,e2,e3,e4,e6.ev ⟨ozw.mono (λi hi=>by subst hi;exact hbM),λi hi=> .inl hi⟩,e7.ev ⟨ozw.mono (λi hi=>by subst hi;exact hbM),λi hi=> .inl hi⟩⟩
def EN {l:aH}(hl:dZ l):dK [l]:=by
 refine⟨by simp,?_,?_⟩
 .intro x hx;rcases List.mem_singleton.1 hx with rfl;exact hl
 .intro i x hi;match i,hi with
  |0,hi=>simp at hi;subst hi;simp[dU,cj,idxOf]
  |i+1,hi=>simp at hi
def IF(ls:List aH)(h:dK ls)(k:Nat)(l:aH)(hk:ls[k]? =some l)(x:bE)(v:Nat)(many:Int)(hm:many<=100000)(hc:x.cls=k)(kZ:x.ver=v)(Gb:v<=l.changes.length)(hx:Hb many x)(hv:bh (aI l v).fields many x.aR)(M:aN)(w0 w:aj)(hM:Bd M w)(hG:Gd w0)(lZ:aq w0 w)(p b:Nat)(yW:p≠b)(wh:M b)(hb:w0.heap.size<=b)(sv vv:an)(hB:je ls M p b sv w)(dA:ab M w vv x.aR):
 xC 56 #[xP p, .agg #[xI x.id,xI x.cls,xI x.ver,vv]] w λe w'=>(∃us uv,e=xR (.tuple #[.agg #[xI x.id,xI k,xI l.changes.length,uv],xB true])/\jS (aI l v) (l.changes.drop v) many x.aR us/\ab M w' uv us)/\je ls M p b sv w'/\ai (λi=>i=b) w w':=by
 have uI:=h.lines l (Qaf hk);have tH:=uI.from_ v;have HVW:Hd (∀W,aq w W->w.heap.size+2<=W.heap.size->_):=λW aF h2=>Kj ls h k l hk v Gb (ew M w 2) W (dN hM h2) ((hG.below lZ).below aF) p b yW (.inl wh) sv (hB.ev (dF aF) (aF.block _ (Qaa.1 hB.cell).1) (aF.block _ (hM b wh)));have XG:Hd (∀W u,aq w0 W->w.heap.size+2<=W.heap.size->ab (ew M w 2) W u [ep l v]->ab (ew M w 2) W vv x.aR->xC 126 #[.agg #[u], .agg #[xI x.id,xI 0,xI 0,vv]] W (cg W λr w'=>∃us uv,r= .tuple #[.agg #[xI x.id,xI 0,xI ((l.changes.length-v:Nat):Int),uv],xI 0]/\jS (aI l v) (l.changes.drop v) many x.aR us/\ab (ew M w 2) w' uv us)):=λW u h1 h2 h3 h4=>by
  have hh:=IC [ep l v] (EN tH) 0 (ep l v) rfl ⟨x.id,0,0,x.aR⟩ 0 many hm rfl rfl (Qbf _) ⟨hx.id1,hx.id2,Int.le_refl _,by show(0:Int)<8;omega,Int.le_refl _,by show(0:Int)<=12;omega,hx.aR,hx.len⟩ (by rw[oU];exact hv) (ew M w 2) W (dN hM h2) (hG.below h1) u vv h3 h4;rw[oU,show v+0=v from rfl,show(ep l v).changes.drop 0=l.changes.drop v from rfl,show((ep l v).changes.length:Int)=((l.changes.length-v:Nat):Int)from by simp[ep]]at hh;exact hh
 obtain⟨xi,xc,xv,xs⟩:=x;dsimp only at*;subst hc;subst kZ;obtain⟨va,vc,rfl,_⟩:=dA.open_;have zj:=af dA;have jN:=af hB;have tp:=af lZ;have KJ:=af hb;have YT:=af (hM b wh);have i0:(0:Int)<=(v:Int):=Qba _;have i1:(v:Int)<=(l.changes.length:Int):=by omega
 have i2:(l.changes.length:Int)<=12:=by have:=uI.len;omega
 have i3:IntKind.i64.wrap (((l.changes.length-v:Nat):Int)+(v:Int))=(l.changes.length:Int):=by
  rw[show((l.changes.length-v:Nat):Int)+(v:Int)=(l.changes.length:Int)from by omega];exact Qbe _ (by omega)
 have bW:=af (Bx.dq w (dV ⟨xi,(k:Int),(v:Int),xs⟩ (xL va xs.length vc)) (dV ⟨0,0,0,[]⟩ (xL none 0 0)));obtain⟨o0,o1,o2,o3⟩:=ae (bW.o.bG rfl);clear dA hB lZ hb h hG uI tH hx hv;go_enter func56,ntmps56;go_wp2_with fail;refine(HVW.o _ bW.o.1 bW.o.bF).mono ?_;rintro e w1⟨⟨KU,KV,KW,s2,rfl,j6,-⟩,yT,kg⟩;obtain⟨a2,c2,rfl,_⟩:=j6.open_;unfold NK;have hMB:=YT.o;have dO:w.heap.size+2<=w1.heap.size:=Qcg (by simp) kg.size;have Gh:=af yT;have gE:=af j6;have nZ:ai (λi=>i=b) w w1:=(ai.ao bW.o.1).trans kg;have rE:=af nZ;have aY:Hd (aq w0 w1):=aS tp.o tp.o.size nZ (λi hi=>by subst hi;exact KJ.o);have Ny:Hd (di w1 w (dV ⟨xi,(k:Int),(v:Int),xs⟩ (xL va xs.length vc))):=kg.at_ (bW.o.bG rfl) (by omega);have wm:Hd (bR w1 (w.heap.size+1) (dV ⟨0,0,0,[]⟩ (xL none 0 0))):=kg.at_ (bW.o.bU rfl) (by omega);have XH:Hd (ab (ew M w 2) w1 (xL va xs.length vc) xs):=(zj.o.ev (dF bW.o.1)).ev ⟨kg.mono (λi hi=> .inl (by subst hi;exact wh)),λi hi=> .inl hi⟩;clear o0 o1 o2 o3 yT j6 kg nZ;have bC:∀o i(h:i<w1.heap.size),(w1.alloc o).heap[i]? =w1.heap[i]? :=λo i h=>((Qbg _ w1).alloc bN o).block i h;have x0:=λo=>ae ((bC o w.heap.size (by omega)).trans Ny.o);have f1:=λo=>ag ((bC o w.heap.size (by omega)).trans Ny.o) 1;have f2:=λo=>ag ((bC o w.heap.size (by omega)).trans Ny.o) 2;have bu:w.heap.size<w1.heap.size:=by omega
 clear bC;go_upto_region 4 with fail;go_quiet(fail);go_upto_region 6 with fail;clear x0 f1 f2;obtain⟨W6,nY⟩:=bS ((((w1.alloc (vF true (xL KU KV KW) (xL a2 1 c2))).drewN nq).setCell ⟨w.heap.size,1,none⟩ (xI 0)).setCell ⟨w.heap.size,2,none⟩ (xI 0));have O6:ai (λi=>i=w.heap.size) w1 W6:=by rw[nY];exact((((ai.refl (λi=>i=w.heap.size) w1).alloc _).drewN nq).setCell (.inl rfl) _).setCell (.inl rfl) _
 have hz6:W6.heap.size=w1.heap.size+1:=by
  rw[nY];have:((w1.alloc (vF true (xL KU KV KW) (xL a2 1 c2))).drewN nq).heap.size=w1.heap.size+1:=by show(w1.alloc _).heap.size=_;simp
  simp[this]
 have HD0:=af (show di W6 w (dV ⟨xi,0,0,xs⟩ (xL va xs.length vc))by
  rw[nY];exact Qca _ _ 2 _ _ _ (Qca _ _ 1 _ _ _ ((bM.block w.heap.size (by omega)).trans Ny.o)));have TR:=af (show di W6 w1 (vF true (xL KU KV KW) (xL a2 1 c2))by
  rw[nY];exact(Qag _ _ _ _ (by simp;omega)).trans ((Qag _ _ _ _ (by simp;omega)).trans (Qbh w1 _)));have HD1:Hd (bR W6 (w.heap.size+1) (dV ⟨0,0,0,[]⟩ (xL none 0 0))):=O6.at_ wm.o (by omega);have qt:Hd (aq w0 W6):=aS aY.o aY.o.size O6 (λi hi=>by subst hi;exact tp.o.size);have e6:Ev (ew M w 2) w1 (ew M w 2) W6:=⟨O6.mono (λi hi=> .inr ⟨by omega,by omega⟩),λi hi=> .inl hi⟩;have vw:=af (gE.o.ev e6);have XI:=af (XH.o.ev e6);have RE:=af O6;have br:=af (XG.o W6 _ qt.o (by omega) vw.o XI.o);unfold vF at nY;rw[<-nY];clear nY O6 e6;obtain⟨x0,x1,x2,x3⟩:=ae HD0.o;obtain⟨y0,y1,y2⟩:=aD TR.o;go_wp2_with fail;refine(br.o).mono ?_;rintro e w7⟨_,rfl,⟨us,uv,rfl,Rb,bI⟩,iJ⟩;obtain⟨ya,yc,rfl,_⟩:=bI.open_;have Xx:=af Rb;have gp:=af bI;have pJ:=af iJ;have hz7:w1.heap.size+1<=w7.heap.size:=by have:=iJ.size;omega
 have HE1:=af ((iJ.block _ (by omega)).trans HD1.o);clear x0 x1 x2 x3 y0 y1 y2 Rb bI iJ;have Ct:w.heap.size+1<w7.heap.size:=by omega
 go_upto_region 11 with fail;obtain⟨WA,hWA⟩:=bS (w7.alloc (dV ⟨xi,(k:Int),(l.changes.length:Int),us⟩ (xL ya us.length yc)));have hba:aq w7 WA:=by rw[hWA];exact bM
 have HXA:=af (show di WA w7 (dV ⟨xi,(k:Int),(l.changes.length:Int),us⟩ (xL ya us.length yc))by rw[hWA];exact Qbh w7 _);have hEA:=(hba.block _ Ct).trans HE1.o;have HBA:=af hba;unfold dV at hWA;rw[<-hWA];clear hWA hba;obtain⟨x0,x1,x2,x3⟩:=ae HXA.o;obtain⟨r0,r1,r2,r3⟩:=ae hEA;obtain⟨g0,g1,g2,g3⟩:=iK hEA;clear hEA;go_wp2_with fail;have hp:=(Qaa.1 jN.o.cell).1;have o0:ai (λi=>i=w.heap.size\/i=w.heap.size+1) w1 WA:=(RE.o.mono (λi hi=> .inl hi)).trans (ai.ao (pJ.o.trans (HBA.o.mono pJ.o.size)));have o1:=(((o0.setCell (p:=⟨w.heap.size+1,0,none⟩) (.inl (.inr rfl)) (xI xi)).setCell (p:=⟨w.heap.size+1,1,none⟩) (.inl (.inr rfl)) (xI k)).setCell (p:=⟨w.heap.size+1,2,none⟩) (.inl (.inr rfl)) (xI l.changes.length)).setCell (p:=⟨w.heap.size+1,3,none⟩) (.inl (.inr rfl)) (xL ya us.length yc);have o7:=((((ai.ao (S:=ew M w 2) HBA.o).setCell (p:=⟨w.heap.size+1,0,none⟩) (.inl (.inr ⟨by simp,by simp⟩)) (xI xi)).setCell (p:=⟨w.heap.size+1,1,none⟩) (.inl (.inr ⟨by simp,by simp⟩)) (xI k)).setCell (p:=⟨w.heap.size+1,2,none⟩) (.inl (.inr ⟨by simp,by simp⟩)) (xI l.changes.length)).setCell (p:=⟨w.heap.size+1,3,none⟩) (.inl (.inr ⟨by simp,by simp⟩)) (xL ya us.length yc);refine Qae (v:= .tuple #[.agg #[xI xi,xI k,xI l.changes.length,xL ya us.length yc],xB true]) (by simp[results,results56,go_sem,r0,r1,r2,r3]) rfl ⟨⟨_,_,rfl,Xx.o,?_⟩,?_,?_⟩
 .exact(gp.o.ev ⟨o7,λi hi=> .inl hi⟩).ev (Ev.dD _ λi hi=> .inl hi)
 .exact(Gh.o.ev ⟨o1.mono (λi hi=> .inr (by omega)),λi hi=> .inl hi⟩ (o1.block p (by omega) (by omega)) (o1.block b (by omega) (by omega))).ev (Ev.dD _ λi hi=> .inl hi) rfl rfl
 .exact rE.o.cO o1 (λi hi bu=>by omega)
def VN(hj:aq W2 W)(hb:Below (W.alloc o).heap.size (W.alloc o) w'):w'.heap[W.heap.size]? =some o/\W2.heap.size<=W.heap.size:=⟨(hb.block _ (by simp)).trans (Qbh W o),hj.size⟩
def ZE(hj:aq W2 W)(hb:Below (W.alloc o).drew.heap.size (W.alloc o).drew w'):w'.heap[W.heap.size]? =some o/\W2.heap.size<=W.heap.size:=⟨(hb.block _ (by show W.heap.size<(W.alloc o).heap.size;simp)).trans (Qbh W o),hj.size⟩
def ZF(hj:aq W2 W)(hb:Below (W.drew.alloc o).heap.size (W.drew.alloc o) w'):w'.heap[W.heap.size]? =some o/\W2.heap.size<=W.heap.size:=⟨(hb.block _ (by show W.heap.size<(W.alloc o).heap.size;simp)).trans (Qbh W.drew o),hj.size⟩
def zdB(h:bR W K o/\W2.heap.size<=K)(hb:aq W w'):w'.heap[K]? =some o/\W2.heap.size<=K:=⟨(hb.block K (Qaa.1 h.1).1).trans h.1,h.2⟩
def VO(hb:Below (W.alloc o).heap.size (W.alloc o) w'):aq W w':=((Qbg _ W).alloc bN o).trans (hb.mono (by simp))
def ZG(hb:Below (W.alloc o).drew.heap.size (W.alloc o).drew w'):aq W w':=((Qbg _ W).alloc bN o).drew.trans (hb.mono (by show W.heap.size<=(W.alloc o).heap.size;simp))
def ZH(hb:Below (W.drew.alloc o).heap.size (W.drew.alloc o) w'):aq W w':=((Qbg _ W).drew.alloc bN o).trans (hb.mono (by show W.heap.size<=(W.alloc o).heap.size;simp))
def VP(hb:Below W.drew.heap.size W.drew w'):aq W w':=(Qbg _ W).drew.trans hb
def VQ(M:aN)(w W2:aj)(nm:aM)(fs:List az)(K:Nat)(ya:fA)(yc:Nat)(wx:aj):Prop:=
 wx.heap[K]? =some (cU nm (xL ya fs.length yc))/\ab (ew M w 2) wx (xL ya fs.length yc) fs/\aq W2 wx/\W2.heap.size<=K
def VR {fs:List az}(hb:aq W2 w3)(hs:ab (ew M w 2) w3 (xL ya fs.length yc) fs):
 VQ M w W2 nm fs w3.heap.size ya yc (w3.alloc (xK #[xS nm,xL ya fs.length yc] 47)):=
 ⟨Qbh w3 _,hs.ev ((Ev.refl _ _).alloc _),hb.alloc hb.size _,hb.size⟩
def VS {fs:List az}(hb:aq W2 w3)(hs:ab (λi=>ew M w 2 i\/i=K) w3 (xL ya fs.length yc) fs)(hz:bR w3 K (cU ⟨#[]⟩ (xL none 0 0))/\W2.heap.size<=K):
 VQ M w W2 nm fs K ya yc ((w3.setCell ⟨K,0,none⟩ (xS nm)).setCell ⟨K,1,none⟩ (xL ya fs.length yc)):=
 ⟨rX hz.1 _ _,(hs.ev (((Ev.refl _ _).setCell (.inl (.inr rfl)) _).setCell (.inl (.inr rfl)) _)).ev (Ev.dD _ λi hi=> .inl hi),(hb.setCell (p:=⟨K,0,none⟩) hz.2 _).setCell (p:=⟨K,1,none⟩) hz.2 _,hz.2⟩
def qc1 {P:aN}{w4:aj}{α:Type} [au α]{xs:List α}(h:bR w3 K o/\W2.heap.size<=K)(hb:aq w3 w4)(hs:ab (λi=>P i\/(W2.heap.size<=i/\i<w3.heap.size)) w4 v xs):(bR w4 K o/\W2.heap.size<=K)/\ab (λi=>P i\/i=K) w4 v xs:=
 ⟨zdB h hb,hs.ev (Ev.dD _ λi hi=>hi.imp_right λe=>by subst e;exact⟨h.2,(Qaa.1 h.1).1⟩)⟩
def qc2 {P:aN}{w4:aj}{α:Type} [au α]{xs:List α}(hj:aq W2 w3)(hb:Below (w3.alloc o).heap.size (w3.alloc o) w4)(hs:ab (λi=>P i\/(W2.heap.size<=i/\i<(w3.alloc o).heap.size)) w4 v xs):(di w4 w3 o/\W2.heap.size<=w3.heap.size)/\ab (λi=>P i\/i=w3.heap.size) w4 v xs:=
 ⟨VN hj hb,hs.ev (Ev.dD _ λi hi=>hi.imp_right λe=>by subst e;exact⟨hj.size,by simp⟩)⟩
def qc3 {w4:aj}(hj:aq W2 w3)(hb:Below (w3.alloc o).heap.size (w3.alloc o) w4):aq W2 w4:=hj.trans ((VO hb).mono hj.size)
def qc4 {w4:aj}(hj:aq W2 w3)(hb:aq w3 w4):aq W2 w4:=hj.trans (hb.mono hj.size)
def ER(l:aH)(h1:dK [l])(x:bE)(many:Int)(hm:many<=100000)(hc:x.cls=0)(kZ:x.ver=0)(hx:Hb many x)(hv:bh (aI l 0).fields many x.aR)(M:aN)(w:aj)(hM:Bd M w)(hG:Gd w)(sv vv:an)(hs:ab M w sv [l])(dA:ab M w vv x.aR):
 xC 150 #[.agg #[sv], .agg #[xI x.id,xI x.cls,xI x.ver,vv]] w (cr (xB true) w):=by
 have uI:=h1.lines l (by simp);have FW:=gG (w:=w) (λW hb=>p8 [l] h1 M W (hM.below hb) (hG.tb.below hb) sv (hs.below hb));have WS:=gG (w:=w) (λW hb=>DF x many hm hx M W (hM.below hb) vv (dA.below hb) (hG.tb.below hb));have HA:Hd (∀(N:aN)W,aq w W->(∀i,N i->M i\/w.heap.size<=i)->xC 186 #[.agg #[sv],xI 0] W (cg W λv w'=>∃u,v= .agg #[u]/\ab N w' u [l])):=λN W hb hN=>EM [l] 0 l rfl (by simp) N W sv (hs.ev ⟨ai.ao hb,hN⟩);have uA:Hd (∀(W2 W:aj)u,aq w W->w.heap.size+2<=W.heap.size->ab (λi=>ew M w 2 i\/W2.heap.size<=i) W u [l]->xC 139 #[.agg #[u],xI 0,xI 0] W (cg W λv w'=>∃jA,v= .tuple #[.agg #[xS l.first.name,jA],xI 0]/\ab (λi=>ew M w 2 i\/(W2.heap.size<=i/\i<W.heap.size)) w' jA (aI l 0).fields)):=λW2 W u hb h2 hu=>IA [l] h1 0 l rfl 0 (Qbf _) (λi=>ew M w 2 i\/(W2.heap.size<=i/\i<W.heap.size)) W (λi hi=>by
  rcases hi with(hi|hi)|hi
  .have:=hM i hi;have:=hb.size;omega
  .omega
  .exact hi.2) (hG.tb.below hb) u (hu.ev (Ev.dD _ λi hi=>hi.imp_right λe=>e.1));have qk:Hd (∀W fv,aq w W->ab (ew M w 2) W fv (aI l 0).fields->_):=λW fv hb hf=>hZ (aI l 0) (uI.kk 0).right (by rw[uI.name 0];obtain⟨_,_,_,_,_,_,_,_,_,_,_,h,_⟩:=eE hs (k:=0) rfl;exact h) many hm x.aR hv (ew M w 2) W fv vv hf (dA.ev (dF hb)) (hG.tb.below hb);have mW:=uI.name 0;obtain⟨a,bQ,rfl,cV,lL,_⟩:=hs.open_;obtain⟨va,vc,rfl,_⟩:=dA.open_;obtain⟨xi,xc,xv,xs⟩:=x;dsimp only at*;subst hc;subst kZ;rw[mW]at qk;have HM:=af hM;have bW:=af (Bx.dq w (fS (xL a [l].length bQ)) (dV ⟨xi,0,0,xs⟩ (xL va xs.length vc)));have c0:=one_cell (bW.o.bG rfl);obtain⟨o0,o1,o2,o3⟩:=ae (bW.o.bU rfl);simp only[Qcc,Qcd,Nat.zero_add]at*;go_enter func150,ntmps150;go_wp2_with fail;refine bY (FW.o _ bW.o.1) λw1 aF=> ?_;have aY:=af (bW.o.below aF);have c0:=one_cell (aY.o.bG rfl);obtain⟨o0,o1,o2,o3⟩:=ae (aY.o.bU rfl);go_wp2_with fail;refine bY (WS.o _ aY.o.1) λw2 bC=> ?_;have aQ:=af (aY.o.below bC);have c0:=one_cell (aQ.o.bG rfl);obtain⟨o0,o1,o2,o3⟩:=ae (aQ.o.bU rfl);go_upto_region 6 with fail;have dr:Hd (∀W,aq w2 W->ox W w 0 (xL a 1 bQ)/\zm W w 1 (xI 0)/\zm W w 2 (xI 0)):=λW hb=>by
  have h:=aQ.o.below hb;have h4:=ae (h.bU rfl);exact⟨one_cell (h.bG rfl),h4.2.1,h4.2.2.1⟩
 have fO:Hd (aq w w2):=aQ.o.1;have Bq:Hd (w.heap.size+2<=w2.heap.size):=aQ.o.bF;have HJ:Hd (aq w2 w2):=dQ;have zL:Hd (∀i,(ew M w 2 i\/w2.heap.size<=i)->M i\/w.heap.size<=i):=λi hi=>by
  have h1:=Bq.o;rcases hi with(hi|hi)|hi
  .exact .inl hi
  .right;omega
  .right;omega
 go_cut [7,8](λs7 s8 wx=>∃(K:Nat)(ya:fA)(yc:Nat),s7=xP K/\s8=xI 0/\Hd (VQ M w w2 l.first.name (aI l 0).fields K ya yc wx));case first=>
  go_region_held3(λw'=>w'.cell? ⟨w.heap.size,0,none⟩=some (xL a 1 bQ)/\w'.cell? ⟨w.heap.size+1,1,none⟩=some (xI 0)/\w'.cell? ⟨w.heap.size+1,2,none⟩=some (xI 0))
   (with_reducible first|exact dr.o _ rG.o|exact dr.o _ dE.o|exact dr.o _ dE.o.drew|exact dr.o _ HJ.o|exact dr.o _ HJ.o.drew|exact dr.o _ (dE.o.alloc dE.o.size _)|exact dr.o _ (HJ.o.alloc HJ.o.size _)|exact dr.o _ (HJ.o.alloc HJ.o.size _).drew|exact dr.o _ (HJ.o.drew.alloc HJ.o.size _)|exact dr.o _ (rG.o.alloc rG.o.size _)|exact dr.o _ ((rG.o.setCell UY.o.1.2 _).setCell UY.o.1.2 _)|fail)
   (first
     |(go_at_call 186;refine(HA.o (λi=>ew M w 2 i\/w2.heap.size<=i) _ (by with_reducible first|exact fO.o.drew|exact fO.o|exact fO.o.alloc fO.o.size _|exact(fO.o.alloc fO.o.size _).drew|exact fO.o.drew.alloc fO.o.size _) zL.o).mono ?_;rintro e w3⟨_,rfl,⟨u,rfl,hu⟩,bP⟩;obtain⟨a1,c1,rfl,_⟩:=hu.open_;have HU:Hd (ab (λi=>ew M w 2 i\/w2.heap.size<=i) w3 (xL a1 1 c1) [l]):=hu;try(with_reducible(have CB:=af (VN HJ.o bP)))
       try(with_reducible(have CB:=af (ZE HJ.o bP)))
       try(with_reducible(have CB:=af (ZF HJ.o bP)))
       have dE:Hd (aq w2 w3):=(by with_reducible first|exact af bP|exact af (VP bP)|exact af (VO bP)|exact af (ZG bP)|exact af (ZH bP));clear bP hu)
     |(go_at_call 139;first
       |(with_reducible refine(uA.o w2 _ _ (fO.o.trans (dE.o.mono fO.o.size)) (Qcg Bq.o dE.o.size) HU.o).mono ?_)
       |(with_reducible refine(uA.o w2 _ _ ((fO.o.trans (dE.o.mono fO.o.size)).alloc (Qcg fO.o.size dE.o.size) _) (Qcg (Qcg Bq.o dE.o.size) (by simp)) (HU.o.below bM)).mono ?_)
       |fail
       rintro e w4⟨_,rfl,⟨fv,rfl,hf⟩,eA⟩;obtain⟨ya,yc,rfl,-⟩:=hf.open_;have Ju:=af (ab.ev hf (Ev.dD (N:=ew M w 2) _ λi hi=> .inl hi));try(with_reducible(have UY:=af (qc1 CB.o eA hf)))
       try(with_reducible(have UY:=af (qc2 dE.o eA hf)))
       try(have g0:=ag UY.o.1.1 0)
       try(have g1:=ag UY.o.1.1 1)
       try(have hq:=ah UY.o.1.1)
       have rG:Hd (aq w2 w4):=(by with_reducible first|exact af (qc4 dE.o eA)|exact af (qc3 dE.o eA));clear eA hf)
     |fail);all_goals(go_wp2;go_meet)
  all_goals first
   |exact⟨_,_,_,rfl,rfl,af (VS rG.o UY.o.2 UY.o.1)⟩
   |exact⟨_,_,_,rfl,rfl,af (VR rG.o Ju.o)⟩
   |trace_state
 case rest=>
  obtain⟨K,ya,yc,rfl,rfl,HC⟩:=hcut;obtain⟨hC1,hC2,hC3,hC4⟩:=HC.o;have bO:=af (aQ.o.below hC3);obtain⟨d0,d1⟩:=ah hC1;obtain⟨o0,o1,o2,o3⟩:=ae (bO.o.bU rfl);have HF:=af hC2;go_wp2_with fail;refine bY (qk.o _ _ bO.o.1 HF.o) λw4 eA=> ?_;have dI:=af (bO.o.below eA);go_wp2;go_ret;exact⟨rfl,dI.o.1⟩
def IK {l:aH}(h:dZ l)(v:Nat):dZ (jL l v):=⟨h.kk v,by simp[jL],_, .nil _⟩
def IL(l:aH)(v:Nat):aI (jL l v) 0=aI l v:=rfl
def Mu(ls:List aH)(h:dK ls)(k:Nat)(l:aH)(hk:ls[k]? =some l)(x:bE)(v:Nat)(many:Int)(hm:many<=100000)(hc:x.cls=k)(kZ:x.ver=v)(Gb:v<=l.changes.length)(hx:Hb many x)(hv:bh (aI l v).fields many x.aR)(M:aN)(w0 w:aj)(hM:Bd M w)(hG:Gd w0)(lZ:aq w0 w)(p b:Nat)(yW:p≠b)(wh:M b)(hb:w0.heap.size<=b)(sv vv:an)(hB:je ls M p b sv w)(dA:ab M w vv x.aR):
 xC 82 #[xP p, .agg #[xI x.id,xI x.cls,xI x.ver,vv]] w λe w'=>e=xR (xB true)/\je ls M p b sv w'/\ai (λi=>i=b) w w':=by
 have uI:=h.lines l (Qaf hk);have HVW:Hd (∀W,aq w W->w.heap.size+1<=W.heap.size->_):=λW aF h2=>Kj ls h k l hk v Gb (ew M w 1) W (dN hM h2) ((hG.below lZ).below aF) p b yW (.inl wh) sv (hB.ev (dF aF) (aF.block _ (Qaa.1 hB.cell).1) (aF.block _ (hM b wh)));have XG:Hd (∀W u,aq w0 W->w.heap.size+1<=W.heap.size->ab (ew M w 1) W u [jL l v]->ab (ew M w 1) W vv x.aR->xC 150 #[.agg #[u], .agg #[xI x.id,xI 0,xI 0,vv]] W (cr (xB true) W)):=λW u h1 h2 h3 h4=>
  ER (jL l v) (EN (IK uI v)) ⟨x.id,0,0,x.aR⟩ many hm rfl rfl ⟨hx.id1,hx.id2,Int.le_refl _,by show(0:Int)<8;omega,Int.le_refl _,by show(0:Int)<=12;omega,hx.aR,hx.len⟩ (by rw[IL];exact hv) (ew M w 1) W (dN hM h2) (hG.below h1) u vv h3 h4;obtain⟨xi,xc,xv,xs⟩:=x;dsimp only at*;subst hc;subst kZ;obtain⟨va,vc,rfl,_⟩:=dA.open_;have zj:=af dA;have jN:=af hB;have tp:=af lZ;have KJ:=af hb;have YT:=af (hM b wh);have bW:=af (Bx.eD w (dV ⟨xi,(k:Int),(v:Int),xs⟩ (xL va xs.length vc)));obtain⟨o0,o1,o2,o3⟩:=ae (bW.o.bG rfl);clear dA hB lZ hb h hG uI hx hv;go_enter func82,ntmps82;go_wp2_with fail;refine(HVW.o _ bW.o.1 bW.o.bF).mono ?_;rintro e w1⟨⟨KU,KV,KW,s2,rfl,j6,fu⟩,yT,kg⟩;obtain⟨a2,c2,rfl,_⟩:=j6.open_;unfold NK;have hMB:=YT.o;have dO:w.heap.size+1<=w1.heap.size:=Qcg (by simp) kg.size;have Gh:=af yT;have qH:=af fu;have nZ:ai (λi=>i=b) w w1:=(ai.ao bW.o.1).trans kg;have rE:=af nZ;have aY:Hd (aq w0 w1):=aS tp.o tp.o.size nZ (λi hi=>by subst hi;exact KJ.o);have Ny:Hd (di w1 w (dV ⟨xi,(k:Int),(v:Int),xs⟩ (xL va xs.length vc))):=kg.at_ (bW.o.bG rfl) (by omega);have XH:Hd (ab (ew M w 1) w1 (xL va xs.length vc) xs):=(zj.o.ev (dF bW.o.1)).ev ⟨kg.mono (λi hi=> .inl (by subst hi;exact wh)),λi hi=> .inl hi⟩;clear o0 o1 o2 o3 yT j6 fu kg nZ;go_upto_region 2 with fail;obtain⟨W5,nM⟩:=bS (w1.alloc (vF true (xL KU KV KW) (xL a2 1 c2)));have jg:aq w1 W5:=by rw[nM];exact bM
 have Yz:Hd (di W5 w (dV ⟨xi,(k:Int),(v:Int),xs⟩ (xL va xs.length vc))):=(jg.block w.heap.size (by omega)).trans Ny.o;have Xq:=af (show di W5 w1 (vF true (xL KU KV KW) (xL a2 1 c2))by rw[nM];exact Qbh w1 _);have hz5:W5.heap.size=w1.heap.size+1:=by rw[nM];simp
 have Kx:Hd (ai (λi=>i=w.heap.size) w1 W5):=ai.ao jg;unfold vF at nM;rw[<-nM];clear nM jg;obtain⟨x0,x1,x2,x3⟩:=ae Yz.o;have f1:=ag Yz.o 1;have f2:=ag Yz.o 2;go_upto_region 3 with fail;clear x0 x1 x2 x3 f1 f2;obtain⟨W6,nY⟩:=bS ((W5.setCell ⟨w.heap.size,1,none⟩ (xI 0)).setCell ⟨w.heap.size,2,none⟩ (xI 0));have O6:ai (λi=>i=w.heap.size) w1 W6:=by rw[nY];exact(Kx.o.setCell (.inl rfl) _).setCell (.inl rfl) _
 have hz6:W6.heap.size=w1.heap.size+1:=by rw[nY];simp[hz5]
 have HD0:=af (show di W6 w (dV ⟨xi,0,0,xs⟩ (xL va xs.length vc))by
  rw[nY];exact Qca _ _ 2 _ _ _ (Qca _ _ 1 _ _ _ Yz.o));have TR:=af (show di W6 w1 (vF true (xL KU KV KW) (xL a2 1 c2))by
  rw[nY];exact(Qag _ _ _ _ (by simp;omega)).trans ((Qag _ _ _ _ (by simp;omega)).trans Xq.o));have qt:Hd (aq w0 W6):=aS aY.o aY.o.size O6 (λi hi=>by subst hi;exact tp.o.size);have e6:Ev (ew M w 1) w1 (ew M w 1) W6:=⟨O6.mono (λi hi=> .inr ⟨by omega,by omega⟩),λi hi=> .inl hi⟩;have vw:=af (qH.o.ev e6);have XI:=af (XH.o.ev e6);have RE:=af O6;have br:=af (XG.o W6 _ qt.o (by omega) vw.o XI.o);rw[<-nY];clear nY O6 e6;obtain⟨x0,x1,x2,x3⟩:=ae HD0.o;obtain⟨y0,y1,y2⟩:=aD TR.o;go_wp2_with fail;refine bY (br.o) λw7 iJ=> ?_;have pJ:=af iJ;clear x0 x1 x2 x3 y0 y1 y2 iJ;go_wp2_with fail;have hp:=(Qaa.1 jN.o.cell).1;have o1:ai (λi=>i=w.heap.size) w1 w7:=RE.o.trans (ai.ao pJ.o);go_ret;refine⟨rfl,?_,?_⟩
 .exact(Gh.o.ev ⟨o1.mono (λi hi=> .inr (by omega)),λi hi=> .inl hi⟩ (o1.block p (by omega) (by omega)) (o1.block b (by omega) (by omega))).ev (Ev.dD _ λi hi=> .inl hi) rfl rfl
 .exact rE.o.cO o1 (λi hi bu=>by omega)
