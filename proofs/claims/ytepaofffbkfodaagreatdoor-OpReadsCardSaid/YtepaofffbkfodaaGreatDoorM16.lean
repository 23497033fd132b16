/- A part of OpReads's proof; no condition. -/
import Derived.Test.YtepaofffbkfodaaGreatDoorM15
import Derived.Test.YtepaofffbkfodaaGreatDoorRows
set_option linter.all false
set_option maxHeartbeats 8000000
set_option maxRecDepth 100000
namespace Go.Proofs.YtepaofffbkfodaaGreatDoor
open Go.Proofs.Tryz
variable{w A w2 W w' w3:aj}{B k:Nat}{c:ax}{many:Int}{cs:List an}{M M':aN}{xs:List Int}{v:an}{e t:TypeId}
section
open Go.RowKit Go.Shelf
theorem Bx.only {B:aj}{os:List Obj}{S:aN}(h:Bx w os A)(ho:ai S A B)(hS:∀i,S i->w.heap.size+os.length<=i):Bx w os B:=by
 obtain⟨h1,h2,h3⟩:=h;refine⟨⟨ho.os.trans h1.os,ho.tape.trans h1.tape,ho.output.trans h1.output,Qcg h1.size ho.size,λi hi=>(ho.block i (by omega) (λhs=>by have:=hS i hs;omega)).trans (h1.block i hi)⟩,Qcg h2 ho.size,λi o hi=> ?_⟩;have hl:=(Qad.1 hi).1;exact ho.at_ (h3 i o hi) (λhs=>by have:=hS _ hs;omega)
def aS {S:aN}(h:Below B w w2)(hB:B<=w2.heap.size)(k:ai S w2 W)(hS:∀i,S i->B<=i):Below B w W:=
 ⟨k.os.trans h.os,k.tape.trans h.tape,k.output.trans h.output,Qcg h.size k.size,λi hi=>(k.block i (by omega) (λhs=>by have:=hS i hs;omega)).trans (h.block i hi)⟩
def NH(b:Bool):Obj:=xK #[xB b] 4
def dV(x:bE)(vv:an):Obj:=xK #[xI x.id,xI x.cls,xI x.ver,vv] 66
def FQ(vv:an):Obj:=xK #[vv] 42
structure Hb(many:Int)(x:bE):Prop where
 id1:1<=x.id
 id2:x.id<=100000
 c1:0<=x.cls
 c2:x.cls<8
 v1:0<=x.ver
 v2:x.ver<=12
 aR:∃fs,bh fs many x.aR
 len:x.aR.length<=8
def DF(x:bE)(many:Int)(hm:many<=100000)(hx:Hb many x)(M:aN)(w:aj)(hM:Bd M w)(vv:an)(dA:ab M w vv x.aR)(hT:Tb w):
 xC 184 #[.agg #[xI x.id,xI x.cls,xI x.ver,vv]] w (cr (xB true) w):=by
 have Tz:Hd (∀p W,aq w W->bR W p (FQ vv)->G9 prog 198 #[xP p] W xF 0 0 (xE x.aR (BQ M w)) (λi=>i=x.aR.length)):=λp W h1 h2=>DE x.aR M xF p w W h1 vv dA h2 (λ_ h=>h.elim);obtain⟨fs,cq⟩:=hx.aR;have HR:Hd (∀W(i:Nat)v u N,x.aR[i]? =some v->aq w W->ct N W u v->_):=λW i v u N hi hb hu=>by
  obtain⟨f,_,hf⟩:=eT cq v (Qaf hi);exact rY hf hm hu (hT.below hb)
 have Cz:Hd (∀W(i:Nat)v u,x.aR[i]? =some v->aq w W->ct M W u v->_):=λW i v u hi hb hu=>by
  obtain⟨f,_,hf⟩:=eT cq v (Qaf hi);exact OQ hf hm (hM.below hb) hu (hT.below hb)
 have e1:=hx.id1;have e2:=hx.id2;have e3:=hx.c1;have e4:=hx.c2;have e5:=hx.v1;have e6:=hx.v2;have e7:=hx.len;obtain⟨xi,xc,xv,xs⟩:=x;dsimp only at*;obtain⟨a,bQ,rfl,cV,lL,_⟩:=dA.open_;generalize hn:xs.length=n at*;have eF:=af hn;clear hn;have e8:(n:Int)<=8:=by omega
 clear dA cq hx hM hT;refine callsIn_wide.1 (callsIn_of_wp_marks (n:=0) func184 rfl trivial (wpIn_wide.2 ?_) rfl);simp only[ntmps184,List.size_toArray,Qcc,Qcd,Nat.reduceAdd,Nat.reduceSub,Array.replicate_succ,Array.replicate_zero,List.push_toArray,List.append_toArray,List.nil_append,List.cons_append];go_wp2_with fail;refine wp_scope_straight ?_;go_wp2_with fail;refine wp_label ?_;simp only[Exit.then];go_wp2_with fail;refine cT (JZ _ _ _ _) ?_;go_wp2_with fail;obtain⟨w2,nK⟩:=bS (((w.alloc (dV ⟨xi,xc,xv,xs⟩ (xL a n bQ))).alloc (NH true)).alloc (FQ (xL a n bQ)));have aQ:=af (show Bx w [dV ⟨xi,xc,xv,xs⟩ (xL a n bQ),NH true,FQ (xL a n bQ)] w2 by rw[nK];exact Bx.gO w _ _ _);have er:w2.heap.size=w.heap.size+3:=by rw[nK];simp
 unfold dV NH FQ at nK;rw[<-nK];clear nK;have yQ:=af (Tz.o _ w2 aQ.o.1 (aQ.o.fR rfl));refine wpIn_wide.1 (pV rfl (enters_of func198 (by kernel_rfl) rfl) xF 0 0 (xE xs (BQ M w)) (λi=>i=n) yQ.o (λi args i' W h=>by obtain⟨_,v,u,_,rfl,_⟩:=h;rfl) (λi hi=>hi.elim)
  (λ_ W=>Bx w [dV ⟨xi,xc,xv,xs⟩ (xL a n bQ),NH true,FQ (xL a n bQ)] W) (λ_ _=>False) (λi A B h ho=>h.only ho (λj hj=>by have:=hj.1;simp;omega)) (λc A B h _=>h) (aQ.o) ?hround ?hdone ?hstop);case hstop=>intro c W h;exact h.elim
 case hround=>
  intro l i args i' W hI Nf hsz;obtain⟨rfl,v,u,hv,rfl,hu⟩:=Nf;have HI:=af hI;have HV:=af hv;have HU:=af hu;obtain⟨vk,vn,vs,vl⟩:=v;obtain⟨va,vc,rfl,_⟩:=dd hu;clear hI hv hu;gi_wp2_with(rw[Oper.semAt_eq _ _ _ (λc h=>by cases h)];go_simp;try go_bits);refine⟨(ai.refl _ W).alloc _,λW2 nZ KG=> ?_⟩;have rE:Hd (ai (BQ M w) W W2):=((ai.refl _ W).alloc _).trans (nZ.mono λj hj=> .inr (by have:j=w2.heap.size+1:=hj;omega));have me:Hd (Bx w [dV ⟨xi,xc,xv,xs⟩ (xL a n bQ),NH true,FQ (xL a n bQ)] W2):=(HI.o.alloc _).only nZ (λj hj=>by have:j=w2.heap.size+1:=hj;simp;omega);have HU2:Hd (ct (BQ M w) W2 (.agg #[xI vk,xI vn,xS vs,xL va vl.length vc]) (aA.mk vk vn vs vl)):=HU.o.ev ⟨rE.o,λj hj=> .inl hj⟩;have Q0:=nZ.at_ (Qbh W (eN vk vn vs (xL va vl.length vc))) (by show¬W.heap.size=w2.heap.size+1;omega);obtain⟨q0,q1,q2,q3⟩:=ae Q0;have HPC:=af Q0;clear Q0 nZ rE;gi_wp2_with(rw[Oper.semAt_eq _ _ _ (λc h=>by cases h)];go_simp;try go_bits);refine⟨trivial,rfl,(CallsIn.inRound l (callsIn_wide.2 (HR.o W2 i _ _ _ HV.o me.o.1 HU2.o))).mono ?_⟩;rintro e w3⟨rfl,bP⟩;have tq:=af (me.o.below bP);have HU3:=af (HU2.o.below bP);have uJ:=af (ai.ao (S:=NG xF w2 0) bP);have yK:=bP.size;obtain⟨p0,p1,p2,p3⟩:=ae ((bP.block _ (Qaa.1 HPC.o).1).trans HPC.o);have KM:=af (Cz.o w3 i _ _ HV.o tq.o.1 (HU3.o.ev (Ev.dD w3 λj hj=> .inl hj)));clear bP q0 q1 q2 q3;gi_wp2_with(rw[Oper.semAt_eq _ _ _ (λc h=>by cases h)];go_simp;try go_bits);refine⟨trivial,rfl,(CallsIn.inRound l (callsIn_wide.2 KM.o)).mono ?_⟩;rintro e w4⟨rfl,eA⟩;have HI4:=af (tq.o.below eA);have UH:=af (uJ.o.trans (ai.ao eA));clear eA;gi_wp2_with(rw[Oper.semAt_eq _ _ _ (λc h=>by cases h)];go_simp;try go_bits);exact⟨UH.o,HI4.o⟩
 case hdone=>
  intro i W hE hI hD;have HI:=af hI;have HD:=af hD;clear hI hD;have b0:zm W w 0 (xB true):=one_cell (HI.o.bU rfl);go_wp2_with fail;rw[Exit.noGoto_ret];refine⟨by simp, .inl ⟨_,_,rfl,run_takeDeferred HD.o,?_⟩⟩;refine⟨xB true,by simp[results,results184,go_sem],rfl,?_⟩;exact aS HI.o.1 HI.o.1.size ((ai.refl (λj=>j=w2.heap.size) W).putObj (.inl rfl) _) (λj hj=>by have:j=w2.heap.size:=hj;omega)
end
section
open Go.RowKit
def DG(h:aP c=true):∀f∈c.fields,aG f.type=true:=by
 intro f hf;obtain⟨j,hj⟩:=List.getElem?_of_mem hf;have:=((bo c).1 h).2.2 j f (Qad.1 hj).1 hj;simp only[bH,Qce]at this;exact this.1.1.2
def uh(x:jF)(vv:an):Obj:=xK #[xI x.cls,xI x.ver,vv,xI x.skip] 81
def DH(ls:List aH)(h:dK ls)(h1:0<ls.length)(x:jF)(hx:I6 x.cls/\I6 x.ver/\∀y∈x.aR,I6 y)(id many:Int)(rF:many<=1000)(M:aN)(w:aj)(hM:Bd M w)(lv vv:an)(hs:ab M w lv ls)(hv:ab (α:=Int) M w vv x.aR):
 xG 17 #[.agg #[lv],xI id, .agg #[xI x.cls,xI x.ver,vv,xI x.skip],xI many] w λu w'=>∃(k v:Nat)(l:aH)(vs:List aA)(uv:an),u= .agg #[xI id,xI (k:Int),xI (v:Int),uv]/\iS ls many ⟨id,(k:Int),(v:Int),vs⟩ k v l/\ab M w' uv vs:=by
 have h4:=h.len;have hk:=cM x.cls ls.length h1;obtain⟨l,hl⟩:=eB ls (aJ x.cls ls.length) hk;have uI:=h.lines l (Qaf hl);have hc5:=uI.len;have hvr:=cM x.ver (l.changes.length+1) (by omega);have Nh:Hd (∀W,xC 20 #[xI x.cls,xI (ls.length:Int)] W (ji (xI (aJ x.cls ls.length:Int)) W)):=λW=>by
  have h:=kO x.cls (ls.length:Int) W hx.1 (by omega) (by omega);simpa using h
 have Wv:Hd (∀W,xC 20 #[xI x.ver,xI ((l.changes.length:Int)+1)] W (ji (xI (aJ x.ver (l.changes.length+1):Int)) W)):=λW=>by
  have h:=kO x.ver ((l.changes.length:Int)+1) W hx.2.1 (by omega) (by omega);rw[show((l.changes.length:Int)+1).toNat=l.changes.length+1 from by omega]at h;exact h
 have uA:Hd (∀W,aq w W->w.heap.size+4<=W.heap.size->_):=λW hb hz=>Sn ls h (ew M w 4) W (dN hM hz) lv (hs.ev (dF hb)) (aJ x.cls ls.length) l hl (aJ x.ver (l.changes.length+1)) (by omega) (aI l (aJ x.ver (l.changes.length+1))) (uI.at_ _);have zd:=uI.kk (aJ x.ver (l.changes.length+1));have NT:=(bo _).1 zd.right;have HVA:Hd (∀W fv,aq w W->w.heap.size+4<=W.heap.size->ab (ew M w 4) W fv (aI l (aJ x.ver (l.changes.length+1))).fields->_):=λW fv hb hz hf=>by
  have hh:=GF (ew M w 4) W (dN hM hz) (aI l (aJ x.ver (l.changes.length+1))) fv vv x.aR many hf (hv.ev (dF hb)) hx.2.2 NT.2.1 (DG zd.right) rF;rw[uI.name]at hh;exact hh
 have HLC:=af (eE hs hl);have CV:=af hl;obtain⟨la,lc,rfl,Jq,_⟩:=hs.open_;obtain⟨va,vc,rfl,_⟩:=hv.open_;clear hs hv hM hx h uI zd NT hl;generalize aJ x.cls ls.length=k at*;generalize aJ x.ver (l.changes.length+1)=v at*;obtain⟨xc,xv,xs,xk⟩:=x;dsimp only at*;have bW:=af (Bx.gO w (fS (xL la ls.length lc)) (uh ⟨xc,xv,xs,xk⟩ (xL va xs.length vc)) (dV ⟨0,0,0,[]⟩ (xL none 0 0)));go_enter func17,ntmps17;go_wp2_with fail;refine cT (Nh.o _) ?_;go_upto_region 2 with fail;obtain⟨W2,gS⟩:=bS ((((w.alloc (fS (xL la ls.length lc))).alloc (uh ⟨xc,xv,xs,xk⟩ (xL va xs.length vc))).alloc (dV ⟨0,0,0,[]⟩ (xL none 0 0))).alloc (dV ⟨id,(k:Int),0,[]⟩ (xL none 0 0)));have aQ:=af (show Bx w [fS (xL la ls.length lc),uh ⟨xc,xv,xs,xk⟩ (xL va xs.length vc),dV ⟨0,0,0,[]⟩ (xL none 0 0),dV ⟨id,(k:Int),0,[]⟩ (xL none 0 0)] W2 by rw[gS];exact Bx.Ow w _ _ _ _);unfold fS uh dV at gS;rw[<-gS];clear gS;obtain⟨b,off,cap,fa,fc,ca,cc,Yy,qdq,tI,mZ,mW,ay⟩:=HLC.o;obtain⟨rfl,rfl⟩:=iB Yy;obtain⟨q0,q1,q2⟩:=ay W2 aQ.o.1;have y0:=one_cell (aQ.o.bG rfl);obtain⟨x0,x1,x2,x3⟩:=ae (aQ.o.bU rfl);obtain⟨o0,o1,o2,o3⟩:=ae (aQ.o.BD rfl);have f2:=ag (aQ.o.BD rfl) 2;have i0:(0:Int)<=(k:Int):=Qba _;have i1:(k:Int)<(ls.length:Int):=by omega
 have i3:IntKind.i64.wrap ((l.changes.length:Int)+1)=(l.changes.length:Int)+1:=Qbe _ (by omega);clear Yy tI mZ ay;go_cut [](λwx=>Hd (Bx w [fS (xL (some ⟨b,off,none⟩) ls.length lc),uh ⟨xc,xv,xs,xk⟩ (xL va xs.length vc),dV ⟨0,0,0,[]⟩ (xL none 0 0),dV ⟨id,(k:Int),(v:Int),[]⟩ (xL none 0 0)] wx));case first=>
  go_region_law(first
   |(go_simp;go_at_call 20;refine cT (Wv.o _) ?_));all_goals(go_wp2;go_meet)
  all_goals exact(show Bx _ _ _ from by first
   |simpa [dV]using aQ.o.drew.set 3 2 rfl (xI (v:Int))
   |simpa [dV]using(aQ.o.set 3 2 rfl (xI (v:Int))).drew)
 case rest=>
  have bO:=hcut;clear q0 q1 q2 y0 x0 x1 x2 x3 o0 o1 o2 o3 f2;obtain⟨W3,fw⟩:=bS (wc);subst fw;have y0:=one_cell (bO.o.bG rfl);obtain⟨o0,o1,o2,o3⟩:=ae (bO.o.BD rfl);go_wp2_with fail;refine(uA.o _ bO.o.1 (by have:=bO.o.bF;exact this)).mono ?_;rintro e w4⟨_,rfl,⟨fv,rfl,hf⟩,eA⟩;have hf':=hf;obtain⟨ga,gc,rfl,_⟩:=hf'.open_;have dI:=af (bO.o.below eA);have HF4:=af hf;clear hf eA y0 o0 o1 o2 o3;have h3:=λo=>ae ((dI.o.alloc o).BD rfl);have g3:=λo=>ag ((dI.o.alloc o).BD rfl) 3;have x3:=λo=>ae ((dI.o.alloc o).bU rfl);go_upto_region 4 with fail;obtain⟨W4,j8⟩:=bS (w4.alloc (cU l.first.name (xL ga (aI l v).fields.length gc)));have kK:=af (show Bx w [fS (xL (some ⟨b,off,none⟩) ls.length lc),uh ⟨xc,xv,xs,xk⟩ (xL va xs.length vc),dV ⟨0,0,0,[]⟩ (xL none 0 0),dV ⟨id,(k:Int),(v:Int),[]⟩ (xL none 0 0)] W4 by rw[j8];exact dI.o.alloc _);have Yz:=af (show di W4 w4 (cU l.first.name (xL ga (aI l v).fields.length gc))by rw[j8];exact Qbh w4 _);have HF5:=af (show ab (ew M w 4) W4 (xL ga (aI l v).fields.length gc) (aI l v).fields by rw[j8];exact HF4.o.below bM);unfold cU at j8;rw[<-j8];clear j8 h3 g3 x3;obtain⟨c0,c1⟩:=ah Yz.o;obtain⟨x0,x1,x2,x3⟩:=ae (kK.o.bU rfl);go_wp2_with fail;refine(HVA.o _ _ kK.o.1 (by have:=kK.o.bF;exact this) HF5.o).mono ?_;rintro e w6⟨_,rfl,⟨vs,NR,bI⟩,jz⟩;have Cx:=bI;obtain⟨ua,uc,rfl,_⟩:=Cx.open_;have qt:=af (kK.o.below jz);have vw:=af bI;have YA:=af NR;clear bI jz NR c0 c1 x0 x1 x2 x3;obtain⟨o0,o1,o2,o3⟩:=ae (qt.o.BD rfl);have f3:=ag (qt.o.BD rfl) 3;obtain⟨r0,r1,r2,r3⟩:=ae (qt.o.fR rfl);obtain⟨f20,f21,f22,f23⟩:=iK (qt.o.fR rfl);have pH:Hd (∀W',W'=((((w6.setCell ⟨w.heap.size+1+1+1,3,none⟩ (xL ua vs.length uc)).setCell ⟨w.heap.size+1+1,0,none⟩ (xI id)).setCell ⟨w.heap.size+1+1,1,none⟩ (xI (k:Int))).setCell ⟨w.heap.size+1+1,2,none⟩ (xI (v:Int))).setCell ⟨w.heap.size+1+1,3,none⟩ (xL ua vs.length uc)->(∃(k2 v2:Nat)(l2:aH)(vs2:List aA)(uv:an),Value.agg #[xI id,xI (k:Int),xI (v:Int),xL ua vs.length uc]= .agg #[xI id,xI (k2:Int),xI (v2:Int),uv]/\iS ls many ⟨id,(k2:Int),(v2:Int),vs2⟩ k2 v2 l2/\ab M W' uv vs2)/\aq w W'):=λW' gU=>by
   have E:Ev (ew M w 4) w6 M W':=by
    rw[gU];exact(((((Ev.dD w6 λi hi=> .inl hi).setCell (.inl (.inr ⟨by simp;omega,by simp⟩)) _).setCell (.inl (.inr ⟨by simp;omega,by simp⟩)) _).setCell (.inl (.inr ⟨by simp;omega,by simp⟩)) _).setCell (.inl (.inr ⟨by simp;omega,by simp⟩)) _).setCell (.inl (.inr ⟨by simp;omega,by simp⟩)) _
   refine⟨⟨k,v,l,vs,_,rfl,⟨rfl,rfl,CV.o,by omega,YA.o⟩,vw.o.ev E⟩,?_⟩;rw[gU];exact((((qt.o.1.setCell (by simp;omega) _).setCell (by simp;omega) _).setCell (by simp;omega) _).setCell (by simp;omega) _).setCell (by simp;omega) _
  go_wp2_with fail;exact Qae (v:= .agg #[xI id,xI (k:Int),xI (v:Int),xL ua vs.length uc]) (by simp[results,results17,go_sem,r0,r1,r2,r3,f20,f21,f22,f23]) rfl ⟨_,rfl,pH.o _ rfl⟩
end
section
open Go.RowKit Go.Shelf
def ui {t:aT}{v:aA}(h:dx t many v)(k:Int):(cC k v).length<=12:=by
 unfold cC;split
 .simp
 .rw[Qdc];refine Qcg (List.length_filter_le _ _) ?_;rcases h with⟨_,l,rfl,hl,_⟩|⟨_,h1⟩
  .exact hl
  .rcases h1 with⟨_,n,rfl,_⟩|⟨_,s,rfl,_⟩|⟨_,rfl|⟨n,rfl,_⟩⟩<;>simp[aA.list]
def Zj(v:an):Obj:=xK #[v] 27
structure xH(jj:Int)(w w2:aj)(vs:List aA)(i:Nat)(lv:an)(W:aj):Prop where
 blk:W.heap[w.heap.size+1]? =some (Zj lv)
 acc:aK (α:=Int) xF (w2.heap.size+2) 3 W lv ((vs.take i).flatMap (cC jj))
 below:aq w W
 len:((vs.take i).flatMap (cC jj)).length<=12*i
def BR {w:aj}{x:Int}(h:au.rep M w cs x):au.rep M' w' cs x:=h
section
variable {jj:Int}{w w2 W A B:aj}{vs:List aA}{i:Nat}{lv:an}{S:aN}
theorem xH.only(h:xH jj w w2 vs i lv A)(ho:ai S A B)(hS:∀j,S j->w.heap.size+2<=j/\j<w2.heap.size+2):xH jj w w2 vs i lv B:=
 ⟨ho.at_ h.blk (λh=>by have:=(hS _ h).1;omega),h.acc.K3 ho (λj hj=>(hS j hj).2) BR,aS h.below h.below.size ho (λj hj=>by have:=(hS j hj).1;omega),h.len⟩
theorem xH.later(h:xH jj w w2 vs i lv A)(hb:aq A B):xH jj w w2 vs i lv B:=
 ⟨(hb.block _ (Qaa.1 h.blk).1).trans h.blk,h.acc.below hb,h.below.trans (hb.mono h.below.size),h.len⟩
theorem xH.next(h:xH jj w w2 vs i lv A)(hw:w.heap.size+1<w2.heap.size){v:aA}{t:aT}(hv:vs[i]? =some v)(ho:dx t many v){l2:an}(hacc:aK (α:=Int) xF (w2.heap.size+2) 3 B l2 ((vs.take i).flatMap (cC jj)++cC jj v))(hb:Below (w2.heap.size+2) A B)(hA:w2.heap.size+2<=A.heap.size):
 xH jj w w2 vs (i+1) l2 (B.setCell ⟨w.heap.size+1,0,none⟩ l2)/\ai (NG (λj=>j=w.heap.size+1) w2 0) A (B.setCell ⟨w.heap.size+1,0,none⟩ l2):=by
 have e:(vs.take (i+1)).flatMap (cC jj)=(vs.take i).flatMap (cC jj)++cC jj v:=by rw[Qbb,hv,List.flatMap_append];simp
 have hblk:=(hb.block (w.heap.size+1) (by omega)).trans h.blk;have o1:ai (λj=>j=w.heap.size+1) B (B.setCell ⟨w.heap.size+1,0,none⟩ l2):=(ai.refl (λj=>j=w.heap.size+1) B).setCell (p:=⟨w.heap.size+1,0,none⟩) (.inl rfl) _;refine⟨⟨?_,?_,?_,?_⟩,?_⟩
 .have:=Qca B (w.heap.size+1) 0 _ _ l2 hblk;simpa [Zj]using this
 .rw[e];exact hacc.K3 o1 (λj hj=>by have:j=w.heap.size+1:=hj;omega) BR
 .exact(h.below.trans (hb.mono (by omega))).setCell (by show w.heap.size<=w.heap.size+1;omega) _
 .have:=h.len;have:=ui ho jj;rw[e,Qda];omega
 .refine ai.trans ?_ (o1.mono λj hj=> .inl hj);exact⟨hb.os,hb.tape,hb.output,hb.size,λj hj hS=>hb.block j (Classical.byContradiction λhc=>hS (.inr (by omega)))⟩
end
def Sr(jj:Int)(f:Nat)(hjf:(jj=3/\f=62)\/(jj=4/\f=94))(x:bE)(many:Int)(hm:many<=100000)(fs:List az)(cq:bh fs many x.aR)(h8:x.aR.length<=8)(M:aN)(w:aj)(hM:Bd M w)(vv:an)(dA:ab M w vv x.aR)(hT:Tb w):
 xC f #[.agg #[xI x.id,xI x.cls,xI x.ver,vv]] w (cg w λv w'=>∃B,w.heap.size<=B/\aK (α:=Int) xF B 3 w' v (x.aR.flatMap (cC jj))):=by
 have HM:=af hM;have Tz:Hd (∀p W,aq w W->w.heap.size+1<W.heap.size->bR W p (FQ vv)->G9 prog 198 #[xP p] W (λj=>j=w.heap.size+1) 0 0 (xE x.aR (BQ M w)) (λi=>i=x.aR.length)):=λp W h1 h3 h2=>DE x.aR M (λj=>j=w.heap.size+1) p w W h1 vv dA h2 (λj h=>by have:j=w.heap.size+1:=h;omega);have YA:Hd (∀(i:Nat)v,x.aR[i]? =some v->∃t,dx t many v):=λi v hi=>by
  obtain⟨f,_,hf⟩:=eT cq v (Qaf hi);exact⟨_,hf⟩
 rcases hjf with⟨hj,rfl⟩|⟨hj,rfl⟩;have HR:Hd (∀W(i:Nat)v u N,x.aR[i]? =some v->aq w W->Bd N W->ct N W u v->xC 133 #[u] W (cg W λr w'=>ab N w' r (cC jj v))):=af (by
  subst hj;intro W i v u N hi hb hN hu;obtain⟨f,_,hf⟩:=eT cq v (Qaf hi);exact Dv hf hm hN hu (hT.below hb));rotate_left;have HR:Hd (∀W(i:Nat)v u N,x.aR[i]? =some v->aq w W->Bd N W->ct N W u v->xC 161 #[u] W (cg W λr w'=>ab N w' r (cC jj v))):=af (by
  subst hj;intro W i v u N hi hb hN hu;obtain⟨f,_,hf⟩:=eT cq v (Qaf hi);exact Aq hf hm hN hu (hT.below hb));rotate_left;all_goals
  obtain⟨i0,ed,ej,dO,er⟩:=info_parts rZ;obtain⟨xi,xc,xv,xs⟩:=x;dsimp only at*;obtain⟨a,bQ,rfl,cV,lL,_⟩:=dA.open_;generalize hn:xs.length=n at*;have eF:=af hn;clear hn;clear dA cq hM hT;clear hj
 refine callsIn_wide.1 (callsIn_of_wp_marks (n:=0) func62 rfl trivial (wpIn_wide.2 ?_) rfl);simp only[ntmps62,List.size_toArray,Qcc,Qcd,Nat.reduceAdd,Nat.reduceSub,Array.replicate_succ,Array.replicate_zero,List.push_toArray,List.append_toArray,List.nil_append,List.cons_append];rotate_left;refine callsIn_wide.1 (callsIn_of_wp_marks (n:=0) func94 rfl trivial (wpIn_wide.2 ?_) rfl);simp only[ntmps94,List.size_toArray,Qcc,Qcd,Nat.reduceAdd,Nat.reduceSub,Array.replicate_succ,Array.replicate_zero,List.push_toArray,List.append_toArray,List.nil_append,List.cons_append];rotate_left;all_goals
  go_wp2_with fail;refine cT (JZ _ _ _ _) ?_;go_wp2_with fail;obtain⟨w2,nK⟩:=bS (((w.alloc (dV ⟨xi,xc,xv,xs⟩ (xL a n bQ))).alloc (Zj (xL none 0 0))).alloc (FQ (xL a n bQ)));have aQ:=af (show Bx w [dV ⟨xi,xc,xv,xs⟩ (xL a n bQ),Zj (xL none 0 0),FQ (xL a n bQ)] w2 by rw[nK];exact Bx.gO w _ _ _);have qg5:w2.heap.size=w.heap.size+3:=by rw[nK];simp
  unfold dV Zj FQ at nK;rw[<-nK];clear nK;have yQ:=af (Tz.o _ w2 aQ.o.1 (by omega) (aQ.o.fR rfl));refine wpIn_wide.1 (pV rfl (enters_of func198 (by kernel_rfl) rfl) (λj=>j=w.heap.size+1) 0 0 (xE xs (BQ M w)) (λi=>i=n) yQ.o (λi args i' W h=>by obtain⟨_,v,u,_,rfl,_⟩:=h;rfl) (λj hj=>by have:j=w.heap.size+1:=hj;omega)
   (λi W=>∃lv,xH jj w w2 xs i lv W) (λ_ _=>False) (λi A B⟨lv,h⟩ho=>⟨lv,h.only ho (λj hj=>⟨by have:=hj.1;omega,by have:=hj.2;omega⟩)⟩) (λc A B h _=>h) ⟨_,⟨aQ.o.bU rfl,aK.nil _ _ _ _,aQ.o.1,by simp⟩⟩ ?hround ?hdone ?hstop);case hstop=>intro c W h;exact h.elim
  case hround=>
   intro l i args i' W hI Nf hsz;obtain⟨rfl,v,u,hv,rfl,hu⟩:=Nf;obtain⟨lv,hI⟩:=hI;have HI:=af hI;have HV:=af hv;have HU:=af hu;obtain⟨vk,vn,vs,vl⟩:=v;obtain⟨va,vc,rfl,_⟩:=dd hu;clear hI hv hu;gi_wp2_with(rw[Oper.semAt_eq _ _ _ (λc h=>by cases h)];go_simp;try go_bits);refine⟨(ai.refl _ W).alloc _,λW2 nZ KG=> ?_⟩;have me:Hd (xH jj w w2 xs i lv W2):=(HI.o.later bM).only nZ (λj hj=>by have:j=w2.heap.size+1:=hj;omega);have HU2:Hd (ct (BQ M w) W2 (.agg #[xI vk,xI vn,xS vs,xL va vl.length vc]) (aA.mk vk vn vs vl)):=HU.o.ev ⟨((ai.refl _ W).alloc _).trans (nZ.mono λj hj=> .inr (by have:j=w2.heap.size+1:=hj;omega)),λj hj=> .inl hj⟩;have Q0:=nZ.at_ (Qbh W (eN vk vn vs (xL va vl.length vc))) (by show¬W.heap.size=w2.heap.size+1;omega);obtain⟨q0,q1,q2,q3⟩:=ae Q0;have HPC:=af Q0;have l0:zm W2 w 0 lv:=one_cell me.o.blk;clear Q0 nZ;gi_wp2_with(rw[Oper.semAt_eq _ _ _ (λc h=>by cases h)];go_simp;try go_bits);have HVT:=YA.o i _ HV.o;obtain⟨vt,YB⟩:=HVT;have HVT:=af YB;have No:=af (ui YB jj);have hi8:i<n:=by have:=(Qad.1 HV.o).1;have:=eF.o;omega
   have tp:Hd (aq w W2.drew):=me.o.below.drew;have nJ:Hd (Bd (bg lv λ_=>False) W2.drew):=λj hj=>hj.elim (λh=>h.elim) λh=>(me.o.acc.cJ j h).2;have CQ:Hd (ct (bg lv λ_=>False) W2.drew (.agg #[xI vk,xI vn,xS vs,xL va vl.length vc]) (aA.mk vk vn vs vl)):=(HU2.o.ev (Ev.dD W2 λj hj=>hj.elim (λh=>h.elim) λh=> .inr (by have:=(me.o.acc.cJ j h).1;omega))).ev ((Ev.refl _ _).drew);have WW:w2.heap.size+2<=W2.heap.size:=by simp at KG;omega
   clear YB;refine wpIn_region_any (by kernel_rfl) ?_;change wpAnyIn _ _ _ _ _ _ _ _ _ (World.drew _);refine wpAnyIn_ready (rs:=[0,1]) (by kernel_rfl) (by simp) ?_;refine AllReadyIn.cons rfl (λK hK=> ?_) (AllReadyIn.cons rfl (λK hK=> ?_) AllReadyIn.nil)
   .go_simp;(try rw[Oper.semAt_eq _ _ _ (λc h=>by cases h)]);go_simp;(try go_bits);refine hK _ _ ?_;clear hK K;refine wpAnyIn_ready (rs:=[1]) (by kernel_rfl) (by simp) ?_;refine AllReadyIn.cons rfl (λK hK=> ?_) AllReadyIn.nil;go_simp;(try rw[Oper.semAt_eq _ _ _ (λc h=>by cases h)]);go_simp;(try go_bits);refine hK _ _ ?_;clear hK K;refine wpAnyIn_ready (rs:=[2]) (by kernel_rfl) (by simp) ?_;refine AllReadyIn.cons rfl (λK hK=> ?_) AllReadyIn.nil;go_simp;(try rw[Oper.semAt_eq _ _ _ (λc h=>by cases h)]);go_simp;(try go_bits);refine⟨trivial,rfl,(CallsIn.inRound l (callsIn_wide.2 (HR.o W2.drew i _ _ (bg lv λ_=>False) HV.o tp.o nJ.o CQ.o))).mono ?_⟩;rintro e w3⟨_,rfl,qX,bP⟩;obtain⟨ra,rc,rfl,_⟩:=qX.open_;have tq:=af (me.o.later ((Qbg W2.heap.size W2).drew.trans bP));have jC:=af qX;have uJ:=af (ai.ao (S:=NG (λj=>j=w.heap.size+1) w2 0) ((Qbg W2.heap.size W2).drew.trans bP));have yK:w2.heap.size+2<=w3.heap.size:=Qcg WW (uJ.o.size);have l3:zm w3 w 0 lv:=one_cell tq.o.blk;clear qX bP;refine hK _ _ ?_;clear hK K;refine wpAnyIn_ready (rs:=[3]) (by kernel_rfl) (by simp) ?_;refine AllReadyIn.cons rfl (λK hK=> ?_) AllReadyIn.nil;have hlen:=tq.o.len;refine iT (α:=Int) rfl _ _ _ rfl xF (w2.heap.size+2) 3 i0 _ 8 underlying27 ed ej dO er rfl (by decide) lv ((xs.take i).flatMap (cC jj)) rfl tq.o.acc _ (cC jj (aA.mk vk vn vs vl)) rfl jC.o (by have:=No.o;unfold maxLen;omega) (by have:=No.o;omega) yK ?_;intro a2 c2 w4 hacc zS eA;generalize((xs.take i).flatMap (cC jj)).length+(cC jj (aA.mk vk vn vs vl)).length=q at hacc zS⊢;obtain⟨vP,zL⟩:=tq.o.next (by omega) HV.o HVT.o hacc eA yK;have vP:=af vP;have zL:=af zL;have yR:=(eA.block (w.heap.size+1) (by omega)).trans tq.o.blk;have l4:zm w4 w 0 lv:=one_cell yR;have f4:=ag yR 0;clear hacc zS eA yR;refine hK _ _ ?_;clear hK K;refine wpAnyIn_ready (rs:=[4]) (by kernel_rfl) (by simp) ?_;refine AllReadyIn.cons rfl (λK hK=> ?_) AllReadyIn.nil;go_simp;(try rw[Oper.semAt_eq _ _ _ (λc h=>by cases h)]);go_simp;(try go_bits);refine hK _ _ ?_;clear hK K;refine wpAnyIn_done (by kernel_rfl) ?_ _;simp only[Exit.inBlock];exact⟨uJ.o.trans zL.o,⟨_,vP.o⟩⟩
   .go_simp;(try rw[Oper.semAt_eq _ _ _ (λc h=>by cases h)]);go_simp;(try go_bits);refine hK _ _ ?_;clear hK K;refine wpAnyIn_ready (rs:=[0,2]) (by kernel_rfl) (by simp) ?_;refine AllReadyIn.cons rfl (λK hK=> ?_) (AllReadyIn.cons rfl (λK hK=> ?_) AllReadyIn.nil)
    .go_simp;(try rw[Oper.semAt_eq _ _ _ (λc h=>by cases h)]);go_simp;(try go_bits);refine hK _ _ ?_;clear hK K;refine wpAnyIn_ready (rs:=[2]) (by kernel_rfl) (by simp) ?_;refine AllReadyIn.cons rfl (λK hK=> ?_) AllReadyIn.nil;go_simp;(try rw[Oper.semAt_eq _ _ _ (λc h=>by cases h)]);go_simp;(try go_bits);refine⟨trivial,rfl,(CallsIn.inRound l (callsIn_wide.2 (HR.o W2.drew i _ _ (bg lv λ_=>False) HV.o tp.o nJ.o CQ.o))).mono ?_⟩;rintro e w3⟨_,rfl,qX,bP⟩;obtain⟨ra,rc,rfl,_⟩:=qX.open_;have tq:=af (me.o.later ((Qbg W2.heap.size W2).drew.trans bP));have jC:=af qX;have uJ:=af (ai.ao (S:=NG (λj=>j=w.heap.size+1) w2 0) ((Qbg W2.heap.size W2).drew.trans bP));have yK:w2.heap.size+2<=w3.heap.size:=Qcg WW (uJ.o.size);have l3:zm w3 w 0 lv:=one_cell tq.o.blk;clear qX bP;refine hK _ _ ?_;clear hK K;refine wpAnyIn_ready (rs:=[3]) (by kernel_rfl) (by simp) ?_;refine AllReadyIn.cons rfl (λK hK=> ?_) AllReadyIn.nil;have hlen:=tq.o.len;refine iT (α:=Int) rfl _ _ _ rfl xF (w2.heap.size+2) 3 i0 _ 8 underlying27 ed ej dO er rfl (by decide) lv ((xs.take i).flatMap (cC jj)) rfl tq.o.acc _ (cC jj (aA.mk vk vn vs vl)) rfl jC.o (by have:=No.o;unfold maxLen;omega) (by have:=No.o;omega) yK ?_;intro a2 c2 w4 hacc zS eA;generalize((xs.take i).flatMap (cC jj)).length+(cC jj (aA.mk vk vn vs vl)).length=q at hacc zS⊢;obtain⟨vP,zL⟩:=tq.o.next (by omega) HV.o HVT.o hacc eA yK;have vP:=af vP;have zL:=af zL;have yR:=(eA.block (w.heap.size+1) (by omega)).trans tq.o.blk;have l4:zm w4 w 0 lv:=one_cell yR;have f4:=ag yR 0;clear hacc zS eA yR;refine hK _ _ ?_;clear hK K;refine wpAnyIn_ready (rs:=[4]) (by kernel_rfl) (by simp) ?_;refine AllReadyIn.cons rfl (λK hK=> ?_) AllReadyIn.nil;go_simp;(try rw[Oper.semAt_eq _ _ _ (λc h=>by cases h)]);go_simp;(try go_bits);refine hK _ _ ?_;clear hK K;refine wpAnyIn_done (by kernel_rfl) ?_ _;simp only[Exit.inBlock];exact⟨uJ.o.trans zL.o,⟨_,vP.o⟩⟩
    .go_simp;(try rw[Oper.semAt_eq _ _ _ (λc h=>by cases h)]);go_simp;(try go_bits);refine⟨trivial,rfl,(CallsIn.inRound l (callsIn_wide.2 (HR.o W2.drew i _ _ (bg lv λ_=>False) HV.o tp.o nJ.o CQ.o))).mono ?_⟩;rintro e w3⟨_,rfl,qX,bP⟩;obtain⟨ra,rc,rfl,_⟩:=qX.open_;have tq:=af (me.o.later ((Qbg W2.heap.size W2).drew.trans bP));have jC:=af qX;have uJ:=af (ai.ao (S:=NG (λj=>j=w.heap.size+1) w2 0) ((Qbg W2.heap.size W2).drew.trans bP));have yK:w2.heap.size+2<=w3.heap.size:=Qcg WW (uJ.o.size);have l3:zm w3 w 0 lv:=one_cell tq.o.blk;clear qX bP;refine hK _ _ ?_;clear hK K;refine wpAnyIn_ready (rs:=[0]) (by kernel_rfl) (by simp) ?_;refine AllReadyIn.cons rfl (λK hK=> ?_) AllReadyIn.nil;go_simp;(try rw[Oper.semAt_eq _ _ _ (λc h=>by cases h)]);go_simp;(try go_bits);refine hK _ _ ?_;clear hK K;refine wpAnyIn_ready (rs:=[3]) (by kernel_rfl) (by simp) ?_;refine AllReadyIn.cons rfl (λK hK=> ?_) AllReadyIn.nil;have hlen:=tq.o.len;refine iT (α:=Int) rfl _ _ _ rfl xF (w2.heap.size+2) 3 i0 _ 8 underlying27 ed ej dO er rfl (by decide) lv ((xs.take i).flatMap (cC jj)) rfl tq.o.acc _ (cC jj (aA.mk vk vn vs vl)) rfl jC.o (by have:=No.o;unfold maxLen;omega) (by have:=No.o;omega) yK ?_;intro a2 c2 w4 hacc zS eA;generalize((xs.take i).flatMap (cC jj)).length+(cC jj (aA.mk vk vn vs vl)).length=q at hacc zS⊢;obtain⟨vP,zL⟩:=tq.o.next (by omega) HV.o HVT.o hacc eA yK;have vP:=af vP;have zL:=af zL;have yR:=(eA.block (w.heap.size+1) (by omega)).trans tq.o.blk;have l4:zm w4 w 0 lv:=one_cell yR;have f4:=ag yR 0;clear hacc zS eA yR;refine hK _ _ ?_;clear hK K;refine wpAnyIn_ready (rs:=[4]) (by kernel_rfl) (by simp) ?_;refine AllReadyIn.cons rfl (λK hK=> ?_) AllReadyIn.nil;go_simp;(try rw[Oper.semAt_eq _ _ _ (λc h=>by cases h)]);go_simp;(try go_bits);refine hK _ _ ?_;clear hK K;refine wpAnyIn_done (by kernel_rfl) ?_ _;simp only[Exit.inBlock];exact⟨uJ.o.trans zL.o,⟨_,vP.o⟩⟩
  case hdone=>
   intro i W hE hI hD;obtain⟨lv,hI⟩:=hI;obtain rfl:i=n:=hE;have HI:=af hI;have HD:=af hD;clear hI hD;have l0:zm W w 0 lv:=one_cell HI.o.blk;go_wp2_with fail;refine⟨by simp, .inl ⟨_,_,rfl,run_takeDeferred HD.o,?_⟩⟩;have o2:ai (λj=>j=w2.heap.size) W (W.putObj w2.heap.size (.deferred none)):=(ai.refl (λj=>j=w2.heap.size) W).putObj (.inl rfl) _;have hacc:=HI.o.acc.K3 o2 (λj hj=>by have:j=w2.heap.size:=hj;omega) BR;rw[<-eF.o,List.take_length]at hacc;refine⟨lv,by simp[results,results62,results94,go_sem],_,rfl,⟨_,by omega,hacc⟩,aS HI.o.below HI.o.below.size o2 (λj hj=>by have:j=w2.heap.size:=hj;omega)⟩
theorem aK.any {B:Nat}{w W:aj}(h:aK (α:=Int) xF B e W v xs)(hB:w.heap.size<=B)(hM:Bd M w):ab M W v xs:=by
 obtain⟨css,k1,k2,k3⟩:=h;refine⟨css,(cA.Gk k1).mono λj hj _ ZX=> ?_,k2,k3⟩;have:=(k1.lt j hj).1;have:=hM j ZX;omega
def J0(x:bE)(many:Int)(hm:many<=100000)(fs:List az)(cq:bh fs many x.aR)(h8:x.aR.length<=8)(M:aN)(w:aj)(hM:Bd M w)(vv:an)(dA:ab M w vv x.aR)(hT:Tb w):
 xC 62 #[.agg #[xI x.id,xI x.cls,xI x.ver,vv]] w (cg w λv w'=>ab M w' v (x.aR.flatMap (cC 3))):=
 (Sr 3 _ (.inl ⟨rfl,rfl⟩) x many hm fs cq h8 M w hM vv dA hT).mono (by
   rintro e w'⟨v,rfl,⟨B,hB,h⟩,hb⟩;exact⟨_,rfl,h.any hB hM,hb⟩)
def uj(w:aj)(n:Nat):aq w (w.drewN n):=⟨rfl,rfl,rfl,bN,λ_ _=>rfl⟩
def Av:(Tryz.prog.info? 86).map (λi=>(i.zero,i.size,i.bytes))=some (some (.agg #[xS ⟨#[]⟩,xI 0]),2,24):=by kernel_rfl
def Uc(r:aV):Obj:=xK #[xS r.name,xI r.id] 86
def Ss(l:List aV)(r:aV)(hr:0<r.id)(hrn:r.name.size<=maxLen)(h5:l.length<=5)(j d:Nat)(hj:j+d<=l.length)(Q1:∀i y,i<j->l[i]? =some y->Op.bytesLess y.name.toList r.name.toList=true)(hstop:∀y,l[j]? =some y->Op.bytesLess y.name.toList r.name.toList=false/\(y.name.toList==r.name.toList)=decide (d=1))(hd:d<=1)(M:aN)(w:aj)(hM:Bd M w)(lv:an)(hl:ab M w lv l)(uD:l=[]->lv=xL none 0 0):
 xG 18 #[lv, .agg #[xS r.name,xI r.id]] w λu w'=>ab M w' u (l.take j++[r]++l.drop (j+d)):=by
 obtain⟨i0,ed,ej,dO,er⟩:=info_parts Av;have HR:Hd (∀i y,l[i]? =some y->_):=λi y hx=>iF hl hx;have YC:=af Q1;have gM:=af hstop;have lM:=af hM;have Gc:=af hrn;have No:=af hl;obtain⟨ra,rc,rfl,Tj,hrm,_⟩:=hl.open_;have HL0:Hd (l.length=0->ra=none/\rc=0):=λh=>by
  have:=uD (Qdd h);simpa using(show ra=none/\l.length=0/\rc=0 by simpa using this)|>.elim (λa b=>⟨a,b.2⟩)
 have HRA:Hd (0<l.length->∃b off,ra=some ⟨b,off,none⟩):=λh=>by
  obtain⟨y,hy⟩:=eB l 0 h;obtain⟨b,off,cap,hv,_⟩:=iF hl hy;exact⟨b,off,by simpa using(show ra=some ⟨b,off,none⟩/\rc=cap by simpa using hv).1⟩
 clear hl hM Q1 hstop hrn uD;generalize hn:l.length=n at*;have eF:=af hn;clear hn;obtain⟨rn,ri⟩:=r;dsimp only at*;have hgt:decide ((0:Int)<ri)=true:=by simpa using hr
 go_enter func18,ntmps18;go_wp2;go_loopg [5,6]j(λg r5 iv wr=>∃(i c1:Nat)(a1:fA),i<=j/\g=j-i/\iv=xI i/\r5=xL a1 i c1/\Hd (aK (α:=aV) M (w.heap.size+1) 86 wr (xL a1 i c1) (l.take i))/\Hd (Bx w [Uc ⟨rn,ri⟩] wr));case atStart=>exact⟨0,0,none,Qbf _,rfl,rfl,rfl,(aK.nil _ _ _ _),(Bx.eD w _)⟩
 case round=>
  obtain⟨i,c1,a1,hi,rfl,rfl,rfl,HA,HB⟩:=hrel;obtain⟨y0,y1⟩:=ah (HB.o.bG rfl);have qdr:(0:Int)<=(i:Int):=Qba _;go_upto_region 3 with fail;go_cut [20](λs20 wx=>∃nq bb,s20=xB bb/\Hd (bb=decide (i<j))/\wx=wr.drewN nq);case first=>
   by_cases kp:i<n
   .obtain⟨y,hy⟩:=eB l i (by rw[eF.o];exact kp);obtain⟨b,off,cap,hv,cR,_,ay⟩:=HR.o i y hy;obtain⟨rfl,rfl⟩:=iB hv;obtain⟨q0,q1⟩:=ay wr HB.o.1;have TA:(i:Int)<(n:Int):=by omega
    have qds:Op.bytesLess y.name.toList rn.toList=decide (i<j):=by
     by_cases hij:i<j
     .rw[YC.o i y hij hy,decide_eq_true hij]
     .obtain rfl:i=j:=by omega
      rw[(gM.o y hy).1,decide_eq_false hij]
    clear hv ay hy;go_quiet(fail);go_wp2;go_meet;exact⟨nq,_,rfl,(show _=_ from by first|exact qds|rfl),rfl⟩
   .have TA:decide ((i:Int)<(n:Int))=false:=by simp;omega
    have hij:decide (i<j)=false:=by simp;omega
    go_quiet(fail);go_wp2;go_meet;exact⟨nq,_,rfl,(show _=_ from hij.symm),rfl⟩
  case rest=>
   obtain⟨nq,bb,rfl,KJ,rfl⟩:=hcut;cases bb with
   |true=>
    have hij:i<j:=of_decide_eq_true KJ.o.symm;obtain⟨y,hy⟩:=eB l i (by rw[eF.o];omega);obtain⟨b,off,cap,hv,cR,YD,ay⟩:=HR.o i y hy;obtain⟨rfl,rfl⟩:=iB hv;obtain⟨q0,q1⟩:=ay wr HB.o.1;have TA:(i:Int)<(n:Int):=by omega
    have ow:=af (show(l.take i).length=i by have:=eF.o;rw[Qdb];omega);have nG:=af (show l.take i++[y]=l.take (i+1)by rw[Qbb,hy];simp);have HYN:=af YD;obtain⟨yn,yi⟩:=y;clear ay hv hy YD;have hsz:=HB.o.bF;go_wp2_with(at_builtin;refine aW (α:=aV) rfl _ _ _ rfl M (w.heap.size+1) 86 i0 _ 24 underlying33 ed ej dO er rfl (by decide) (.slice a1 i c1) (l.take i) rfl ((HA.o.below (uj wr nq)).alloc _) (λ_=>True) _ _ ⟨yn,yi⟩ rfl (cD _ _ _ _ rfl trivial) ⟨rfl,HYN.o⟩ (by rw[ow.o];unfold maxLen;omega) (by rw[ow.o];omega) (by have:=HB.o.bF;simp at this⊢;omega) ?_;rw[ow.o,nG.o];intro a2 c2 w2 bj dz bC;have dh:=af bj;have bO:=af bC;clear bj dz bC);go_roundg(j-(i+1));case measure=>omega
    case rel=>
     refine⟨i+1,c2,a2,by omega,rfl,by go_num,rfl,dh,(((HB.o.drewN nq).alloc _).du bO.o (by simp))⟩
   |false=>
    have hij:¬i<j:=of_decide_eq_false KJ.o.symm;obtain rfl:i=j:=by omega
    have ow:=af (show(l.take i).length=i by have:=eF.o;rw[Qdb];omega);have vQ:=af (show(l.take i++[(⟨rn,ri⟩:aV)]).length=i+1 by rw[Qda,ow.o];rfl);have hi5:i<=5:=by omega
    have hsz:=HB.o.bF;go_upto_region 8 with(
     at_builtin;refine aW (α:=aV) rfl _ _ _ rfl M (w.heap.size+1) 86 i0 _ 24 underlying33 ed ej dO er rfl (by decide) (.slice a1 i c1) (l.take i) rfl ((HA.o.below (uj wr nq)).alloc _) (λ_=>True) _ _ ⟨rn,ri⟩ rfl (cD _ _ _ _ rfl trivial) ⟨rfl,Gc.o⟩ (by rw[ow.o];unfold maxLen;omega) (by rw[ow.o];omega) (by have:=HB.o.bF;simp at this⊢;omega) ?_;rw[ow.o];intro a2 c2 w2 bj dz bC;have dh:=af bj;have aQ:Hd (Bx w [Uc ⟨rn,ri⟩] w2):=((HB.o.drewN nq).alloc _).du bC (by simp);clear bj dz bC);clear y0 y1;obtain⟨y0,y1⟩:=ah (aQ.o.bG rfl);go_cut [50](λs50 wx=>∃Jt bb,s50=xB bb/\Hd (bb=decide (d=1))/\wx=w2.drewN Jt);case first=>
     by_cases kp:i<n
     .obtain⟨y,hy⟩:=eB l i (by rw[eF.o];exact kp);obtain⟨b,off,cap,hv,cR,_,ay⟩:=HR.o i y hy;obtain⟨rfl,rfl⟩:=iB hv;obtain⟨q0,q1⟩:=ay w2 aQ.o.1;have TA:(i:Int)<(n:Int):=by omega
      have HDE:=af (gM.o y hy).2;clear hv ay hy;go_quiet(fail);go_wp2;go_meet;exact⟨nq,_,rfl,(show _=_ from HDE.o),rfl⟩
     .have TA:decide ((i:Int)<(n:Int))=false:=by simp;omega
      have WQ:decide (d=1)=false:=by simp;omega
      go_quiet(fail);go_wp2;go_meet;exact⟨nq,_,rfl,(show _=_ from WQ.symm),rfl⟩
    case rest=>
     obtain⟨Jt,bd,rfl,KM,rfl⟩:=hcut;have HEW:Hd (Ev M w (bg (xL a2 (i+1) c2) M) (w2.drewN Jt)):=⟨ai.ao (aQ.o.drewN Jt).1,λj hj=>hj.imp_right λe=>by have:=(dh.o.cJ j e).1;omega⟩;cases bd with
     |true=>
      have HBE:=KM.o;obtain rfl:d=1:=by simp at HBE;omega
      have WX:=af (show(l.drop (i+1)).length=n-(i+1)by rw[List.length_drop,eF.o]);have hw1:IntKind.i64.wrap ((i:Int)+1)=(i:Int)+1:=Qbe _ (by omega);have s1:(i:Int)<=(n:Int):=by omega
      have s2:(0:Int)<=(i:Int)+1:=by omega
      have s9:((i:Int)+1).toNat=i+1:=by omega
      have s4:i+1<=rc:=by omega
      have s5:i+1<=n:=hj;have s8:(i:Int)+1<=(n:Int):=by omega
      obtain⟨ap,qp⟩:∃ap,Hd (ab (bg (xL a2 (i+1) c2) M) (w2.drewN Jt) (xL ap (n-(i+1)) (rc-(i+1))) (l.drop (i+1))/\((n=0/\ap=none/\ra=none/\rc=0/\i=0)\/∃b off,ra=some ⟨b,off,none⟩/\(if rc=i+1 then some (⟨b,off,none⟩:Addr)else some ⟨b,off+(i+1)*2,none⟩)=ap)):=by
       by_cases yJ:n=0
       .obtain⟨e1,e2⟩:=HL0.o yJ;refine⟨none,(show _/\_ from⟨?_, .inl ⟨yJ,rfl,e1,e2,by omega⟩⟩)⟩;have e3:l=[]:=Qdd (eF.o.trans yJ);have e4:n-(i+1)=0:=by omega
        have e5:rc-(i+1)=0:=by omega
        rw[e3,e4,e5,List.drop_nil];exact ab.nil _ _
       .obtain⟨b,off,e1⟩:=HRA.o (by omega);refine⟨_,(show _/\_ from⟨?_, .inr ⟨b,off,e1,rfl⟩⟩)⟩;have j6:=(No.o.ev HEW.o).from_ eF.o (k:=i+1) hj;rw[e1]at j6;simpa [Addr.add,show au.size aV=2 from rfl]using j6
      clear HBE;rcases qp.o.2 with⟨rfl,rfl,rfl,rfl,rfl⟩|⟨b,off,rfl,RP⟩
      .omega
      .go_wp2_with(at_builtin;refine cZ (α:=aV) rfl _ _ _ rfl M (w.heap.size+1) 86 i0 _ 24 underlying33 ed ej dO er rfl (by decide) (.slice a2 (_+1) c2) (l.take _++[⟨rn,ri⟩]) rfl (dh.o.below (uj w2 Jt)) _ (l.drop (_+1)) rfl qp.o.1 (by rw[vQ.o,WX.o];unfold maxLen;omega) (by rw[vQ.o,WX.o];omega) (by have:=aQ.o.bF;simp at this⊢;omega) ?_;rw[vQ.o,WX.o];intro a3 c3 w3 j9 yS bP;have pK:=af j9;have bO:=af bP;clear j9 yS bP);go_ret;have h4:=pK.o.slice (λj hj=>Nat.lt_succ_of_lt (lM.o j hj));rw[show i+1+(n-(i+1))=n from by omega]at h4;exact⟨_,rfl,by simpa using h4,((aQ.o.drewN Jt).du bO.o (by simp)).1⟩
     |false=>
      have HBE:=KM.o;obtain rfl:d=0:=by simp at HBE;omega
      have s5:i<=n:=by omega
      have s1:(i:Int)<=(n:Int):=by omega
      have s4:i<=rc:=by omega
      clear HBE;rcases Nat.eq_zero_or_pos i with Tw|Tw
      .subst Tw;have qp:Hd (ab (bg (xL a2 (0+1) c2) M) (w2.drewN Jt) (xL ra n rc) l):=No.o.ev HEW.o;rcases Nat.eq_zero_or_pos n with yJ|yJ
       .obtain⟨rfl,rfl⟩:=HL0.o yJ;subst yJ;go_wp2_with(at_builtin;refine cZ (α:=aV) rfl _ _ _ rfl M (w.heap.size+1) 86 i0 _ 24 underlying33 ed ej dO er rfl (by decide) (.slice a2 (0+1) c2) (l.take 0++[⟨rn,ri⟩]) rfl (dh.o.below (uj w2 Jt)) _ (l) rfl qp.o (by rw[vQ.o,eF.o];unfold maxLen;omega) (by rw[vQ.o,eF.o];omega) (by have:=aQ.o.bF;simp at this⊢;omega) ?_;rw[vQ.o,eF.o];intro a3 c3 w3 j9 yS bP;have pK:=af j9;have bO:=af bP;clear j9 yS bP);go_ret;have h4:=pK.o.slice (λj hj=>Nat.lt_succ_of_lt (lM.o j hj));exact⟨_,rfl,by simpa using h4,((aQ.o.drewN Jt).du bO.o (by simp)).1⟩
       .obtain⟨b,off,rfl⟩:=HRA.o yJ;go_wp2_with(at_builtin;refine cZ (α:=aV) rfl _ _ _ rfl M (w.heap.size+1) 86 i0 _ 24 underlying33 ed ej dO er rfl (by decide) (.slice a2 (0+1) c2) (l.take 0++[⟨rn,ri⟩]) rfl (dh.o.below (uj w2 Jt)) _ (l) rfl qp.o (by rw[vQ.o,eF.o];unfold maxLen;omega) (by rw[vQ.o,eF.o];omega) (by have:=aQ.o.bF;simp at this⊢;omega) ?_;rw[vQ.o,eF.o];intro a3 c3 w3 j9 yS bP;have pK:=af j9;have bO:=af bP;clear j9 yS bP);go_ret;have h4:=pK.o.slice (λj hj=>Nat.lt_succ_of_lt (lM.o j hj));exact⟨_,rfl,by simpa using h4,((aQ.o.drewN Jt).du bO.o (by simp)).1⟩
      .obtain⟨b,off,rfl⟩:=HRA.o (by omega);have WX:=af (show(l.drop i).length=n-i by rw[List.length_drop,eF.o]);obtain⟨ap,RP⟩:=jO ((if rc=i then some (⟨b,off,none⟩:Addr)else some ⟨b,off+i*2,none⟩));have qdt:¬i*2=0:=by omega
       have qp:=af (show ab (bg (xL a2 (i+1) c2) M) (w2.drewN Jt) (xL ap (n-i) (rc-i)) (l.drop i)by
        have j6:=(No.o.ev HEW.o).from_ eF.o (k:=i) hj;rw[<-RP];simpa [Addr.add,show au.size aV=2 from rfl,qdt]using j6);go_wp2_with(at_builtin;refine cZ (α:=aV) rfl _ _ _ rfl M (w.heap.size+1) 86 i0 _ 24 underlying33 ed ej dO er rfl (by decide) (.slice a2 (i+1) c2) (l.take i++[⟨rn,ri⟩]) rfl (dh.o.below (uj w2 Jt)) _ (l.drop i) rfl qp.o (by rw[vQ.o,WX.o];unfold maxLen;omega) (by rw[vQ.o,WX.o];omega) (by have:=aQ.o.bF;simp at this⊢;omega) ?_;rw[vQ.o,WX.o];intro a3 c3 w3 j9 yS bP;have pK:=af j9;have bO:=af bP;clear j9 yS bP);go_ret;have h4:=pK.o.slice (λj hj=>Nat.lt_succ_of_lt (lM.o j hj));exact⟨_,rfl,by simpa using h4,((aQ.o.drewN Jt).du bO.o (by simp)).1⟩
def LJ:(Tryz.prog.info? 66).map (λi=>(i.zero,i.size,i.bytes))=some (some (.agg #[xI 0,xI 0,xI 0,xL none 0 0]),4,48):=by kernel_rfl
def DJ {M:aN}{w:aj}{l:List jF}(h:ab M w v l){x:jF}(hx:l[k]? =some x):∃b off cap vv,v=xL (some ⟨b,off,none⟩) l.length cap/\b<w.heap.size/\ab (α:=Int) M w vv x.aR/\(I6 x.cls/\I6 x.ver/\I6 x.skip/\∀y∈x.aR,I6 y)/\∀W,aq w W->bt W b (off+k*4) (xI x.cls)/\bt W b (off+k*4+1) (xI x.ver)/\bt W b (off+k*4+2) vv/\bt W b (off+k*4+3) (xI x.skip):=by
 obtain⟨a,cap,rfl,hl,_,hc⟩:=h.open_;have hk:=(Qad.1 hx).1;obtain⟨b,off,rfl,_,hb,aL⟩:=hc (by omega);obtain⟨cs,⟨vv,rfl,h1,h2⟩,bJ⟩:=aL k x hx;refine⟨b,off,cap,vv,rfl,hb,h1,h2,λW hB=> ?_⟩;have g:∀j u,([xI x.cls,xI x.ver,vv,xI x.skip]:List an)[j]? =some u->bt W b (off+k*4+j) u:=λj u hu=>(hB.cell (p:=⟨b,off+k*4+j,none⟩) hb).trans (bJ j u hu);exact⟨g 0 _ rfl,g 1 _ rfl,g 2 _ rfl,g 3 _ rfl⟩
def DK {M:aN}{w:aj}{l:List jQ}(h:ab M w v l){x:jQ}(hx:l[k]? =some x):∃b off cap,v=xL (some ⟨b,off,none⟩) l.length cap/\b<w.heap.size/\(I6 x.name/\I6 x.id)/\∀W,aq w W->bt W b (off+k*2) (xI x.name)/\bt W b (off+k*2+1) (xI x.id):=by
 obtain⟨a,cap,rfl,hl,_,hc⟩:=h.open_;have hk:=(Qad.1 hx).1;obtain⟨b,off,rfl,_,hb,aL⟩:=hc (by omega);obtain⟨cs,⟨rfl,h2⟩,bJ⟩:=aL k x hx;refine⟨b,off,cap,rfl,hb,h2,λW hB=> ?_⟩;have g:∀j u,([xI x.name,xI x.id]:List an)[j]? =some u->bt W b (off+k*2+j) u:=λj u hu=>(hB.cell (p:=⟨b,off+k*2+j,none⟩) hb).trans (bJ j u hu);exact⟨g 0 _ rfl,g 1 _ rfl⟩
def NI(lv ov rv:an)(n:Int):Obj:=xK #[lv,ov,rv,xI n] 35
def uW(l o r:an):Obj:=xK #[l,o,r] 26
structure kQ(M:aN)(w w1:aj)(o0 o1:Obj)(K:Nat)(lv:an)(ls:List aH)(many:Int)(i cap:Nat)(a:fA)(os:List bE)(nx:Int)(wr:aj):Prop where
 len:os.length=i
 ids:∀(j:Nat)(o:bE),os[j]? =some o->o.id=(j:Int)+1/\∃k v l,iS ls many o k v l
 blk:wr.heap[K]? =some (NI lv (xL a i cap) (xL none 0 0) nx)
 acc:aK (rA M w K) (K+1) 66 wr (xL a i cap) os
 ls0:ab (ew M w 2) w1 lv ls
 low:Below K w1 wr
 kw:K=w1.heap.size
 bx:Bx w [o0,o1] wr
 hK:w.heap.size+2<=K
section
variable {M:aN}{w w1 wr W:aj}{o0 o1:Obj}{K:Nat}{lv:an}{ls:List aH}{many:Int}{i cap:Nat}{a:fA}{os:List bE}{nx:Int}
theorem kQ.lt(h:kQ M w w1 o0 o1 K lv ls many i cap a os nx wr):K<wr.heap.size:=(Qaa.1 h.blk).1
theorem kQ.below(h:kQ M w w1 o0 o1 K lv ls many i cap a os nx wr)(hb:aq wr W):kQ M w w1 o0 o1 K lv ls many i cap a os nx W:=
 ⟨h.len,h.ids,(hb.block K h.lt).trans h.blk,h.acc.below hb,h.ls0,h.low.trans (hb.mono (Nat.le_of_lt h.lt)),h.kw,h.bx.below hb,h.hK⟩
theorem kQ.bd(h:kQ M w w1 o0 o1 K lv ls many i cap a os nx wr)(hM:Bd M w):Bd (bg (xL a i cap) (rA M w K)) wr:=λj hj=>by
 have hl:=h.lt;rcases hj with hj|hj
 .have:=ud hM h.hK j hj;omega
 .exact(h.acc.cJ j hj).2
theorem kQ.ev1(h:kQ M w w1 o0 o1 K lv ls many i cap a os nx wr):Ev (ew M w 2) w1 (bg (xL a i cap) (rA M w K)) wr:=
 ⟨ai.ao (by rw[<-h.kw];exact h.low),λj hj=>by
   have hk:=h.kw;rcases hj with(hj|hj)|hj
   .exact .inl hj
   .right;omega
   .have:=(h.acc.cJ j hj).1;right;omega⟩
theorem kQ.ev0(h:kQ M w w1 o0 o1 K lv ls many i cap a os nx wr):Ev M w (bg (xL a i cap) (rA M w K)) wr:=
 ⟨ai.ao h.bx.1,λj hj=>by
   have hk:=h.hK;rcases hj with((hj|hj)|hj)|hj
   .exact .inl hj
   .exact .inr hj.1
   .right;omega
   .have:=(h.acc.cJ j hj).1;right;omega⟩
theorem kQ.put(h:kQ M w w1 o0 o1 K lv ls many i cap a os nx wr)(hM:Bd M w){ob:Obj}{o:bE}{a2:fA}{c2:Nat}(bC:aq wr w2)(hid:o.id=(i:Int)+1)(zd:∃k v l,iS ls many o k v l)(hacc:aK (rA M w K) (K+1) 66 w3 (xL a2 (i+1) c2) (os++[o]))(bP:Below (K+1) (w2.alloc ob) w3):
 kQ M w w1 o0 o1 K lv ls many (i+1) c2 a2 (os++[o]) nx (w3.setCell ⟨K,1,none⟩ (xL a2 (i+1) c2)):=by
 have hl:=h.lt;have hK:=h.hK;have hz:=bC.size;have yT:bR w3 K (NI lv (xL a i cap) (xL none 0 0) nx):=(bP.block K (by omega)).trans ((Qcb w2 ob K (by omega)).trans ((bC.block K hl).trans h.blk));have FZ:Below K wr w3:=((bC.mono (by omega)).alloc (by omega) ob).trans (bP.mono (by omega));refine⟨by simp[h.len],λj y hj=> ?_,?_,?_,h.ls0,?_,h.kw,?_,hK⟩
 .by_cases hji:j<os.length
  .rw[Qbc hji]at hj;exact h.ids j y hj
  .have hj2:=(Qad.1 hj).1;have hlen:=h.len;simp at hj2;obtain rfl:j=i:=by omega
   have e:y=o:=by
    rw[Qbd (by omega),show j-os.length=0 from by omega]at hj;simpa using hj.symm
   subst e;exact⟨hid,zd⟩
 .have:=Qca w3 K 1 _ _ (xL a2 (i+1) c2) yT;simpa [NI]using this
 .exact hacc.vz (p:=⟨K,1,none⟩) (.inr rfl) (by show K<K+1;omega) _
 .exact(h.low.trans FZ).setCell (Qab K) _
 .exact(h.bx.du FZ (by simp;omega)).du (B:=K) (dQ.setCell (Qab K) _) (by simp;omega)
theorem kQ.num(h:kQ M w w1 o0 o1 K lv ls many i cap a os nx wr)(n2:Int):kQ M w w1 o0 o1 K lv ls many i cap a os n2 (wr.setCell ⟨K,3,none⟩ (xI n2)):=by
 have hK:=h.hK;refine⟨h.len,h.ids,?_,?_,h.ls0,?_,h.kw,?_,hK⟩
 .have:=Qca wr K 3 _ _ (xI n2) h.blk;simpa [NI]using this
 .exact h.acc.vz (p:=⟨K,3,none⟩) (.inr rfl) (by show K<K+1;omega) _
 .exact h.low.setCell (Qab K) _
 .exact h.bx.du (B:=K) (dQ.setCell (Qab K) _) (by simp;omega)
end
structure lR(M:aN)(w:aj)(o0 o1:Obj)(K:Nat)(lv ov rv:an)(ls:List aH)(os:List bE)(rs:List aV)(nx:Int)(j:Nat)(wr:aj):Prop where
 blk:wr.heap[K]? =some (NI lv ov rv nx)
 sl:ab (rA M w K) wr lv ls
 so:ab (rA M w K) wr ov os
 sr:ab (rA M w K) wr rv rs
 nil:rs=[]->rv=xL none 0 0
 rng:∀r∈rs,1<=r.id/\r.id<=os.length
 len:rs.length<=j
 nms:∃ks:List Nat,ks.Pairwise (·< ·)/\(∀k∈ks,k<5)/\rs.map aV.name=ks.map vD
 bx:Bx w [o0,o1] wr
 hK:w.heap.size+2<=K
section
variable {M:aN}{w wr W:aj}{o0 o1:Obj}{K:Nat}{lv ov rv:an}{ls:List aH}{os:List bE}{rs:List aV}{nx:Int}{j:Nat}
theorem lR.lt(h:lR M w o0 o1 K lv ov rv ls os rs nx j wr):K<wr.heap.size:=(Qaa.1 h.blk).1
theorem lR.below(h:lR M w o0 o1 K lv ov rv ls os rs nx j wr)(hb:aq wr W):lR M w o0 o1 K lv ov rv ls os rs nx j W:=
 ⟨(hb.block K h.lt).trans h.blk,h.sl.below hb,h.so.below hb,h.sr.below hb,h.nil,h.rng,h.len,h.nms,h.bx.below hb,h.hK⟩
theorem lR.bd(h:lR M w o0 o1 K lv ov rv ls os rs nx j wr)(hM:Bd M w):Bd (rA M w K) wr:=λi hi=>by have:=ud hM h.hK i hi;have:=h.lt;omega
theorem lR.Zk(h:lR M w o0 o1 K lv ov rv ls os rs nx j wr)(i:Nat)(u:an):Ev (rA M w K) wr (rA M w K) (wr.setCell ⟨K,i,none⟩ u)/\Bx w [o0,o1] (wr.setCell ⟨K,i,none⟩ u):=
 ⟨(Ev.refl _ _).setCell (.inl (.inr rfl)) u,h.bx.du (B:=K) (dQ.setCell (Qab K) _) (by have:=h.hK;simp;omega)⟩
theorem lR.root(h:lR M w o0 o1 K lv ov rv ls os rs nx j wr){rv2:an}{KO:List aV}(hb:aq wr w2)(hs:ab (rA M w K) w2 rv2 KO)(hne:KO≠[])(hr:∀r∈KO,1<=r.id/\r.id<=os.length)(hl:KO.length<=j+1)(hn:∃ks:List Nat,ks.Pairwise (·< ·)/\(∀k∈ks,k<5)/\KO.map aV.name=ks.map vD):
 lR M w o0 o1 K lv ov rv2 ls os KO nx (j+1) (w2.setCell ⟨K,2,none⟩ rv2):=by
 have h2:=h.below hb;obtain⟨hE,hB⟩:=h2.Zk 2 rv2;refine⟨?_,h2.sl.ev hE,h2.so.ev hE,hs.ev hE,λe=>absurd e hne,hr,hl,hn,hB,h.hK⟩;have:=Qca w2 K 2 _ _ rv2 h2.blk;simpa [NI]using this
theorem lR.num(h:lR M w o0 o1 K lv ov rv ls os rs nx j wr)(n2:Int):lR M w o0 o1 K lv ov rv ls os rs n2 j (wr.setCell ⟨K,3,none⟩ (xI n2)):=by
 obtain⟨hE,hB⟩:=h.Zk 3 (xI n2);refine⟨?_,h.sl.ev hE,h.so.ev hE,h.sr.ev hE,h.nil,h.rng,h.len,h.nms,hB,h.hK⟩;have:=Qca wr K 3 _ _ (xI n2) h.blk;simpa [NI]using this
theorem kQ.roots {w1:aj}{cap:Nat}{a:fA}{i:Nat}{many:Int}(h:kQ M w w1 o0 o1 K lv ls many i cap a os nx wr)(hM:Bd M w):lR M w o0 o1 K lv (xL a i cap) (xL none 0 0) ls os [] nx 0 wr:=
 ⟨h.blk,(h.ls0.ev h.ev1).ev (Ev.dD _ λi hi=> .inl hi),h.acc.slice (ud hM h.hK),ab.nil _ _,λ_=>rfl,λr hr=>(by cases hr),bN,⟨[],by simp,by simp,rfl⟩,h.bx,h.hK⟩
theorem lR.fin(h:lR M w o0 o1 K lv ov rv ls os rs nx j wr)(Fx:dK ls)(hsf:Vk ls)(hol:os.length<=10)(qdu:∀(i:Nat)(o:bE),os[i]? =some o->o.id=(i:Int)+1/\∃k v l,iS ls (os.length:Int) o k v l)(hj:j<=5)(tJ:(os.length:Int)+1<=nx/\nx<=(os.length:Int)+3)(W':aj)(gU:W'=(((wr.setCell ⟨w.heap.size+1,0,none⟩ lv).setCell ⟨w.heap.size+1,1,none⟩ ov).setCell ⟨w.heap.size+1,2,none⟩ rv).setCell ⟨w.heap.size+1,3,none⟩ (xI nx)):
 (∃(x:aX)(UI UJ UK:an),BP x/\Value.agg #[lv,ov,rv,xI nx]= .agg #[UI,UJ,UK,xI x.next]/\ab M W' UI x.lines/\ab M W' UJ x.objs/\ab M W' UK x.roots)/\aq w W':=by
 have hm:rA M w K (w.heap.size+1):= .inl (.inr ⟨by omega,by omega⟩);have E:Ev (rA M w K) wr M W':=by
  rw[gU];exact((((Ev.dD wr λi hi=> .inl (.inl hi)).setCell (.inl hm) _).setCell (.inl hm) _).setCell (.inl hm) _).setCell (.inl hm) _
 refine⟨⟨⟨ls,os,rs,nx⟩,lv,ov,rv,⟨Fx,hol,qdu,Qcg h.len hj,h.rng,h.nms,tJ,hsf⟩,rfl,h.sl.ev E,h.so.ev E,h.sr.ev E⟩,?_⟩;rw[gU];exact(((h.bx.1.setCell (by simp) _).setCell (by simp) _).setCell (by simp) _).setCell (by simp) _
end
theorem Aw(q:Nat):∀ks:List Nat,ks.Pairwise (·< ·)->∃j d,j+d<=ks.length/\d<=1/\(∀i y,i<j->ks[i]? =some y->y<q)/\(∀y,ks[j]? =some y->¬y<q/\(y=q↔d=1))/\(ks.take j++[q]++ks.drop (j+d)).Pairwise (·< ·)
 |[],_=>⟨0,0,by simp,by omega,λi y h=>by omega,λy h=>by simp at h,by simp⟩
 |k::r,hp=>by
  have F4:=List.pairwise_cons.1 hp;rcases Nat.lt_trichotomy k q with bu|rfl|hgt
  .obtain⟨j,d,h1,h2,h3,h4,h5⟩:=Aw q r F4.2;refine⟨j+1,d,by simp;omega,h2,λi y hi hy=> ?_,λy hy=> ?_,?_⟩
   .match i,hi,hy with
    |0,_,hy=>simp at hy;omega
    |i+1,hi,hy=>exact h3 i y (by omega) (by simpa using hy)
   .exact h4 y (by simpa using hy)
   .rw[show j+1+d=(j+d)+1 from by omega];simp only[List.take_succ_cons,List.drop_succ_cons,List.cons_append];refine List.pairwise_cons.2 ⟨λy hy=> ?_,h5⟩;simp only[Qch,List.mem_singleton]at hy;rcases hy with(hy|rfl)|hy
    .exact F4.1 y (List.mem_of_mem_take hy)
    .exact bu
    .exact F4.1 y (List.mem_of_mem_drop hy)
  .refine⟨0,1,by simp,by omega,λi y h=>by omega,λy hy=> ?_,?_⟩
   .simp at hy;omega
   .simpa using hp
  .refine⟨0,0,by simp,by omega,λi y h=>by omega,λy hy=> ?_,?_⟩
   .simp at hy;omega
   .simp only[List.take_zero,List.nil_append,Nat.add_zero,List.drop_zero,List.singleton_append];refine List.pairwise_cons.2 ⟨λy hy=> ?_,hp⟩;rcases Qdf.1 hy with rfl|hy
    .exact hgt
    .exact Nat.lt_trans hgt (F4.1 y hy)
def LK {rs:List aV}{ks:List Nat}(h1:ks.Pairwise (·< ·))(h2:∀k∈ks,k<5)(h3:rs.map aV.name=ks.map vD)(q:Nat)(hq:q<5):∃j d,j+d<=rs.length/\d<=1/\(∀i y,i<j->rs[i]? =some y->Op.bytesLess y.name.toList (vD q).toList=true)/\(∀y,rs[j]? =some y->Op.bytesLess y.name.toList (vD q).toList=false/\(y.name.toList==(vD q).toList)=decide (d=1))/\∀id:Int,∃ks':List Nat,ks'.Pairwise (·< ·)/\(∀k∈ks',k<5)/\(rs.take j++[(⟨vD q,id⟩:aV)]++rs.drop (j+d)).map aV.name=ks'.map vD:=by
 have hl:rs.length=ks.length:=by have:=congrArg List.length h3;simpa using this
 have at_:∀(i:Nat)(y:aV),rs[i]? =some y->∃k,ks[i]? =some k/\k<5/\y.name=vD k:=λi y hy=>by
  have hk:=(Qad.1 hy).1;have e:(rs.map aV.name)[i]? =(ks.map vD)[i]? :=by rw[h3]
  rw[List.getElem?_map,List.getElem?_map,hy]at e;obtain⟨k,ou⟩:=eB ks i (by omega);rw[ou]at e;exact⟨k,ou,h2 k (Qaf ou),by simpa using e⟩
 obtain⟨j,d,a1,a2,a3,a4,a5⟩:=Aw q ks h1;refine⟨j,d,by omega,a2,λi y hi hy=> ?_,λy hy=> ?_,λid=>⟨_,a5,λk hk=> ?_,?_⟩⟩
 .obtain⟨k,k1,k2,k3⟩:=at_ i y hy;rw[k3,xA k k2 q hq];exact decide_eq_true (a3 i k hi k1)
 .obtain⟨k,k1,k2,k3⟩:=at_ j y hy;obtain⟨b1,b2⟩:=a4 k k1;rw[k3,xA k k2 q hq,OP k k2 q hq];exact⟨decide_eq_false b1,by rw[decide_eq_decide];exact b2⟩
 .simp only[Qch,List.mem_singleton]at hk;rcases hk with(hk|rfl)|hk
  .exact h2 k (List.mem_of_mem_take hk)
  .exact hq
  .exact h2 k (List.mem_of_mem_drop hk)
 .simp only[List.map_append,List.map_take,List.map_drop,h3,List.map_cons,List.map_nil]
end
section
open Go.ChangeShapes Go.WideShapes Go.ChangeAt Go.RowKit Go.Deep
def LM {x:Int}(h:(Lit.int .i64 x).wf=true):I6 x:=by
 unfold I6;simpa [Lit.wf,IntKind.min,IntKind.max,IntKind.signed,IntKind.bits]using h
def He {W:aj}{a:Addr}(h:W.cell? a=some v):a.spot=none:=by
 unfold World.cell? at h;split at h
 .split at h
  .cases h
  .rename_i h1;simpa using h1
 .cases h
theorem sd {α:Type}{Q:Nat->α->Prop}:∀(n:Nat),(∀i,i<n->∃c,Q i c)->∃cs:List α,cs.length=n/\∀j c,cs[j]? =some c->Q j c
 |0,_=>⟨[],rfl,λj c h=>by simp at h⟩
 |n+1,h=>by
  obtain⟨cs,hl,hc⟩:=sd n λi hi=>h i (by omega);obtain⟨c,fV⟩:=h n (by omega);refine⟨cs++[c],by simp[hl],λj d hj=> ?_⟩;by_cases hjn:j<n
  .rw[Qbc (by omega)]at hj;exact hc j d hj
  .have hj2:j<(cs++[c]).length:=(Qad.1 hj).1;have:j=n:=by simp[hl]at hj2;omega
   subst this;rw[Qbd (by omega),hl]at hj;simp at hj;subst hj;exact fV
theorem se {size:Nat}:∀(css:List (List an)),(∀cs∈css,cs.length=size)->css.flatten.length=css.length*size
 |[],_=>by simp
 |a::r,h=>by
  rw[List.flatten_cons,Qda,se r (λcs hc=>h cs (List.mem_cons_of_mem _ hc)),h a List.mem_cons_self,Qcc,Nat.succ_mul];omega
def Rd {H:Type}(enc:TypeId×an->H)(W:aj)(t:TypeId)(cs:List an):Prop:=∃fuel x,DataW.trod enc prog W 0 (λ_=>true) true fuel t cs=some x
section
variable {H:Type}{enc:TypeId×an->H}{W:aj}
def fT(h:Rd enc W 3 cs):∃z,cs=[xI z]/\I6 z:=by
 obtain⟨n,x,h⟩:=h;obtain⟨z,e,_,w⟩:=DataW.trod_int underlying3 h;exact⟨z,e,LM w⟩
def St(h:Rd enc W 4 cs):∃z,cs=[xB z]:=by
 obtain⟨n,x,h⟩:=h;obtain⟨z,e,_⟩:=DataW.trod_bool underlying4 h;exact⟨z,e⟩
def cX {fs:Array Field}(he:Tryz.prog.underlying t=some (.struct fs))(h:Rd enc W t cs)(j:Nat)(f:Field)(hj:fs[j]? =some f):Rd enc W f.type ((cs.drop f.offset).take (Tryz.prog.cellsOf f.type)):=by
 obtain⟨n,x,h⟩:=h;obtain⟨ys,n',hn',hy,hlen,hyl,hf⟩:=DataW.trod_struct he h;have CJ:j<fs.size:=(Qaa.1 hj).1;exact⟨n',_,(hf j f hj).trans (Qac (by omega))⟩
def OR {α:Type} [au α]{ts te:TypeId}{fuel:Nat}{Q:α->Prop}(vJ:Tryz.prog.underlying ts=some (.slice te))(hsz:Tryz.prog.cellsOf te=au.size α)(vI:0<au.size α)
 (each:∀n cs,n<fuel->cs.length=au.size α->(∃x,DataW.trod enc prog W 0 (λ_=>true) true n te cs=some x)->∃y:α,au.rep xF W cs y/\Q y)(h:∃x,DataW.trod enc prog W 0 (λ_=>true) true fuel ts [v]=some x):∃ys:List α,ab xF W v ys/\∀y∈ys,Q y:=by
 obtain⟨x0,h⟩:=h;rcases DataW.trod_slice vJ h with h0|⟨a,len,cap,elems,rest,n,hf,bJ,hx,hb,hl,hm,hle,hi,_⟩
 .have:=h0.1;simp at this;subst this;exact⟨[],ab.nil _ _,λy hy=>by cases hy⟩
 .simp at bJ;subst bJ;obtain⟨ps,hlen,j5⟩:=sd (Q:=λi(p:List an×α)=>p.1.length=au.size α/\au.rep xF W p.1 p.2/\Q p.2/\∀(j:Nat)(u:an),p.1[j]? =some u->W.cell? (a.add (i*au.size α+j))=some u) len (λi ze=>by
   obtain⟨cs',hc,Fv⟩:∃cs',W.cells? 0 (a.add (i*Tryz.prog.cellsOf te)) (Tryz.prog.cellsOf te)=some cs'/\DataW.trod enc prog W 0 (λ_=>true) true n te cs'=some (elems[i]'(by omega)):=
    Option.bind_eq_some_iff.1 ((hi i ze).trans (Qac (by omega)));rw[hsz]at hc;obtain⟨_,l8,ru⟩:=World.cells?_some hc;obtain⟨y,h1,h2⟩:=each n cs' (by omega) l8 ⟨_,Fv⟩;refine⟨(cs',y),l8,h1,h2,λj u hu=> ?_⟩;have hj:j<au.size α:=by rw[<-l8];exact(Qad.1 hu).1
   rw[<-Go.Deep.add_add,ru j hj,hu]);have TB:∀(i:Nat)(cs:List an),(ps.map (·.1))[i]? =some cs->cs.length=au.size α:=λi cs hc=>by
   rw[List.getElem?_map]at hc;obtain⟨p,hp,rfl⟩:=Option.map_eq_some_iff.1 hc;exact(j5 i p hp).1
  have Np:(ps.map (·.1)).flatten.length=len*au.size α:=by
   rw[se _ (λcs bJ=>by obtain⟨i,hi⟩:=List.getElem?_of_mem bJ;exact TB i cs hi),Qdc,hlen]
  refine⟨ps.map (·.2),⟨ps.map (·.1),⟨by rw[Np,Qdc,hlen],some a,cap,by rw[Qdc,hlen],by rw[Qdc];omega,hm,λhp=> ?_⟩,by simp,λi cs x hc hx=> ?_⟩,λy hy=> ?_⟩
  .rw[Qdc,hlen]at hp;have h0:W.cell? (a.add 0)≠none:=by
    obtain⟨p,hp0⟩:=eB ps 0 (by omega);obtain⟨e1,_,_,e4⟩:=j5 0 p hp0;obtain⟨u,hu⟩:=eB p.1 0 (by omega);have:=e4 0 u hu;rw[Nat.zero_mul]at this;rw[this];simp
   obtain⟨u0,hu0⟩:=Option.ne_none_iff_exists'.1 h0;simp[Addr.add]at hu0;obtain⟨b,off,sp⟩:=a;have Yn:=He hu0;simp at Yn;subst Yn;have cR:=oL hu0;have ea:∀k,(Addr.add ⟨b,off,none⟩ k)=⟨b,off+k,none⟩:=λk=>by
    unfold Addr.add;split
    .rename_i h;subst h;rfl
    .rfl
   refine⟨b,off,rfl,λhf=>hf,cR,λj u hu=> ?_⟩;have hj:j<len*au.size α:=by rw[<-Np];exact(Qad.1 hu).1
   have Ym:j/au.size α<len:=(Nat.div_lt_iff_lt_mul vI).2 hj;have CN:j%au.size α<au.size α:=Nat.mod_lt _ vI;obtain⟨p,uE⟩:=eB ps (j/au.size α) (by omega);obtain⟨e1,_,_,e4⟩:=j5 _ p uE;obtain⟨u',hu'⟩:∃u',p.1[j%au.size α]? =some u':=⟨_,Qac (by omega)⟩;have e5:=iu TB (j/au.size α) p.1 (j%au.size α) u' (by rw[List.getElem?_map,uE];rfl) hu';have e6:j/au.size α*au.size α+j%au.size α=j:=by rw[Nat.mul_comm];exact Nat.div_add_mod _ _
   rw[e6,hu]at e5;obtain rfl:=Option.some.inj e5;have:=e4 _ _ hu';rw[ea,e6]at this;exact this
  .rw[List.getElem?_map]at hc hx;obtain⟨p,hp,rfl⟩:=Option.map_eq_some_iff.1 hc;rw[hp]at hx;obtain rfl:=Option.some.inj hx;exact(j5 i p hp).2.1
  .obtain⟨p,hp,rfl⟩:=List.mem_map.1 hy;obtain⟨i,Ym⟩:=List.getElem?_of_mem hp;exact(j5 i p Ym).2.2.1
def pW {α:Type} [au α]{ts te:TypeId}{Q:α->Prop}(vJ:Tryz.prog.underlying ts=some (.slice te))(hsz:Tryz.prog.cellsOf te=au.size α)(vI:0<au.size α)
 (each:∀cs,cs.length=au.size α->Rd enc W te cs->∃y:α,au.rep xF W cs y/\Q y)(h:Rd enc W ts [v]):∃ys:List α,ab xF W v ys/\∀y∈ys,Q y:=by
 obtain⟨n0,hx⟩:=h;exact OR vJ hsz vI (λn cs _ hl ht=>each cs hl ⟨n,ht⟩) hx
def J1(h:Rd enc W 27 [v]):∃ys:List Int,ab xF W v ys/\∀y∈ys,I6 y:=
 pW (α:=Int) underlying27 (by kernel_rfl) (by decide) (λcs _ h=>by
  obtain⟨z,rfl,hz⟩:=fT h;exact⟨z,rfl,hz⟩) h
def OS(h:cs.length=4):∃a b c d,cs=[a,b,c,d]:=by
 match cs,h with
 |[a,b,c,d],_=>exact⟨a,b,c,d,rfl⟩
def cells3(h:cs.length=3):∃a b c,cs=[a,b,c]:=by
 match cs,h with
 |[a,b,c],_=>exact⟨a,b,c,rfl⟩
def Vr(h:cs.length=2):∃a b,cs=[a,b]:=by
 match cs,h with
 |[a,b],_=>exact⟨a,b,rfl⟩
def Vs(h:cs.length=8):∃a b c d e f g i,cs=[a,b,c,d,e,f,g,i]:=by
 match cs,h with
 |[a,b,c,d,e,f,g,i],_=>exact⟨a,b,c,d,e,f,g,i,rfl⟩
end
def oW:Tryz.prog.cellsOf 3=1:=by kernel_rfl
def Zl:Tryz.prog.cellsOf 4=1:=by kernel_rfl
def qcp:Tryz.prog.cellsOf 49=2:=by kernel_rfl
def Zm:Tryz.prog.cellsOf 138=2:=by kernel_rfl
def cFs:Tryz.prog.cellsOf 136=1:=by kernel_rfl
def qcq:Tryz.prog.cellsOf 139=1:=by kernel_rfl
def cIs:Tryz.prog.cellsOf 27=1:=by kernel_rfl
def cLs:Tryz.prog.cellsOf 22=1:=by kernel_rfl
def cOs:Tryz.prog.cellsOf 23=1:=by kernel_rfl
def cRs:Tryz.prog.cellsOf 24=1:=by kernel_rfl
section
variable {H:Type}{enc:TypeId×an->H}{W:aj}
def DL(cs:List an)(hl:cs.length=4)(h:Rd enc W 198 cs):∃y:jn,au.rep xF W cs y/\True:=by
 obtain⟨a,b,c,d,rfl⟩:=OS hl;have h0:Rd enc W 3 [a]:=by simpa [oW]using cX underlying198 h 0 _ rfl
 have h1:Rd enc W 3 [b]:=by simpa [oW]using cX underlying198 h 1 _ rfl
 have h2:Rd enc W 3 [c]:=by simpa [oW]using cX underlying198 h 2 _ rfl
 have h3:Rd enc W 4 [d]:=by simpa [Zl]using cX underlying198 h 3 _ rfl
 obtain⟨z0,e0,w0⟩:=fT h0;obtain⟨z1,e1,w1⟩:=fT h1;obtain⟨z2,e2,w2⟩:=fT h2;obtain⟨z3,e3⟩:=St h3;simp at e0 e1 e2 e3;subst e0 e1 e2 e3;exact⟨⟨z0,z1,z2,z3⟩,⟨rfl,w0,w1,w2⟩,trivial⟩
def OT(cs:List an)(hl:cs.length=8)(h:Rd enc W 195 cs):∃y:fD,au.rep xF W cs y/\True:=by
 obtain⟨a,b,c,d,e,f,g,i,rfl⟩:=Vs hl;have h0:Rd enc W 3 [a]:=by simpa [oW]using cX underlying195 h 0 _ rfl
 have h1:Rd enc W 3 [b]:=by simpa [oW]using cX underlying195 h 1 _ rfl
 have h2:Rd enc W 3 [c]:=by simpa [oW]using cX underlying195 h 2 _ rfl
 have h3:Rd enc W 3 [d]:=by simpa [oW]using cX underlying195 h 3 _ rfl
 have h4:Rd enc W 49 [e,f]:=by simpa [qcp]using cX underlying195 h 4 _ rfl
 have h5:Rd enc W 3 [g]:=by simpa [oW]using cX underlying195 h 5 _ rfl
 have h6:Rd enc W 3 [i]:=by simpa [oW]using cX underlying195 h 6 _ rfl
 have h7:Rd enc W 3 [e]:=by simpa [oW]using cX underlying49 h4 0 _ rfl
 have h8:Rd enc W 3 [f]:=by simpa [oW]using cX underlying49 h4 1 _ rfl
 obtain⟨z0,e0,w0⟩:=fT h0;obtain⟨z1,e1,w1⟩:=fT h1;obtain⟨z2,e2,w2⟩:=fT h2;obtain⟨z3,e3,w3⟩:=fT h3;obtain⟨z5,e5,w5⟩:=fT h5;obtain⟨z6,e6,w6⟩:=fT h6;obtain⟨z7,e7,w7⟩:=fT h7;obtain⟨z8,e8,w8⟩:=fT h8;simp at e0 e1 e2 e3 e5 e6 e7 e8;subst e0 e1 e2 e3 e5 e6 e7 e8;exact⟨⟨z0,z1,z2,z3,⟨z7,z8⟩,z5,z6⟩,⟨rfl,w0,w1,w2,w3,w7,w8,w5,w6⟩,trivial⟩
def Hf(cs:List an)(hl:cs.length=3)(h:Rd enc W 141 cs):∃y:gW,au.rep xF W cs y/\True:=by
 obtain⟨a,b,c,rfl⟩:=cells3 hl;have h0:Rd enc W 138 [a,b]:=by simpa [Zm]using cX underlying141 h 0 _ rfl
 have h1:Rd enc W 139 [c]:=by simpa [qcq]using cX underlying141 h 1 _ rfl
 have h2:Rd enc W 3 [a]:=by simpa [oW]using cX underlying138 h0 0 _ rfl
 have h3:Rd enc W 136 [b]:=by simpa [cFs]using cX underlying138 h0 1 _ rfl
 obtain⟨z2,e2,w2⟩:=fT h2;simp at e2;subst e2;obtain⟨fs,s3,_⟩:=pW (α:=jn) underlying136 (by kernel_rfl) (by decide) DL h3;obtain⟨chs,s1,_⟩:=pW (α:=fD) underlying139 (by kernel_rfl) (by decide) OT h1;exact⟨⟨⟨z2,fs⟩,chs⟩,⟨b,c,rfl,s3,s1,w2⟩,trivial⟩
def LN(cs:List an)(hl:cs.length=4)(h:Rd enc W 81 cs):∃y:jF,au.rep xF W cs y/\True:=by
 obtain⟨a,b,c,d,rfl⟩:=OS hl;have h0:Rd enc W 3 [a]:=by simpa [oW]using cX underlying81 h 0 _ rfl
 have h1:Rd enc W 3 [b]:=by simpa [oW]using cX underlying81 h 1 _ rfl
 have h2:Rd enc W 27 [c]:=by simpa [cIs]using cX underlying81 h 2 _ rfl
 have h3:Rd enc W 3 [d]:=by simpa [oW]using cX underlying81 h 3 _ rfl
 obtain⟨z0,e0,w0⟩:=fT h0;obtain⟨z1,e1,w1⟩:=fT h1;obtain⟨vs,s2,w2⟩:=J1 h2;obtain⟨z3,e3,w3⟩:=fT h3;simp at e0 e1 e3;subst e0 e1 e3;exact⟨⟨z0,z1,vs,z3⟩,⟨c,rfl,s2,w0,w1,w3,w2⟩,trivial⟩
def Hg(cs:List an)(hl:cs.length=2)(h:Rd enc W 84 cs):∃y:jQ,au.rep xF W cs y/\True:=by
 obtain⟨a,b,rfl⟩:=Vr hl;obtain⟨n,x,h⟩:=h;obtain⟨xs,m1,hm,RA,hlen,Yf,WM⟩:=DataW.trod_array underlying84 h;have g:∀i,i<2->Rd enc W 3 (([a,b].drop (i*Tryz.prog.cellsOf 3)).take (Tryz.prog.cellsOf 3)):=λi hi=>⟨m1,_,(WM i hi).trans (Qac (by omega))⟩;have h0:Rd enc W 3 [a]:=by simpa [oW]using g 0 (by omega)
 have h1:Rd enc W 3 [b]:=by simpa [oW]using g 1 (by omega)
 obtain⟨z0,e0,w0⟩:=fT h0;obtain⟨z1,e1,w1⟩:=fT h1;simp at e0 e1;subst e0 e1;exact⟨⟨z0,z1⟩,⟨rfl,w0,w1⟩,trivial⟩
def OU {a b c:an}(h:Rd enc W 26 [a,b,c]):∃(ls:List gW)(os:List jF)(rs:List jQ),ab xF W a ls/\ab xF W b os/\ab xF W c rs:=by
 have h0:Rd enc W 22 [a]:=by simpa [cLs]using cX underlying26 h 0 _ rfl
 have h1:Rd enc W 23 [b]:=by simpa [cOs]using cX underlying26 h 1 _ rfl
 have h2:Rd enc W 24 [c]:=by simpa [cRs]using cX underlying26 h 2 _ rfl
 obtain⟨ls,s0,_⟩:=pW (α:=gW) underlying22 (by kernel_rfl) (by decide) Hf h0;obtain⟨os,s1,_⟩:=pW (α:=jF) underlying23 (by kernel_rfl) (by decide) LN h1;obtain⟨rs,s2,_⟩:=pW (α:=jQ) underlying24 (by kernel_rfl) (by decide) Hg h2;exact⟨ls,os,rs,s0,s1,s2⟩
end
end
end Go.Proofs.YtepaofffbkfodaaGreatDoor
