/- A part; no condition. -/
import Derived.Test.YtepaofffbkfodaaGreatDoorM13
import Derived.Test.YtepaofffbkfodaaGreatDoorRows
set_option linter.all false
set_option maxHeartbeats 8000000
set_option maxRecDepth 100000
namespace Go.Proofs.YtepaofffbkfodaaGreatDoor
open Go.Proofs.Tryz
variable{w A w2 W w' w3:ax}{B k:Nat}{c:aI}{ay:Int}{cs:List aA}{M M':aV}{xs:List Int}{v:aA}{e t:TypeId}
section
open Go.RowKit Go.Shelf
theorem Bx.only {B:ax}{os:List Obj}{S:aV}(h:Bx w os A)(ho:ao S A B)(hS:∀i,S i->w.heap.size+os.length<=i):Bx w os B:=by
 obtain⟨h1,h2,h3⟩:=h;refine⟨⟨ho.os.trans h1.os,ho.tape.trans h1.tape,ho.output.trans h1.output,Qcg h1.size ho.size,λi hi=>(ho.block i (by omega) (λhs=>by have:=hS i hs;omega)).trans (h1.block i hi)⟩,Qcg h2 ho.size,λi o hi=> ?_⟩;have hl:=(Qad.1 hi).1;exact ho.at_ (h3 i o hi) (λhs=>by have:=hS _ hs;omega)
def bq {S:aV}(h:Below B w w2)(hB:B<=w2)(k:ao S w2 W)(hS:∀i,S i->B<=i):Below B w W:=
 ⟨k.os.trans h.os,k.tape.trans h.tape,k.output.trans h.output,Qcg h.size k.size,λi hi=>(k.block i (by omega) (λhs=>by have:=hS i hs;omega)).trans (h.block i hi)⟩
def M6(b:Bool):Obj:=xK #[b] 4
def eh(x:bF)(vv:aA):Obj:=xK #[x.id,x.cL,x.cQ,vv] 66
def Fz(vv:aA):Obj:=xK #[vv] 42
structure GC(ay:Int)(x:bF):Prop where
 id1:1<=x.id
 id2:x.id<=100000
 c1:0<=x.cL
 c2:x.cL<8
 v1:0<=x.cQ
 v2:x.cQ<=12
 aZ:∃fs,bA fs ay x.aZ
 len:x.aZ.length<=8
def Dp(x:bF)(ay:Int)(hm:ay<=100000)(hx:GC ay x)(M:aV)(w:ax)(hM:Bd M w)(vv:aA)(hvs:ab M w vv x.aZ)(hT:Tb w):
 xC 184 #[.agg #[x.id,x.cL,x.cQ,vv]] w (cu true w):=by
 have SM:Hd (∀p W,aC w W->bW W p (Fz vv)->GA prog 198 #[xP p] W xF 0 0 (xq x.aZ (BI M w)) (λi=>i=x.aZ.length)):=λp W h1 h2=>Dn x.aZ M xF p w W h1 vv hvs h2 (λ_ h=>h.elim);obtain⟨fs,hfs⟩:=hx.aZ;have HR:Hd (∀W(i:Nat)v u N,x.aZ[i]? =some v->aC w W->cB N W u v->_):=λW i v u N hi hb hu=>by
  obtain⟨f,_,hf⟩:=fj hfs v (Qaf hi);exact rP hf hm hu (hT.ae hb)
 have MK:Hd (∀W(i:Nat)v u,x.aZ[i]? =some v->aC w W->cB M W u v->_):=λW i v u hi hb hu=>by
  obtain⟨f,_,hf⟩:=fj hfs v (Qaf hi);exact Ob hf hm (hM.ae hb) hu (hT.ae hb)
 have e1:=hx.id1;have e2:=hx.id2;have e3:=hx.c1;have e4:=hx.c2;have e5:=hx.v1;have e6:=hx.v2;have e7:=hx.len;obtain⟨xi,xc,xv,xs⟩:=x;dsimp only at*;obtain⟨a,cj,rfl,cY,hmx,_⟩:=hvs.aq;generalize hn:xs.length=n at*;have eJ:=ag hn;clear hn;have e8:(n:Int)<=8:=by omega
 clear hvs hfs hx hM hT;refine callsIn_wide.1 (callsIn_of_wp_marks (n:=0) func184 rfl trivial (wpIn_wide.2 ?_) rfl);simp only[ntmps184,List.size_toArray,Qcc,Qcd,Nat.reduceAdd,Nat.reduceSub,Array.replicate_succ,Array.replicate_zero,List.push_toArray,List.append_toArray,List.nil_append,List.cons_append];go_wp2_with fail;refine wp_scope_straight ?_;go_wp2_with fail;refine wp_label ?_;simp only[Exit.then];go_wp2_with fail;refine dw (Ju _ _ _ _) ?_;go_wp2_with fail;obtain⟨w2,hw2⟩:=bY (((w.alloc (eh ⟨xi,xc,xv,xs⟩ (xL a n cj))).alloc (M6 true)).alloc (Fz (xL a n cj)));have bg:=ag (show Bx w [eh ⟨xi,xc,xv,xs⟩ (xL a n cj),M6 true,Fz (xL a n cj)] w2 by rw[hw2];exact Bx.gj w _ _ _);have hz2:w2.heap.size=↑w+3:=by rw[hw2];simp
 unfold eh M6 Fz at hw2;rw[<-hw2];clear hw2;have yO:=ag (SM.o _ w2 bg.o.1 (bg.o.fB rfl));refine wpIn_wide.1 (pV rfl (enters_of func198 (by kernel_rfl) rfl) xF 0 0 (xq xs (BI M w)) (λi=>i=n) yO.o (λi args i' W h=>by obtain⟨_,v,u,_,rfl,_⟩:=h;rfl) (λi hi=>hi.elim)
  (λ_ W=>Bx w [eh ⟨xi,xc,xv,xs⟩ (xL a n cj),M6 true,Fz (xL a n cj)] W) (λ_ _=>False) (λi A B h ho=>h.only ho (λj hj=>by have:=hj.1;simp;omega)) (λc A B h _=>h) (bg.o) ?hround ?hdone ?hstop);case hstop=>intro c W h;exact h.elim
 case hround=>
  intro l i args i' W hI hTl hsz;obtain⟨rfl,v,u,hv,rfl,hu⟩:=hTl;have HI:=ag hI;have HV:=ag hv;have HU:=ag hu;obtain⟨vk,vn,vs,vl⟩:=v;obtain⟨va,vc,rfl,_⟩:=dh hu;clear hI hv hu;gi_wp2_with(rw[Oper.semAt_eq _ _ _ (λc h=>by cases h)];go_simp;try go_bits);refine⟨(ao.refl _ W).alloc _,λW2 ho2 hzW=> ?_⟩;have q9:Hd (ao (BI M w) W W2):=((ao.refl _ W).alloc _).trans (ho2.mono λj hj=> .inr (by have:j=[w2]:=hj;omega));have mw:Hd (Bx w [eh ⟨xi,xc,xv,xs⟩ (xL a n cj),M6 true,Fz (xL a n cj)] W2):=(HI.o.alloc _).only ho2 (λj hj=>by have:j=[w2]:=hj;simp;omega);have HU2:Hd (cB (BI M w) W2 (.agg #[vk,vn,vs,xL va vl.length vc]) (aJ.mk vk vn vs vl)):=HU.o.ev ⟨q9.o,λj hj=> .inl hj⟩;have Qu:=ho2.at_ (Qbh W (ej vk vn vs (xL va vl.length vc))) (by show¬W.heap.size=[w2];omega);obtain⟨q0,q1,q2,q3⟩:=af Qu;have HPC:=ag Qu;clear Qu ho2 q9;gi_wp2_with(rw[Oper.semAt_eq _ _ _ (λc h=>by cases h)];go_simp;try go_bits);refine⟨trivial,rfl,(CallsIn.inRound l (callsIn_wide.2 (HR.o W2 i _ _ _ HV.o mw.o.1 HU2.o))).mono ?_⟩;rintro e w3⟨rfl,hb3⟩;have sS:=ag (mw.o.ae hb3);have HU3:=ag (HU2.o.ae hb3);have uw:=ag (ao.az (S:=M5 xF w2 0) hb3);have yJ:=hb3.size;obtain⟨p0,p1,p2,p3⟩:=af ((hb3.block _ (Qaa.1 HPC.o).1).trans HPC.o);have J8:=ag (MK.o w3 i _ _ HV.o sS.o.1 (HU3.o.ev (Ev.dL w3 λj hj=> .inl hj)));clear hb3 q0 q1 q2 q3;gi_wp2_with(rw[Oper.semAt_eq _ _ _ (λc h=>by cases h)];go_simp;try go_bits);refine⟨trivial,rfl,(CallsIn.inRound l (callsIn_wide.2 J8.o)).mono ?_⟩;rintro e w4⟨rfl,eA⟩;have HI4:=ag (sS.o.ae eA);have Q4:=ag (uw.o.trans (ao.az eA));clear eA;gi_wp2_with(rw[Oper.semAt_eq _ _ _ (λc h=>by cases h)];go_simp;try go_bits);exact⟨Q4.o,HI4.o⟩
 case hdone=>
  intro i W hE hI hD;have HI:=ag hI;have HD:=ag hD;clear hI hD;have b0:yY W w 0 true:=one_cell (HI.o.cg rfl);go_wp2_with fail;rw[Exit.noGoto_ret];refine⟨by simp, .inl ⟨_,_,rfl,run_takeDeferred HD.o,?_⟩⟩;refine⟨xB true,by simp[results,results184,go_sem],rfl,?_⟩;exact bq HI.o.1 HI.o.1.size ((ao.refl (λj=>j=w2) W).putObj (.inl rfl) _) (λj hj=>by have:j=w2:=hj;omega)
end
section
open Go.RowKit
def Dq(h:aX c=true):∀f∈c.ah,aR f.type=true:=by
 intro f hf;have⟨j,hj⟩:=Qdg hf;have:=((bC c).1 h).2.2 j f (Qad.1 hj).1 hj;simp only[bS,Qce]at this;exact this.1.1.2
def tK(x:jO)(vv:aA):Obj:=xK #[x.cL,x.cQ,vv,x.skip] 81
def Dr(ls:List aQ)(h:dF ls)(h1:0<ls.length)(x:jO)(hx:I6 x.cL/\I6 x.cQ/\∀y∈x.aZ,I6 y)(id ay:Int)(oF:ay<=1000)(M:aV)(w:ax)(hM:Bd M w)(lv vv:aA)(hs:ab M w lv ls)(hv:ab (α:=Int) M w vv x.aZ):
 xG 17 #[.agg #[lv],id, .agg #[x.cL,x.cQ,vv,x.skip],ay] w λu w'=>∃(k v:Nat)(l:aQ)(vs:List aJ)(uv:aA),u= .agg #[id,xI (k:Int),xI (v:Int),uv]/\iR ls ay ⟨id,(k:Int),(v:Int),vs⟩ k v l/\ab M w' uv vs:=by
 have h4:=h.len;have hk:=cR x.cL ls.length h1;have⟨l,hl⟩:=eG ls (aU x.cL ls.length) hk;have sT:=h.aK l (Qaf hl);have hc5:=sT.len;have hvr:=cR x.cQ (l.aw.length+1) (by omega);have MJ:Hd (∀W,xC 20 #[x.cL,xI (ls.length:Int)] W (jt (xI (aU x.cL ls.length:Int)) W)):=λW=>by
  have h:=kZ x.cL (ls.length:Int) W hx.1 (by omega) (by omega);simpa using h
 have VM:Hd (∀W,xC 20 #[x.cQ,xI ((l.aw.length:Int)+1)] W (jt (xI (aU x.cQ (l.aw.length+1):Int)) W)):=λW=>by
  have h:=kZ x.cQ ((l.aw.length:Int)+1) W hx.2.1 (by omega) (by omega);rw[show((l.aw.length:Int)+1).toNat=l.aw.length+1 from by omega]at h;exact h
 have uh:Hd (∀W,aC w W->w.heap.size+4<=W->_):=λW hb hz=>Rz ls h (dX M w 4) W (dt hM hz) lv (hs.ev (dj hb)) (aU x.cL ls.length) l hl (aU x.cQ (l.aw.length+1)) (by omega) (aT l (aU x.cQ (l.aw.length+1))) (sT.at_ _);have hok:=sT.kA (aU x.cQ (l.aw.length+1));have Q5:=(bC _).1 hok.right;have HVA:Hd (∀W fv,aC w W->w.heap.size+4<=W->ab (dX M w 4) W fv (aT l (aU x.cQ (l.aw.length+1))).ah->_):=λW fv hb hz hf=>by
  have hh:=Ga (dX M w 4) W (dt hM hz) (aT l (aU x.cQ (l.aw.length+1))) fv vv x.aZ ay hf (hv.ev (dj hb)) hx.2.2 Q5.2.1 (Dq hok.right) oF;rw[sT.ai]at hh;exact hh
 have HLC:=ag (eL hs hl);have Ka:=ag hl;obtain⟨la,lc,rfl,hlc,_⟩:=hs.aq;obtain⟨va,vc,rfl,_⟩:=hv.aq;clear hs hv hM hx h sT hok Q5 hl;generalize aU x.cL ls.length=k at*;generalize aU x.cQ (l.aw.length+1)=v at*;obtain⟨xc,xv,xs,xk⟩:=x;dsimp only at*;have cI:=ag (Bx.gj w (eW (xL la ls.length lc)) (tK ⟨xc,xv,xs,xk⟩ (xL va xs.length vc)) (eh ⟨0,0,0,[]⟩ ()));go_enter func17,ntmps17;go_wp2_with fail;refine dw (MJ.o _) ?_;go_upto_region 2 with fail;have⟨W2,hW2⟩:=bY ((((w.alloc (eW (xL la ls.length lc))).alloc (tK ⟨xc,xv,xs,xk⟩ (xL va xs.length vc))).alloc (eh ⟨0,0,0,[]⟩ ())).alloc (eh ⟨id,(k:Int),0,[]⟩ ()));have bg:=ag (show Bx w [eW (xL la ls.length lc),tK ⟨xc,xv,xs,xk⟩ (xL va xs.length vc),eh ⟨0,0,0,[]⟩ (),eh ⟨id,(k:Int),0,[]⟩ ()] W2 by rw[hW2];exact Bx.KE w _ _ _ _);unfold eW tK eh at hW2;rw[<-hW2];clear hW2;have⟨b,off,cap,fa,fc,ca,cc,hsv,hlbl,hf1,hc1,hnm,hcells⟩:=HLC.o;obtain⟨rfl,rfl⟩:=iY hsv;have⟨q0,q1,q2⟩:=hcells W2 bg.o.1;have y0:=one_cell (bg.o.bO rfl);have⟨x0,x1,x2,x3⟩:=af (bg.o.cg rfl);have⟨o0,o1,o2,o3⟩:=af (bg.o.Bv rfl);have f2:=aj (bg.o.Bv rfl) 2;have i0:(0:Int)<=(k:Int):=Qba _;have i1:(k:Int)<(ls.length:Int):=by omega
 have i3:IntKind.i64.wrap ((l.aw.length:Int)+1)=(l.aw.length:Int)+1:=Qbe _ (by omega);clear hsv hf1 hc1 hcells;go_cut [](λwx=>Hd (Bx w [eW (xL (b,off) ls.length lc),tK ⟨xc,xv,xs,xk⟩ (xL va xs.length vc),eh ⟨0,0,0,[]⟩ (),eh ⟨id,(k:Int),(v:Int),[]⟩ ()] wx));case first=>
  go_region_law(first
   |(go_simp;go_at_call 20;refine dw (VM.o _) ?_));all_goals(go_wp2;go_meet)
  all_goals exact(show Bx _ _ _ from by first
   |simpa [eh]using bg.o.drew.set 3 2 rfl (xI (v:Int))
   |simpa [eh]using(bg.o.set 3 2 rfl (xI (v:Int))).drew)
 case rest=>
  have bV:=hcut;clear q0 q1 q2 y0 x0 x1 x2 x3 o0 o1 o2 o3 f2;have⟨W3,hW3⟩:=bY (wc);subst hW3;have y0:=one_cell (bV.o.bO rfl);have⟨o0,o1,o2,o3⟩:=af (bV.o.Bv rfl);go_wp2_with fail;refine(uh.o _ bV.o.1 (by have:=bV.o.bQ;exact this)).mono ?_;rintro e w4⟨_,rfl,⟨fv,rfl,hf⟩,eA⟩;have hf':=hf;obtain⟨ga,gc,rfl,_⟩:=hf'.aq;have ek:=ag (bV.o.ae eA);have HF4:=ag hf;clear hf eA y0 o0 o1 o2 o3;have h3:=λo=>af ((ek.o.alloc o).Bv rfl);have g3:=λo=>aj ((ek.o.alloc o).Bv rfl) 3;have x3:=λo=>af ((ek.o.alloc o).cg rfl);go_upto_region 4 with fail;have⟨W4,hW4⟩:=bY (w4.alloc (cW l.au.ai (xL ga (aT l v).ah.length gc)));have iU:=ag (show Bx w [eW (xL (b,off) ls.length lc),tK ⟨xc,xv,xs,xk⟩ (xL va xs.length vc),eh ⟨0,0,0,[]⟩ (),eh ⟨id,(k:Int),(v:Int),[]⟩ ()] W4 by rw[hW4];exact ek.o.alloc _);have XP:=ag (show dk W4 w4 (cW l.au.ai (xL ga (aT l v).ah.length gc))by rw[hW4];exact Qbh w4 _);have ZV:=ag (show ab (dX M w 4) W4 (xL ga (aT l v).ah.length gc) (aT l v).ah by rw[hW4];exact HF4.o.ae bU);unfold cW at hW4;rw[<-hW4];clear hW4 h3 g3 x3;have⟨c0,c1⟩:=ak XP.o;have⟨x0,x1,x2,x3⟩:=af (iU.o.cg rfl);go_wp2_with fail;refine(HVA.o _ _ iU.o.1 (by have:=iU.o.bQ;exact this) ZV.o).mono ?_;rintro e w6⟨_,rfl,⟨vs,hvo,hsl⟩,jn⟩;have Cq:=hsl;obtain⟨ua,uc,rfl,_⟩:=Cq.aq;have kE:=ag (iU.o.ae jn);have ux:=ag hsl;have XQ:=ag hvo;clear hsl jn hvo c0 c1 x0 x1 x2 x3;have⟨o0,o1,o2,o3⟩:=af (kE.o.Bv rfl);have f3:=aj (kE.o.Bv rfl) 3;have⟨r0,r1,r2,r3⟩:=af (kE.o.fB rfl);have⟨f20,f21,f22,f23⟩:=hZ (kE.o.fB rfl);have pJ:Hd (∀W',W'=((((w6.setCell ([w,w,w],3) (xL ua vs.length uc)).setCell ([w,w],0) id).setCell ([w,w],1) (xI (k:Int))).setCell ([w,w],2) (xI (v:Int))).setCell ([w,w],3) (xL ua vs.length uc)->(∃(k2 v2:Nat)(l2:aQ)(vs2:List aJ)(uv:aA),Value.agg #[id,xI (k:Int),xI (v:Int),xL ua vs.length uc]= .agg #[id,xI (k2:Int),xI (v2:Int),uv]/\iR ls ay ⟨id,(k2:Int),(v2:Int),vs2⟩ k2 v2 l2/\ab M W' uv vs2)/\aC w W'):=λW' hW'=>by
   have E:Ev (dX M w 4) w6 M W':=by
    rw[hW'];exact(((((Ev.dL w6 λi hi=> .inl hi).setCell (.inl (.inr ⟨by simp;omega,by simp⟩)) _).setCell (.inl (.inr ⟨by simp;omega,by simp⟩)) _).setCell (.inl (.inr ⟨by simp;omega,by simp⟩)) _).setCell (.inl (.inr ⟨by simp;omega,by simp⟩)) _).setCell (.inl (.inr ⟨by simp;omega,by simp⟩)) _
   refine⟨⟨k,v,l,vs,_,rfl,⟨rfl,rfl,Ka.o,by omega,XQ.o⟩,ux.o.ev E⟩,?_⟩;rw[hW'];exact((((kE.o.1.setCell (by simp;omega) _).setCell (by simp;omega) _).setCell (by simp;omega) _).setCell (by simp;omega) _).setCell (by simp;omega) _
  go_wp2_with fail;exact Qae (v:= .agg #[id,xI (k:Int),xI (v:Int),xL ua vs.length uc]) (by simp[results,results17,go_sem,r0,r1,r2,r3,f20,f21,f22,f23]) rfl ⟨_,rfl,pJ.o _ rfl⟩
end
section
open Go.RowKit Go.Shelf
def tL {t:br}{v:aJ}(h:dI t ay v)(k:Int):(cr k v).length<=12:=by
 unfold cr;split
 .simp
 .rw[Qdc];refine Qcg (List.length_filter_le _ _) ?_;rcases h with⟨_,l,rfl,hl,_⟩|⟨_,h1⟩
  .exact hl
  .rcases h1 with⟨_,n,rfl,_⟩|⟨_,s,rfl,_⟩|⟨_,rfl|⟨n,rfl,_⟩⟩<;>simp[aJ.list]
def Yx(v:aA):Obj:=xK #[v] 27
structure xu(jj:Int)(w w2:ax)(vs:List aJ)(i:Nat)(lv:aA)(W:ax):Prop where
 blk:W.heap[w.heap.size+1]? =some (Yx lv)
 acc:aS (α:=Int) xF (↑w2+2) 3 W lv ((vs.take i).flatMap (cr jj))
 ae:aC w W
 len:((vs.take i).flatMap (cr jj)).length<=12*i
def BJ {w:ax}{x:Int}(h:aD.rep M w cs x):aD.rep M' w' cs x:=h
section
variable {jj:Int}{w w2 W A B:ax}{vs:List aJ}{i:Nat}{lv:aA}{S:aV}
theorem xu.only(h:xu jj w w2 vs i lv A)(ho:ao S A B)(hS:∀j,S j->w.heap.size+2<=j/\j<w2.heap.size+2):xu jj w w2 vs i lv B:=
 ⟨ho.at_ h.blk (λh=>by have:=(hS _ h).1;omega),h.acc.Kk ho (λj hj=>(hS j hj).2) BJ,bq h.ae h.ae.size ho (λj hj=>by have:=(hS j hj).1;omega),h.len⟩
theorem xu.later(h:xu jj w w2 vs i lv A)(hb:aC A B):xu jj w w2 vs i lv B:=
 ⟨(hb.block _ (Qaa.1 h.blk).1).trans h.blk,h.acc.ae hb,h.ae.trans (hb.mono h.ae.size),h.len⟩
theorem xu.next(h:xu jj w w2 vs i lv A)(hw:w.heap.size+1<w2){v:aJ}{t:br}(hv:vs[i]? =some v)(ho:dI t ay v){l2:aA}(hacc:aS (α:=Int) xF (↑w2+2) 3 B l2 ((vs.take i).flatMap (cr jj)++cr jj v))(hb:Below (↑w2+2) A B)(hA:w2.heap.size+2<=A):
 xu jj w w2 vs (i+1) l2 (B.setCell ([w],0) l2)/\ao (M5 (λj=>j=[w]) w2 0) A (B.setCell ([w],0) l2):=by
 have e:(vs.take (i+1)).flatMap (cr jj)=(vs.take i).flatMap (cr jj)++cr jj v:=by rw[Qbb,hv,List.flatMap_append];simp
 have hblk:=(hb.block [w] (by omega)).trans h.blk;have o1:ao (λj=>j=[w]) B (B.setCell ([w],0) l2):=(ao.refl (λj=>j=[w]) B).setCell (p:=⟨[w],0,none⟩) (.inl rfl) _;refine⟨⟨?_,?_,?_,?_⟩,?_⟩
 .have:=Qca B [w] 0 _ _ l2 hblk;simpa [Yx]using this
 .rw[e];exact hacc.Kk o1 (λj hj=>by have:j=[w]:=hj;omega) BJ
 .exact(h.ae.trans (hb.mono (by omega))).setCell (by show w.heap.size<=[w];omega) _
 .have:=h.len;have:=tL ho jj;rw[e,Qda];omega
 .refine ao.trans ?_ (o1.mono λj hj=> .inl hj);exact⟨hb.os,hb.tape,hb.output,hb.size,λj hj hS=>hb.block j (Classical.byContradiction λhc=>hS (.inr (by omega)))⟩
end
def Jv(jj:Int)(f:Nat)(hjf:(jj=3/\f=62)\/(jj=4/\f=94))(x:bF)(ay:Int)(hm:ay<=100000)(fs:List aH)(hfs:bA fs ay x.aZ)(h8:x.aZ.length<=8)(M:aV)(w:ax)(hM:Bd M w)(vv:aA)(hvs:ab M w vv x.aZ)(hT:Tb w):
 xC f #[.agg #[x.id,x.cL,x.cQ,vv]] w (cm w λv w'=>∃B,w.heap.size<=B/\aS (α:=Int) xF B 3 w' v (x.aZ.flatMap (cr jj))):=by
 have HM:=ag hM;have SM:Hd (∀p W,aC w W->w.heap.size+1<W->bW W p (Fz vv)->GA prog 198 #[xP p] W (λj=>j=[w]) 0 0 (xq x.aZ (BI M w)) (λi=>i=x.aZ.length)):=λp W h1 h3 h2=>Dn x.aZ M (λj=>j=[w]) p w W h1 vv hvs h2 (λj h=>by have:j=[w]:=h;omega);have XQ:Hd (∀(i:Nat)v,x.aZ[i]? =some v->∃t,dI t ay v):=λi v hi=>by
  have⟨f,_,hf⟩:=fj hfs v (Qaf hi);exact⟨_,hf⟩
 rcases hjf with⟨hj,rfl⟩|⟨hj,rfl⟩;have HR:Hd (∀W(i:Nat)v u N,x.aZ[i]? =some v->aC w W->Bd N W->cB N W u v->xC 133 #[u] W (cm W λr w'=>ab N w' r (cr jj v))):=ag (by
  subst hj;intro W i v u N hi hb hN hu;have⟨f,_,hf⟩:=fj hfs v (Qaf hi);exact Df hf hm hN hu (hT.ae hb));rotate_left;have HR:Hd (∀W(i:Nat)v u N,x.aZ[i]? =some v->aC w W->Bd N W->cB N W u v->xC 161 #[u] W (cm W λr w'=>ab N w' r (cr jj v))):=ag (by
  subst hj;intro W i v u N hi hb hN hu;have⟨f,_,hf⟩:=fj hfs v (Qaf hi);exact Ac hf hm hN hu (hT.ae hb));rotate_left;all_goals
  have⟨i0,hi0,hz0,hz1,hz2⟩:=info_parts rQ;obtain⟨xi,xc,xv,xs⟩:=x;dsimp only at*;obtain⟨a,cj,rfl,cY,hmx,_⟩:=hvs.aq;generalize hn:xs.length=n at*;have eJ:=ag hn;clear hn;clear hvs hfs hM hT;clear hj
 refine callsIn_wide.1 (callsIn_of_wp_marks (n:=0) func62 rfl trivial (wpIn_wide.2 ?_) rfl);simp only[ntmps62,List.size_toArray,Qcc,Qcd,Nat.reduceAdd,Nat.reduceSub,Array.replicate_succ,Array.replicate_zero,List.push_toArray,List.append_toArray,List.nil_append,List.cons_append];rotate_left;refine callsIn_wide.1 (callsIn_of_wp_marks (n:=0) func94 rfl trivial (wpIn_wide.2 ?_) rfl);simp only[ntmps94,List.size_toArray,Qcc,Qcd,Nat.reduceAdd,Nat.reduceSub,Array.replicate_succ,Array.replicate_zero,List.push_toArray,List.append_toArray,List.nil_append,List.cons_append];rotate_left;all_goals
  go_wp2_with fail;refine dw (Ju _ _ _ _) ?_;go_wp2_with fail;have⟨w2,hw2⟩:=bY (((w.alloc (eh ⟨xi,xc,xv,xs⟩ (xL a n cj))).alloc (Yx ())).alloc (Fz (xL a n cj)));have bg:=ag (show Bx w [eh ⟨xi,xc,xv,xs⟩ (xL a n cj),Yx (),Fz (xL a n cj)] w2 by rw[hw2];exact Bx.gj w _ _ _);have qf3:w2.heap.size=↑w+3:=by rw[hw2];simp
  unfold eh Yx Fz at hw2;rw[<-hw2];clear hw2;have yO:=ag (SM.o _ w2 bg.o.1 (by omega) (bg.o.fB rfl));refine wpIn_wide.1 (pV rfl (enters_of func198 (by kernel_rfl) rfl) (λj=>j=[w]) 0 0 (xq xs (BI M w)) (λi=>i=n) yO.o (λi args i' W h=>by obtain⟨_,v,u,_,rfl,_⟩:=h;rfl) (λj hj=>by have:j=[w]:=hj;omega)
   (λi W=>∃lv,xu jj w w2 xs i lv W) (λ_ _=>False) (λi A B⟨lv,h⟩ho=>⟨lv,h.only ho (λj hj=>⟨by have:=hj.1;omega,by have:=hj.2;omega⟩)⟩) (λc A B h _=>h) ⟨_,⟨bg.o.cg rfl,aS.nil _ _ _ _,bg.o.1,by simp⟩⟩ ?hround ?hdone ?hstop);case hstop=>intro c W h;exact h.elim
  case hround=>
   intro l i args i' W hI hTl hsz;obtain⟨rfl,v,u,hv,rfl,hu⟩:=hTl;obtain⟨lv,hI⟩:=hI;have HI:=ag hI;have HV:=ag hv;have HU:=ag hu;obtain⟨vk,vn,vs,vl⟩:=v;obtain⟨va,vc,rfl,_⟩:=dh hu;clear hI hv hu;gi_wp2_with(rw[Oper.semAt_eq _ _ _ (λc h=>by cases h)];go_simp;try go_bits);refine⟨(ao.refl _ W).alloc _,λW2 ho2 hzW=> ?_⟩;have mw:Hd (xu jj w w2 xs i lv W2):=(HI.o.later bU).only ho2 (λj hj=>by have:j=[w2]:=hj;omega);have HU2:Hd (cB (BI M w) W2 (.agg #[vk,vn,vs,xL va vl.length vc]) (aJ.mk vk vn vs vl)):=HU.o.ev ⟨((ao.refl _ W).alloc _).trans (ho2.mono λj hj=> .inr (by have:j=[w2]:=hj;omega)),λj hj=> .inl hj⟩;have Qu:=ho2.at_ (Qbh W (ej vk vn vs (xL va vl.length vc))) (by show¬W.heap.size=[w2];omega);have⟨q0,q1,q2,q3⟩:=af Qu;have HPC:=ag Qu;have l0:yY W2 w 0 lv:=one_cell mw.o.blk;clear Qu ho2;gi_wp2_with(rw[Oper.semAt_eq _ _ _ (λc h=>by cases h)];go_simp;try go_bits);have ZW:=XQ.o i _ HV.o;obtain⟨vt,XR⟩:=ZW;have ZW:=ag XR;have MQ:=ag (tL XR jj);have hi8:i<n:=by have:=(Qad.1 HV.o).1;have:=eJ.o;omega
   have qX:Hd (aC w W2.drew):=mw.o.ae.drew;have ni:Hd (Bd (bu lv λ_=>False) W2.drew):=λj hj=>hj.elim (λh=>h.elim) λh=>(mw.o.acc.cG j h).2;have J3:Hd (cB (bu lv λ_=>False) W2.drew (.agg #[vk,vn,vs,xL va vl.length vc]) (aJ.mk vk vn vs vl)):=(HU2.o.ev (Ev.dL W2 λj hj=>hj.elim (λh=>h.elim) λh=> .inr (by have:=(mw.o.acc.cG j h).1;omega))).ev ((Ev.refl _ _).drew);have V5:w2.heap.size+2<=W2:=by simp at hzW;omega
   clear XR;refine wpIn_region_any (by kernel_rfl) ?_;change wpAnyIn _ _ _ _ _ _ _ _ _ (World.drew _);refine wpAnyIn_ready (rs:=[0,1]) (by kernel_rfl) (by simp) ?_;refine AllReadyIn.cons rfl (λK hK=> ?_) (AllReadyIn.cons rfl (λK hK=> ?_) AllReadyIn.nil)
   .go_simp;(try rw[Oper.semAt_eq _ _ _ (λc h=>by cases h)]);go_simp;(try go_bits);refine hK _ _ ?_;clear hK K;refine wpAnyIn_ready (rs:=[1]) (by kernel_rfl) (by simp) ?_;refine AllReadyIn.cons rfl (λK hK=> ?_) AllReadyIn.nil;go_simp;(try rw[Oper.semAt_eq _ _ _ (λc h=>by cases h)]);go_simp;(try go_bits);refine hK _ _ ?_;clear hK K;refine wpAnyIn_ready (rs:=[2]) (by kernel_rfl) (by simp) ?_;refine AllReadyIn.cons rfl (λK hK=> ?_) AllReadyIn.nil;go_simp;(try rw[Oper.semAt_eq _ _ _ (λc h=>by cases h)]);go_simp;(try go_bits);refine⟨trivial,rfl,(CallsIn.inRound l (callsIn_wide.2 (HR.o W2.drew i _ _ (bu lv λ_=>False) HV.o qX.o ni.o J3.o))).mono ?_⟩;rintro e w3⟨_,rfl,qK,hb3⟩;obtain⟨ra,rc,rfl,_⟩:=qK.aq;have sS:=ag (mw.o.later ((Qbg W2 W2).drew.trans hb3));have jL:=ag qK;have uw:=ag (ao.az (S:=M5 (λj=>j=[w]) w2 0) ((Qbg W2 W2).drew.trans hb3));have yJ:w2.heap.size+2<=w3:=Qcg V5 (uw.o.size);have l3:yY w3 w 0 lv:=one_cell sS.o.blk;clear qK hb3;refine hK _ _ ?_;clear hK K;refine wpAnyIn_ready (rs:=[3]) (by kernel_rfl) (by simp) ?_;refine AllReadyIn.cons rfl (λK hK=> ?_) AllReadyIn.nil;have hlen:=sS.o.len;refine jd (α:=Int) rfl _ _ _ rfl xF (↑w2+2) 3 i0 _ 8 underlying27 hi0 hz0 hz1 hz2 rfl (by decide) lv ((xs.take i).flatMap (cr jj)) rfl sS.o.acc _ (cr jj (aJ.mk vk vn vs vl)) rfl jL.o (by have:=MQ.o;unfold maxLen;omega) (by have:=MQ.o;omega) yJ ?_;intro a2 c2 w4 hacc vK eA;generalize((xs.take i).flatMap (cr jj)).length+(cr jj (aJ.mk vk vn vs vl)).length=q at hacc vK⊢;have⟨vL,zA⟩:=sS.o.next (by omega) HV.o ZW.o hacc eA yJ;have vL:=ag vL;have zA:=ag zA;have yP:=(eA.block [w] (by omega)).trans sS.o.blk;have l4:yY w4 w 0 lv:=one_cell yP;have f4:=aj yP 0;clear hacc vK eA yP;refine hK _ _ ?_;clear hK K;refine wpAnyIn_ready (rs:=[4]) (by kernel_rfl) (by simp) ?_;refine AllReadyIn.cons rfl (λK hK=> ?_) AllReadyIn.nil;go_simp;(try rw[Oper.semAt_eq _ _ _ (λc h=>by cases h)]);go_simp;(try go_bits);refine hK _ _ ?_;clear hK K;refine wpAnyIn_done (by kernel_rfl) ?_ _;simp only[Exit.inBlock];exact⟨uw.o.trans zA.o,⟨_,vL.o⟩⟩
   .go_simp;(try rw[Oper.semAt_eq _ _ _ (λc h=>by cases h)]);go_simp;(try go_bits);refine hK _ _ ?_;clear hK K;refine wpAnyIn_ready (rs:=[0,2]) (by kernel_rfl) (by simp) ?_;refine AllReadyIn.cons rfl (λK hK=> ?_) (AllReadyIn.cons rfl (λK hK=> ?_) AllReadyIn.nil)
    .go_simp;(try rw[Oper.semAt_eq _ _ _ (λc h=>by cases h)]);go_simp;(try go_bits);refine hK _ _ ?_;clear hK K;refine wpAnyIn_ready (rs:=[2]) (by kernel_rfl) (by simp) ?_;refine AllReadyIn.cons rfl (λK hK=> ?_) AllReadyIn.nil;go_simp;(try rw[Oper.semAt_eq _ _ _ (λc h=>by cases h)]);go_simp;(try go_bits);refine⟨trivial,rfl,(CallsIn.inRound l (callsIn_wide.2 (HR.o W2.drew i _ _ (bu lv λ_=>False) HV.o qX.o ni.o J3.o))).mono ?_⟩;rintro e w3⟨_,rfl,qK,hb3⟩;obtain⟨ra,rc,rfl,_⟩:=qK.aq;have sS:=ag (mw.o.later ((Qbg W2 W2).drew.trans hb3));have jL:=ag qK;have uw:=ag (ao.az (S:=M5 (λj=>j=[w]) w2 0) ((Qbg W2 W2).drew.trans hb3));have yJ:w2.heap.size+2<=w3:=Qcg V5 (uw.o.size);have l3:yY w3 w 0 lv:=one_cell sS.o.blk;clear qK hb3;refine hK _ _ ?_;clear hK K;refine wpAnyIn_ready (rs:=[3]) (by kernel_rfl) (by simp) ?_;refine AllReadyIn.cons rfl (λK hK=> ?_) AllReadyIn.nil;have hlen:=sS.o.len;refine jd (α:=Int) rfl _ _ _ rfl xF (↑w2+2) 3 i0 _ 8 underlying27 hi0 hz0 hz1 hz2 rfl (by decide) lv ((xs.take i).flatMap (cr jj)) rfl sS.o.acc _ (cr jj (aJ.mk vk vn vs vl)) rfl jL.o (by have:=MQ.o;unfold maxLen;omega) (by have:=MQ.o;omega) yJ ?_;intro a2 c2 w4 hacc vK eA;generalize((xs.take i).flatMap (cr jj)).length+(cr jj (aJ.mk vk vn vs vl)).length=q at hacc vK⊢;have⟨vL,zA⟩:=sS.o.next (by omega) HV.o ZW.o hacc eA yJ;have vL:=ag vL;have zA:=ag zA;have yP:=(eA.block [w] (by omega)).trans sS.o.blk;have l4:yY w4 w 0 lv:=one_cell yP;have f4:=aj yP 0;clear hacc vK eA yP;refine hK _ _ ?_;clear hK K;refine wpAnyIn_ready (rs:=[4]) (by kernel_rfl) (by simp) ?_;refine AllReadyIn.cons rfl (λK hK=> ?_) AllReadyIn.nil;go_simp;(try rw[Oper.semAt_eq _ _ _ (λc h=>by cases h)]);go_simp;(try go_bits);refine hK _ _ ?_;clear hK K;refine wpAnyIn_done (by kernel_rfl) ?_ _;simp only[Exit.inBlock];exact⟨uw.o.trans zA.o,⟨_,vL.o⟩⟩
    .go_simp;(try rw[Oper.semAt_eq _ _ _ (λc h=>by cases h)]);go_simp;(try go_bits);refine⟨trivial,rfl,(CallsIn.inRound l (callsIn_wide.2 (HR.o W2.drew i _ _ (bu lv λ_=>False) HV.o qX.o ni.o J3.o))).mono ?_⟩;rintro e w3⟨_,rfl,qK,hb3⟩;obtain⟨ra,rc,rfl,_⟩:=qK.aq;have sS:=ag (mw.o.later ((Qbg W2 W2).drew.trans hb3));have jL:=ag qK;have uw:=ag (ao.az (S:=M5 (λj=>j=[w]) w2 0) ((Qbg W2 W2).drew.trans hb3));have yJ:w2.heap.size+2<=w3:=Qcg V5 (uw.o.size);have l3:yY w3 w 0 lv:=one_cell sS.o.blk;clear qK hb3;refine hK _ _ ?_;clear hK K;refine wpAnyIn_ready (rs:=[0]) (by kernel_rfl) (by simp) ?_;refine AllReadyIn.cons rfl (λK hK=> ?_) AllReadyIn.nil;go_simp;(try rw[Oper.semAt_eq _ _ _ (λc h=>by cases h)]);go_simp;(try go_bits);refine hK _ _ ?_;clear hK K;refine wpAnyIn_ready (rs:=[3]) (by kernel_rfl) (by simp) ?_;refine AllReadyIn.cons rfl (λK hK=> ?_) AllReadyIn.nil;have hlen:=sS.o.len;refine jd (α:=Int) rfl _ _ _ rfl xF (↑w2+2) 3 i0 _ 8 underlying27 hi0 hz0 hz1 hz2 rfl (by decide) lv ((xs.take i).flatMap (cr jj)) rfl sS.o.acc _ (cr jj (aJ.mk vk vn vs vl)) rfl jL.o (by have:=MQ.o;unfold maxLen;omega) (by have:=MQ.o;omega) yJ ?_;intro a2 c2 w4 hacc vK eA;generalize((xs.take i).flatMap (cr jj)).length+(cr jj (aJ.mk vk vn vs vl)).length=q at hacc vK⊢;have⟨vL,zA⟩:=sS.o.next (by omega) HV.o ZW.o hacc eA yJ;have vL:=ag vL;have zA:=ag zA;have yP:=(eA.block [w] (by omega)).trans sS.o.blk;have l4:yY w4 w 0 lv:=one_cell yP;have f4:=aj yP 0;clear hacc vK eA yP;refine hK _ _ ?_;clear hK K;refine wpAnyIn_ready (rs:=[4]) (by kernel_rfl) (by simp) ?_;refine AllReadyIn.cons rfl (λK hK=> ?_) AllReadyIn.nil;go_simp;(try rw[Oper.semAt_eq _ _ _ (λc h=>by cases h)]);go_simp;(try go_bits);refine hK _ _ ?_;clear hK K;refine wpAnyIn_done (by kernel_rfl) ?_ _;simp only[Exit.inBlock];exact⟨uw.o.trans zA.o,⟨_,vL.o⟩⟩
  case hdone=>
   intro i W hE hI hD;obtain⟨lv,hI⟩:=hI;obtain rfl:i=n:=hE;have HI:=ag hI;have HD:=ag hD;clear hI hD;have l0:yY W w 0 lv:=one_cell HI.o.blk;go_wp2_with fail;refine⟨by simp, .inl ⟨_,_,rfl,run_takeDeferred HD.o,?_⟩⟩;have o2:ao (λj=>j=w2) W (W.putObj w2 (.deferred none)):=(ao.refl (λj=>j=w2) W).putObj (.inl rfl) _;have hacc:=HI.o.acc.Kk o2 (λj hj=>by have:j=w2:=hj;omega) BJ;rw[<-eJ.o,List.take_length]at hacc;refine⟨lv,by simp[results,results62,results94,go_sem],_,rfl,⟨_,by omega,hacc⟩,bq HI.o.ae HI.o.ae.size o2 (λj hj=>by have:j=w2:=hj;omega)⟩
theorem aS.any {B:Nat}{w W:ax}(h:aS (α:=Int) xF B e W v xs)(hB:w<=B)(hM:Bd M w):ab M W v xs:=by
 obtain⟨css,k1,k2,k3⟩:=h;refine⟨css,(ct.FQ k1).mono λj hj _ Ze=> ?_,k2,k3⟩;have:=(k1.lt j hj).1;have:=hM j Ze;omega
def Jw(x:bF)(ay:Int)(hm:ay<=100000)(fs:List aH)(hfs:bA fs ay x.aZ)(h8:x.aZ.length<=8)(M:aV)(w:ax)(hM:Bd M w)(vv:aA)(hvs:ab M w vv x.aZ)(hT:Tb w):
 xC 62 #[.agg #[x.id,x.cL,x.cQ,vv]] w (cm w λv w'=>ab M w' v (x.aZ.flatMap (cr 3))):=
 (Jv 3 _ (.inl ⟨rfl,rfl⟩) x ay hm fs hfs h8 M w hM vv hvs hT).mono (by
   rintro e w'⟨v,rfl,⟨B,hB,h⟩,hb⟩;exact⟨_,rfl,h.any hB hM,hb⟩)
def tM(w:ax)(n:Nat):aC w (w.drewN n):=⟨rfl,rfl,rfl,bT,λ_ _=>rfl⟩
def Ah:(Tryz.prog.info? 86).map (λi=>(i.zero,i.size,i.bytes))=some (some (.agg #["",xI 0]),2,24):=by kernel_rfl
def Tl(r:bj):Obj:=xK #[r.ai,r.id] 86
def RD(l:List bj)(r:bj)(hr:0<r.id)(XS:r.ai.size<=maxLen)(h5:l.length<=5)(j d:Nat)(hj:j+d<=l.length)(Qv:∀i y,i<j->l[i]? =some y->Op.bytesLess y.ai.toList r.ai.toList=true)(hstop:∀y,l[j]? =some y->Op.bytesLess y.ai.toList r.ai.toList=false/\(y.ai.toList==r.ai.toList)=decide (d=1))(hd:d<=1)(M:aV)(w:ax)(hM:Bd M w)(lv:aA)(hl:ab M w lv l)(uj:l=[]->lv=()):
 xG 18 #[lv, .agg #[r.ai,r.id]] w λu w'=>ab M w' u (l.take j++[r]++l.drop (j+d)):=by
 have⟨i0,hi0,hz0,hz1,hz2⟩:=info_parts Ah;have HR:Hd (∀i y,l[i]? =some y->_):=λi y hx=>gw hl hx;have XT:=ag Qv;have ia:=ag hstop;have lF:=ag hM;have FM:=ag XS;have MQ:=ag hl;obtain⟨ra,rc,rfl,Qh,V0,_⟩:=hl.aq;have HL0:Hd (l.length=0->ra=none/\rc=0):=λh=>by
  have:=uj (Qdd h);simpa using(show ra=none/\l.length=0/\rc=0 by simpa using this)|>.elim (λa b=>⟨a,b.2⟩)
 have ZX:Hd (0<l.length->∃b off,ra=some ⟨b,off,none⟩):=λh=>by
  have⟨y,hy⟩:=eG l 0 h;have⟨b,off,cap,hv,_⟩:=gw hl hy;exact⟨b,off,by simpa using(show ra=some ⟨b,off,none⟩/\rc=cap by simpa using hv).1⟩
 clear hl hM Qv hstop XS uj;generalize hn:l.length=n at*;have eJ:=ag hn;clear hn;obtain⟨rn,ri⟩:=r;dsimp only at*;have ZY:decide ((0:Int)<ri)=true:=by simpa using hr
 go_enter func18,ntmps18;go_wp2;go_loopg [5,6]j(λg r5 iv wr=>∃(i c1:Nat)(a1:fx),i<=j/\g=j-i/\iv=xI i/\r5=xL a1 i c1/\Hd (aS (α:=bj) M [w] 86 wr (xL a1 i c1) (l.take i))/\Hd (Bx w [Tl ⟨rn,ri⟩] wr));case atStart=>exact⟨0,0,none,Qbf _,rfl,rfl,rfl,(aS.nil _ _ _ _),(Bx.eI w _)⟩
 case round=>
  obtain⟨i,c1,a1,hi,rfl,rfl,rfl,HA,HB⟩:=hrel;have⟨y0,y1⟩:=ak (HB.o.bO rfl);have qc4:(0:Int)<=(i:Int):=Qba _;go_upto_region 3 with fail;go_cut [20](λs20 wx=>∃nq bb,s20=xB bb/\Hd (bb=decide (i<j))/\wx=wr.drewN nq);case first=>
   by_cases kx:i<n
   .have⟨y,hy⟩:=eG l i (by rw[eJ.o];exact kx);have⟨b,off,cap,hv,hbl,_,hcells⟩:=HR.o i y hy;obtain⟨rfl,rfl⟩:=iY hv;have⟨q0,q1⟩:=hcells wr HB.o.1;have SN:(i:Int)<(n:Int):=by omega
    have qc5:Op.bytesLess y.ai.toList rn.toList=decide (i<j):=by
     by_cases hij:i<j
     .rw[XT.o i y hij hy,decide_eq_true hij]
     .obtain rfl:i=j:=by omega
      rw[(ia.o y hy).1,decide_eq_false hij]
    clear hv hcells hy;go_quiet(fail);go_wp2;go_meet;exact⟨nq,_,rfl,(show _=_ from by first|exact qc5|rfl),rfl⟩
   .have SN:decide ((i:Int)<(n:Int))=false:=by simp;omega
    have hij:decide (i<j)=false:=by simp;omega
    go_quiet(fail);go_wp2;go_meet;exact⟨nq,_,rfl,(show _=_ from hij.symm),rfl⟩
  case rest=>
   obtain⟨nq,bb,rfl,CG,rfl⟩:=hcut;cases bb with
   |true=>
    have hij:i<j:=of_decide_eq_true CG.o.symm;have⟨y,hy⟩:=eG l i (by rw[eJ.o];omega);have⟨b,off,cap,hv,hbl,hyn,hcells⟩:=HR.o i y hy;obtain⟨rfl,rfl⟩:=iY hv;have⟨q0,q1⟩:=hcells wr HB.o.1;have SN:(i:Int)<(n:Int):=by omega
    have nj:=ag (show(l.take i).length=i by have:=eJ.o;rw[Qdb];omega);have nN:=ag (show l.take i++[y]=l.take (i+1)by rw[Qbb,hy];simp);have HYN:=ag hyn;obtain⟨yn,yi⟩:=y;clear hcells hv hy hyn;have hsz:=HB.o.bQ;go_wp2_with(at_builtin;refine bo (α:=bj) rfl _ _ _ rfl M [w] 86 i0 _ 24 underlying33 hi0 hz0 hz1 hz2 rfl (by decide) (.slice a1 i c1) (l.take i) rfl ((HA.o.ae (tM wr nq)).alloc _) (λ_=>True) _ _ ⟨yn,yi⟩ rfl (cF _ _ _ _ rfl trivial) ⟨rfl,HYN.o⟩ (by rw[nj.o];unfold maxLen;omega) (by rw[nj.o];omega) (by have:=HB.o.bQ;simp at this⊢;omega) ?_;rw[nj.o,nN.o];intro a2 c2 w2 bD dK bE;have dr:=ag bD;have bV:=ag bE;clear bD dK bE);go_roundg(j-(i+1));case measure=>omega
    case rel=>
     refine⟨i+1,c2,a2,by omega,rfl,by go_num,rfl,dr,(((HB.o.drewN nq).alloc _).dG bV.o (by simp))⟩
   |false=>
    have hij:¬i<j:=of_decide_eq_false CG.o.symm;obtain rfl:i=j:=by omega
    have nj:=ag (show(l.take i).length=i by have:=eJ.o;rw[Qdb];omega);have vM:=ag (show(l.take i++[(⟨rn,ri⟩:bj)]).length=i+1 by rw[Qda,nj.o];rfl);have hi5:i<=5:=by omega
    have hsz:=HB.o.bQ;go_upto_region 8 with(
     at_builtin;refine bo (α:=bj) rfl _ _ _ rfl M [w] 86 i0 _ 24 underlying33 hi0 hz0 hz1 hz2 rfl (by decide) (.slice a1 i c1) (l.take i) rfl ((HA.o.ae (tM wr nq)).alloc _) (λ_=>True) _ _ ⟨rn,ri⟩ rfl (cF _ _ _ _ rfl trivial) ⟨rfl,FM.o⟩ (by rw[nj.o];unfold maxLen;omega) (by rw[nj.o];omega) (by have:=HB.o.bQ;simp at this⊢;omega) ?_;rw[nj.o];intro a2 c2 w2 bD dK bE;have dr:=ag bD;have bg:Hd (Bx w [Tl ⟨rn,ri⟩] w2):=((HB.o.drewN nq).alloc _).dG bE (by simp);clear bD dK bE);clear y0 y1;have⟨y0,y1⟩:=ak (bg.o.bO rfl);go_cut [50](λs50 wx=>∃IY bb,s50=xB bb/\Hd (bb=decide (d=1))/\wx=w2.drewN IY);case first=>
     by_cases kx:i<n
     .have⟨y,hy⟩:=eG l i (by rw[eJ.o];exact kx);have⟨b,off,cap,hv,hbl,_,hcells⟩:=HR.o i y hy;obtain⟨rfl,rfl⟩:=iY hv;have⟨q0,q1⟩:=hcells w2 bg.o.1;have SN:(i:Int)<(n:Int):=by omega
      have HDE:=ag (ia.o y hy).2;clear hv hcells hy;go_quiet(fail);go_wp2;go_meet;exact⟨nq,_,rfl,(show _=_ from HDE.o),rfl⟩
     .have SN:decide ((i:Int)<(n:Int))=false:=by simp;omega
      have XF:decide (d=1)=false:=by simp;omega
      go_quiet(fail);go_wp2;go_meet;exact⟨nq,_,rfl,(show _=_ from XF.symm),rfl⟩
    case rest=>
     obtain⟨IY,bd,rfl,J8,rfl⟩:=hcut;have HEW:Hd (Ev M w (bu (xL a2 (i+1) c2) M) (w2.drewN IY)):=⟨ao.az (bg.o.drewN IY).1,λj hj=>hj.imp_right λe=>by have:=(dr.o.cG j e).1;omega⟩;cases bd with
     |true=>
      have ZZ:=J8.o;obtain rfl:d=1:=by simp at ZZ;omega
      have V6:=ag (show(l.drop (i+1)).length=n-(i+1)by rw[List.length_drop,eJ.o]);have hw1:IntKind.i64.wrap ((i:Int)+1)=(i:Int)+1:=Qbe _ (by omega);have s1:(i:Int)<=(n:Int):=by omega
      have s2:(0:Int)<=(i:Int)+1:=by omega
      have s9:((i:Int)+1).toNat=i+1:=by omega
      have s4:i+1<=rc:=by omega
      have s5:i+1<=n:=hj;have s8:(i:Int)+1<=(n:Int):=by omega
      obtain⟨ap,pL⟩:∃ap,Hd (ab (bu (xL a2 (i+1) c2) M) (w2.drewN IY) (xL ap (n-(i+1)) (rc-(i+1))) (l.drop (i+1))/\((n=0/\ap=none/\ra=none/\rc=0/\i=0)\/∃b off,ra=some ⟨b,off,none⟩/\(if rc=i+1 then some (⟨b,off,none⟩:Addr)else some ⟨b,off+(i+1)*2,none⟩)=ap)):=by
       by_cases yI:n=0
       .have⟨e1,e2⟩:=HL0.o yI;refine⟨none,(show _/\_ from⟨?_, .inl ⟨yI,rfl,e1,e2,by omega⟩⟩)⟩;have e3:l=[]:=Qdd (eJ.o.trans yI);have e4:n-(i+1)=0:=by omega
        have e5:rc-(i+1)=0:=by omega
        rw[e3,e4,e5,List.drop_nil];exact ab.nil _ _
       .have⟨b,off,e1⟩:=ZX.o (by omega);refine⟨_,(show _/\_ from⟨?_, .inr ⟨b,off,e1,rfl⟩⟩)⟩;have hs2:=(MQ.o.ev HEW.o).from_ eJ.o (k:=i+1) hj;rw[e1]at hs2;simpa [Addr.add,show aD.size bj=2 from rfl]using hs2
      clear ZZ;rcases pL.o.2 with⟨rfl,rfl,rfl,rfl,rfl⟩|⟨b,off,rfl,hap⟩
      .omega
      .go_wp2_with(at_builtin;refine dp (α:=bj) rfl _ _ _ rfl M [w] 86 i0 _ 24 underlying33 hi0 hz0 hz1 hz2 rfl (by decide) (.slice a2 (_+1) c2) (l.take _++[⟨rn,ri⟩]) rfl (dr.o.ae (tM w2 IY)) _ (l.drop (_+1)) rfl pL.o.1 (by rw[vM.o,V6.o];unfold maxLen;omega) (by rw[vM.o,V6.o];omega) (by have:=bg.o.bQ;simp at this⊢;omega) ?_;rw[vM.o,V6.o];intro a3 c3 w3 kh yQ hb3;have pN:=ag kh;have bV:=ag hb3;clear kh yQ hb3);go_ret;have h4:=pN.o.slice (λj hj=>Nat.lt_succ_of_lt (lF.o j hj));rw[show i+1+(n-(i+1))=n from by omega]at h4;exact⟨_,rfl,by simpa using h4,((bg.o.drewN IY).dG bV.o (by simp)).1⟩
     |false=>
      have ZZ:=J8.o;obtain rfl:d=0:=by simp at ZZ;omega
      have s5:i<=n:=by omega
      have s1:(i:Int)<=(n:Int):=by omega
      have s4:i<=rc:=by omega
      clear ZZ;rcases Nat.eq_zero_or_pos i with SK|SK
      .subst SK;have pL:Hd (ab (bu (xL a2 (0+1) c2) M) (w2.drewN IY) (xL ra n rc) l):=MQ.o.ev HEW.o;rcases Nat.eq_zero_or_pos n with yI|yI
       .obtain⟨rfl,rfl⟩:=HL0.o yI;subst yI;go_wp2_with(at_builtin;refine dp (α:=bj) rfl _ _ _ rfl M [w] 86 i0 _ 24 underlying33 hi0 hz0 hz1 hz2 rfl (by decide) (.slice a2 (0+1) c2) (l.take 0++[⟨rn,ri⟩]) rfl (dr.o.ae (tM w2 IY)) _ (l) rfl pL.o (by rw[vM.o,eJ.o];unfold maxLen;omega) (by rw[vM.o,eJ.o];omega) (by have:=bg.o.bQ;simp at this⊢;omega) ?_;rw[vM.o,eJ.o];intro a3 c3 w3 kh yQ hb3;have pN:=ag kh;have bV:=ag hb3;clear kh yQ hb3);go_ret;have h4:=pN.o.slice (λj hj=>Nat.lt_succ_of_lt (lF.o j hj));exact⟨_,rfl,by simpa using h4,((bg.o.drewN IY).dG bV.o (by simp)).1⟩
       .obtain⟨b,off,rfl⟩:=ZX.o yI;go_wp2_with(at_builtin;refine dp (α:=bj) rfl _ _ _ rfl M [w] 86 i0 _ 24 underlying33 hi0 hz0 hz1 hz2 rfl (by decide) (.slice a2 (0+1) c2) (l.take 0++[⟨rn,ri⟩]) rfl (dr.o.ae (tM w2 IY)) _ (l) rfl pL.o (by rw[vM.o,eJ.o];unfold maxLen;omega) (by rw[vM.o,eJ.o];omega) (by have:=bg.o.bQ;simp at this⊢;omega) ?_;rw[vM.o,eJ.o];intro a3 c3 w3 kh yQ hb3;have pN:=ag kh;have bV:=ag hb3;clear kh yQ hb3);go_ret;have h4:=pN.o.slice (λj hj=>Nat.lt_succ_of_lt (lF.o j hj));exact⟨_,rfl,by simpa using h4,((bg.o.drewN IY).dG bV.o (by simp)).1⟩
      .obtain⟨b,off,rfl⟩:=ZX.o (by omega);have V6:=ag (show(l.drop i).length=n-i by rw[List.length_drop,eJ.o]);have⟨ap,hap⟩:=jN ((if rc=i then some (⟨b,off,none⟩:Addr)else some ⟨b,off+i*2,none⟩));have qc6:¬i*2=0:=by omega
       have pL:=ag (show ab (bu (xL a2 (i+1) c2) M) (w2.drewN IY) (xL ap (n-i) (rc-i)) (l.drop i)by
        have hs2:=(MQ.o.ev HEW.o).from_ eJ.o (k:=i) hj;rw[<-hap];simpa [Addr.add,show aD.size bj=2 from rfl,qc6]using hs2);go_wp2_with(at_builtin;refine dp (α:=bj) rfl _ _ _ rfl M [w] 86 i0 _ 24 underlying33 hi0 hz0 hz1 hz2 rfl (by decide) (.slice a2 (i+1) c2) (l.take i++[⟨rn,ri⟩]) rfl (dr.o.ae (tM w2 IY)) _ (l.drop i) rfl pL.o (by rw[vM.o,V6.o];unfold maxLen;omega) (by rw[vM.o,V6.o];omega) (by have:=bg.o.bQ;simp at this⊢;omega) ?_;rw[vM.o,V6.o];intro a3 c3 w3 kh yQ hb3;have pN:=ag kh;have bV:=ag hb3;clear kh yQ hb3);go_ret;have h4:=pN.o.slice (λj hj=>Nat.lt_succ_of_lt (lF.o j hj));exact⟨_,rfl,by simpa using h4,((bg.o.drewN IY).dG bV.o (by simp)).1⟩
def K3:(Tryz.prog.info? 66).map (λi=>(i.zero,i.size,i.bytes))=some (some (.agg #[xI 0,xI 0,xI 0,()]),4,48):=by kernel_rfl
def Dt {M:aV}{w:ax}{l:List jO}(h:ab M w v l){x:jO}(hx:l[k]? =some x):∃b off cap vv,v=xL (some ⟨b,off,none⟩) l.length cap/\b<w.heap.size/\ab (α:=Int) M w vv x.aZ/\(I6 x.cL/\I6 x.cQ/\I6 x.skip/\∀y∈x.aZ,I6 y)/\∀W,aC w W->bJ W b (off+k*4) x.cL/\bJ W b (off+k*4+1) x.cQ/\bJ W b (off+k*4+2) vv/\bJ W b (off+k*4+3) x.skip:=by
 obtain⟨a,cap,rfl,hl,_,hc⟩:=h.aq;have hk:=(Qad.1 hx).1;obtain⟨b,off,rfl,_,hb,hcell⟩:=hc (by omega);obtain⟨cs,⟨vv,rfl,h1,h2⟩,hcs⟩:=hcell k x hx;refine⟨b,off,cap,vv,rfl,hb,h1,h2,λW hB=> ?_⟩;have g:∀j u,([xI x.cL,xI x.cQ,vv,xI x.skip]:List aA)[j]? =some u->bJ W b (off+k*4+j) u:=λj u hu=>(hB.cell (p:=⟨b,off+k*4+j,none⟩) hb).trans (hcs j u hu);exact⟨g 0 _ rfl,g 1 _ rfl,g 2 _ rfl,g 3 _ rfl⟩
def Du {M:aV}{w:ax}{l:List jY}(h:ab M w v l){x:jY}(hx:l[k]? =some x):∃b off cap,v=xL (some ⟨b,off,none⟩) l.length cap/\b<w.heap.size/\(I6 x.ai/\I6 x.id)/\∀W,aC w W->bJ W b (off+k*2) x.ai/\bJ W b (off+k*2+1) x.id:=by
 obtain⟨a,cap,rfl,hl,_,hc⟩:=h.aq;have hk:=(Qad.1 hx).1;obtain⟨b,off,rfl,_,hb,hcell⟩:=hc (by omega);obtain⟨cs,⟨rfl,h2⟩,hcs⟩:=hcell k x hx;refine⟨b,off,cap,rfl,hb,h2,λW hB=> ?_⟩;have g:∀j u,([xI x.ai,xI x.id]:List aA)[j]? =some u->bJ W b (off+k*2+j) u:=λj u hu=>(hB.cell (p:=⟨b,off+k*2+j,none⟩) hb).trans (hcs j u hu);exact⟨g 0 _ rfl,g 1 _ rfl⟩
def M7(lv ov rv:aA)(n:Int):Obj:=xK #[lv,ov,rv,n] 35
def uL(l o r:aA):Obj:=xK #[l,o,r] 26
structure lh(M:aV)(w w1:ax)(o0 o1:Obj)(K:Nat)(lv:aA)(ls:List aQ)(ay:Int)(i cap:Nat)(a:fx)(os:List bF)(nx:Int)(wr:ax):Prop where
 len:os.length=i
 ids:∀(j:Nat)(o:bF),os[j]? =some o->o.id=(j:Int)+1/\∃k v l,iR ls ay o k v l
 blk:wr.heap[K]? =some (M7 lv (xL a i cap) () nx)
 acc:aS (qZ M w K) (K+1) 66 wr (xL a i cap) os
 ls0:ab (dX M w 2) w1 lv ls
 low:Below K w1 wr
 kw:K=w1
 bx:Bx w [o0,o1] wr
 hK:↑w+2<=K
section
variable {M:aV}{w w1 wr W:ax}{o0 o1:Obj}{K:Nat}{lv:aA}{ls:List aQ}{ay:Int}{i cap:Nat}{a:fx}{os:List bF}{nx:Int}
theorem lh.lt(h:lh M w w1 o0 o1 K lv ls ay i cap a os nx wr):K<wr:=(Qaa.1 h.blk).1
theorem lh.ae(h:lh M w w1 o0 o1 K lv ls ay i cap a os nx wr)(hb:aC wr W):lh M w w1 o0 o1 K lv ls ay i cap a os nx W:=
 ⟨h.len,h.ids,(hb.block K h.lt).trans h.blk,h.acc.ae hb,h.ls0,h.low.trans (hb.mono (Nat.le_of_lt h.lt)),h.kw,h.bx.ae hb,h.hK⟩
theorem lh.bd(h:lh M w w1 o0 o1 K lv ls ay i cap a os nx wr)(hM:Bd M w):Bd (bu (xL a i cap) (qZ M w K)) wr:=λj hj=>by
 have hl:=h.lt;rcases hj with hj|hj
 .have:=tH hM h.hK j hj;omega
 .exact(h.acc.cG j hj).2
theorem lh.ev1(h:lh M w w1 o0 o1 K lv ls ay i cap a os nx wr):Ev (dX M w 2) w1 (bu (xL a i cap) (qZ M w K)) wr:=
 ⟨ao.az (by rw[<-h.kw];exact h.low),λj hj=>by
   have hk:=h.kw;rcases hj with(hj|hj)|hj
   .exact .inl hj
   .right;omega
   .have:=(h.acc.cG j hj).1;right;omega⟩
theorem lh.ev0(h:lh M w w1 o0 o1 K lv ls ay i cap a os nx wr):Ev M w (bu (xL a i cap) (qZ M w K)) wr:=
 ⟨ao.az h.bx.1,λj hj=>by
   have hk:=h.hK;rcases hj with((hj|hj)|hj)|hj
   .exact .inl hj
   .exact .inr hj.1
   .right;omega
   .have:=(h.acc.cG j hj).1;right;omega⟩
theorem lh.put(h:lh M w w1 o0 o1 K lv ls ay i cap a os nx wr)(hM:Bd M w){ob:Obj}{o:bF}{a2:fx}{c2:Nat}(bE:aC wr w2)(hid:o.id=(i:Int)+1)(hok:∃k v l,iR ls ay o k v l)(hacc:aS (qZ M w K) (K+1) 66 w3 (xL a2 (i+1) c2) (os++[o]))(hb3:Below (K+1) (w2.alloc ob) w3):
 lh M w w1 o0 o1 K lv ls ay (i+1) c2 a2 (os++[o]) nx (w3.setCell (K,1) (xL a2 (i+1) c2)):=by
 have hl:=h.lt;have hK:=h.hK;have hz:=bE.size;have hbk:bW w3 K (M7 lv (xL a i cap) () nx):=(hb3.block K (by omega)).trans ((Qcb w2 ob K (by omega)).trans ((bE.block K hl).trans h.blk));have hbb:Below K wr w3:=((bE.mono (by omega)).alloc (by omega) ob).trans (hb3.mono (by omega));refine⟨by simp[h.len],λj y hj=> ?_,?_,?_,h.ls0,?_,h.kw,?_,hK⟩
 .by_cases hji:j<os.length
  .rw[Qbc hji]at hj;exact h.ids j y hj
  .have hj2:=(Qad.1 hj).1;have hlen:=h.len;simp at hj2;obtain rfl:j=i:=by omega
   have e:y=o:=by
    rw[Qbd (by omega),show j-os.length=0 from by omega]at hj;simpa using hj.symm
   subst e;exact⟨hid,hok⟩
 .have:=Qca w3 K 1 _ _ (xL a2 (i+1) c2) hbk;simpa [M7]using this
 .exact hacc.rC (p:=⟨K,1,none⟩) (.inr rfl) (by show K<K+1;omega) _
 .exact(h.low.trans hbb).setCell (Qab K) _
 .exact(h.bx.dG hbb (by simp;omega)).dG (B:=K) (dS.setCell (Qab K) _) (by simp;omega)
theorem lh.num(h:lh M w w1 o0 o1 K lv ls ay i cap a os nx wr)(n2:Int):lh M w w1 o0 o1 K lv ls ay i cap a os n2 (wr.setCell (K,3) n2):=by
 have hK:=h.hK;refine⟨h.len,h.ids,?_,?_,h.ls0,?_,h.kw,?_,hK⟩
 .have:=Qca wr K 3 _ _ n2 h.blk;simpa [M7]using this
 .exact h.acc.rC (p:=⟨K,3,none⟩) (.inr rfl) (by show K<K+1;omega) _
 .exact h.low.setCell (Qab K) _
 .exact h.bx.dG (B:=K) (dS.setCell (Qab K) _) (by simp;omega)
end
structure l9(M:aV)(w:ax)(o0 o1:Obj)(K:Nat)(lv ov rv:aA)(ls:List aQ)(os:List bF)(rs:List bj)(nx:Int)(j:Nat)(wr:ax):Prop where
 blk:wr.heap[K]? =some (M7 lv ov rv nx)
 sl:ab (qZ M w K) wr lv ls
 so:ab (qZ M w K) wr ov os
 sr:ab (qZ M w K) wr rv rs
 nil:rs=[]->rv=()
 rng:∀r∈rs,1<=r.id/\r.id<=os.length
 len:rs.length<=j
 nms:∃ks:List Nat,ks.Pairwise (·< ·)/\(∀k∈ks,k<5)/\rs.map bj.ai=ks.map vB
 bx:Bx w [o0,o1] wr
 hK:↑w+2<=K
section
variable {M:aV}{w wr W:ax}{o0 o1:Obj}{K:Nat}{lv ov rv:aA}{ls:List aQ}{os:List bF}{rs:List bj}{nx:Int}{j:Nat}
theorem l9.lt(h:l9 M w o0 o1 K lv ov rv ls os rs nx j wr):K<wr:=(Qaa.1 h.blk).1
theorem l9.ae(h:l9 M w o0 o1 K lv ov rv ls os rs nx j wr)(hb:aC wr W):l9 M w o0 o1 K lv ov rv ls os rs nx j W:=
 ⟨(hb.block K h.lt).trans h.blk,h.sl.ae hb,h.so.ae hb,h.sr.ae hb,h.nil,h.rng,h.len,h.nms,h.bx.ae hb,h.hK⟩
theorem l9.bd(h:l9 M w o0 o1 K lv ov rv ls os rs nx j wr)(hM:Bd M w):Bd (qZ M w K) wr:=λi hi=>by have:=tH hM h.hK i hi;have:=h.lt;omega
theorem l9.Yy(h:l9 M w o0 o1 K lv ov rv ls os rs nx j wr)(i:Nat)(u:aA):Ev (qZ M w K) wr (qZ M w K) (wr.setCell (K,i) u)/\Bx w [o0,o1] (wr.setCell (K,i) u):=
 ⟨(Ev.refl _ _).setCell (.inl (.inr rfl)) u,h.bx.dG (B:=K) (dS.setCell (Qab K) _) (by have:=h.hK;simp;omega)⟩
theorem l9.root(h:l9 M w o0 o1 K lv ov rv ls os rs nx j wr){Z0:aA}{rs2:List bj}(hb:aC wr w2)(hs:ab (qZ M w K) w2 Z0 rs2)(hne:rs2≠[])(hr:∀r∈rs2,1<=r.id/\r.id<=os.length)(hl:rs2.length<=j+1)(hn:∃ks:List Nat,ks.Pairwise (·< ·)/\(∀k∈ks,k<5)/\rs2.map bj.ai=ks.map vB):
 l9 M w o0 o1 K lv ov Z0 ls os rs2 nx (j+1) (w2.setCell (K,2) Z0):=by
 have h2:=h.ae hb;have⟨hE,hB⟩:=h2.Yy 2 Z0;refine⟨?_,h2.sl.ev hE,h2.so.ev hE,hs.ev hE,λe=>absurd e hne,hr,hl,hn,hB,h.hK⟩;have:=Qca w2 K 2 _ _ Z0 h2.blk;simpa [M7]using this
theorem l9.num(h:l9 M w o0 o1 K lv ov rv ls os rs nx j wr)(n2:Int):l9 M w o0 o1 K lv ov rv ls os rs n2 j (wr.setCell (K,3) n2):=by
 have⟨hE,hB⟩:=h.Yy 3 n2;refine⟨?_,h.sl.ev hE,h.so.ev hE,h.sr.ev hE,h.nil,h.rng,h.len,h.nms,hB,h.hK⟩;have:=Qca wr K 3 _ _ n2 h.blk;simpa [M7]using this
theorem lh.aF {w1:ax}{cap:Nat}{a:fx}{i:Nat}{ay:Int}(h:lh M w w1 o0 o1 K lv ls ay i cap a os nx wr)(hM:Bd M w):l9 M w o0 o1 K lv (xL a i cap) () ls os [] nx 0 wr:=
 ⟨h.blk,(h.ls0.ev h.ev1).ev (Ev.dL _ λi hi=> .inl hi),h.acc.slice (tH hM h.hK),ab.nil _ _,λ_=>rfl,λr hr=>(by cases hr),bT,⟨[],by simp,by simp,rfl⟩,h.bx,h.hK⟩
theorem l9.fin(h:l9 M w o0 o1 K lv ov rv ls os rs nx j wr)(hsc:dF ls)(TV:Ys ls)(hol:os.length<=10)(qc7:∀(i:Nat)(o:bF),os[i]? =some o->o.id=(i:Int)+1/\∃k v l,iR ls (os.length:Int) o k v l)(hj:j<=5)(re:(os.length:Int)+1<=nx/\nx<=(os.length:Int)+3)(W':ax)(hW':W'=(((wr.setCell ([w],0) lv).setCell ([w],1) ov).setCell ([w],2) rv).setCell ([w],3) nx):
 (∃(x:aW)(TW TX TY:aA),xj x/\Value.agg #[lv,ov,rv,nx]= .agg #[TW,TX,TY,x.next]/\ab M W' TW x.aK/\ab M W' TX x.aP/\ab M W' TY x.aF)/\aC w W':=by
 have hm:qZ M w K [w]:= .inl (.inr ⟨by omega,by omega⟩);have E:Ev (qZ M w K) wr M W':=by
  rw[hW'];exact((((Ev.dL wr λi hi=> .inl (.inl hi)).setCell (.inl hm) _).setCell (.inl hm) _).setCell (.inl hm) _).setCell (.inl hm) _
 refine⟨⟨⟨ls,os,rs,nx⟩,lv,ov,rv,⟨hsc,hol,qc7,Qcg h.len hj,h.rng,h.nms,re,TV⟩,rfl,h.sl.ev E,h.so.ev E,h.sr.ev E⟩,?_⟩;rw[hW'];exact(((h.bx.1.setCell (by simp) _).setCell (by simp) _).setCell (by simp) _).setCell (by simp) _
end
theorem Ai(q:Nat):∀ks:List Nat,ks.Pairwise (·< ·)->∃j d,j+d<=ks.length/\d<=1/\(∀i y,i<j->ks[i]? =some y->y<q)/\(∀y,ks[j]? =some y->¬y<q/\(y=q↔d=1))/\(ks.take j++[q]++ks.drop (j+d)).Pairwise (·< ·)
 |[],_=>⟨0,0,by simp,by omega,λi y h=>by omega,λy h=>by simp at h,by simp⟩
 |k::r,hp=>by
  have A8:=List.pairwise_cons.1 hp;rcases Nat.lt_trichotomy k q with bH|rfl|ZY
  .have⟨j,d,h1,h2,h3,h4,h5⟩:=Ai q r A8.2;refine⟨j+1,d,by simp;omega,h2,λi y hi hy=> ?_,λy hy=> ?_,?_⟩
   .match i,hi,hy with
    |0,_,hy=>simp at hy;omega
    |i+1,hi,hy=>exact h3 i y (by omega) (by simpa using hy)
   .exact h4 y (by simpa using hy)
   .rw[show j+1+d=(j+d)+1 from by omega];simp only[List.take_succ_cons,List.drop_succ_cons,List.cons_append];refine List.pairwise_cons.2 ⟨λy hy=> ?_,h5⟩;simp only[Qch,Qea]at hy;rcases hy with(hy|rfl)|hy
    .exact A8.1 y (List.mem_of_mem_take hy)
    .exact bH
    .exact A8.1 y (List.mem_of_mem_drop hy)
  .refine⟨0,1,by simp,by omega,λi y h=>by omega,λy hy=> ?_,?_⟩
   .simp at hy;omega
   .simpa using hp
  .refine⟨0,0,by simp,by omega,λi y h=>by omega,λy hy=> ?_,?_⟩
   .simp at hy;omega
   .simp only[List.take_zero,List.nil_append,Nat.add_zero,List.drop_zero,List.singleton_append];refine List.pairwise_cons.2 ⟨λy hy=> ?_,hp⟩;rcases Qdf.1 hy with rfl|hy
    .exact ZY
    .exact Nat.lt_trans ZY (A8.1 y hy)
def K4 {rs:List bj}{ks:List Nat}(h1:ks.Pairwise (·< ·))(h2:∀k∈ks,k<5)(h3:rs.map bj.ai=ks.map vB)(q:Nat)(hq:q<5):∃j d,j+d<=rs.length/\d<=1/\(∀i y,i<j->rs[i]? =some y->Op.bytesLess y.ai.toList (vB q).toList=true)/\(∀y,rs[j]? =some y->Op.bytesLess y.ai.toList (vB q).toList=false/\(y.ai.toList==(vB q).toList)=decide (d=1))/\∀id:Int,∃ks':List Nat,ks'.Pairwise (·< ·)/\(∀k∈ks',k<5)/\(rs.take j++[(⟨vB q,id⟩:bj)]++rs.drop (j+d)).map bj.ai=ks'.map vB:=by
 have hl:rs.length=ks.length:=by have:=congrArg List.length h3;simpa using this
 have at_:∀(i:Nat)(y:bj),rs[i]? =some y->∃k,ks[i]? =some k/\k<5/\y.ai=vB k:=λi y hy=>by
  have hk:=(Qad.1 hy).1;have e:(rs.map bj.ai)[i]? =(ks.map vB)[i]? :=by rw[h3]
  rw[List.getElem?_map,List.getElem?_map,hy]at e;have⟨k,hk2⟩:=eG ks i (by omega);rw[hk2]at e;exact⟨k,hk2,h2 k (Qaf hk2),by simpa using e⟩
 have⟨j,d,a1,a2,a3,a4,a5⟩:=Ai q ks h1;refine⟨j,d,by omega,a2,λi y hi hy=> ?_,λy hy=> ?_,λid=>⟨_,a5,λk hk=> ?_,?_⟩⟩
 .have⟨k,k1,k2,k3⟩:=at_ i y hy;rw[k3,xh k k2 q hq];exact decide_eq_true (a3 i k hi k1)
 .have⟨k,k1,k2,k3⟩:=at_ j y hy;have⟨b1,b2⟩:=a4 k k1;rw[k3,xh k k2 q hq,Oa k k2 q hq];exact⟨decide_eq_false b1,by rw[decide_eq_decide];exact b2⟩
 .simp only[Qch,Qea]at hk;rcases hk with(hk|rfl)|hk
  .exact h2 k (List.mem_of_mem_take hk)
  .exact hq
  .exact h2 k (List.mem_of_mem_drop hk)
 .simp only[List.map_append,List.map_take,List.map_drop,h3,List.map_cons,List.map_nil]
end
section
open Go.ChangeShapes Go.WideShapes Go.ChangeAt Go.RowKit Go.Deep
def K6 {x:Int}(h:(Lit.int .i64 x).wf=true):I6 x:=by
 unfold I6;simpa [Lit.wf,IntKind.min,IntKind.max,IntKind.signed,IntKind.bits]using h
def GF {W:ax}{a:Addr}(h:W.cell? a=some v):a.spot=none:=by
 unfold World.cell? at h;split at h
 .split at h
  .cases h
  .rename_i h1;simpa using h1
 .cases h
theorem rT {α:Type}{Q:Nat->α->Prop}:∀(n:Nat),(∀i,i<n->∃c,Q i c)->∃cs:List α,cs.length=n/\∀j c,cs[j]? =some c->Q j c
 |0,_=>⟨[],rfl,λj c h=>by simp at h⟩
 |n+1,h=>by
  have⟨cs,hl,hc⟩:=rT n λi hi=>h i (by omega);have⟨c,hcn⟩:=h n (by omega);refine⟨cs++[c],by simp[hl],λj d hj=> ?_⟩;by_cases hjn:j<n
  .rw[Qbc (by omega)]at hj;exact hc j d hj
  .have hj2:j<(cs++[c]).length:=(Qad.1 hj).1;have:j=n:=by simp[hl]at hj2;omega
   subst this;rw[Qbd (by omega),hl]at hj;simp at hj;subst hj;exact hcn
theorem rU {size:Nat}:∀(css:List (List aA)),(∀cs∈css,cs.length=size)->css.flatten.length=css.length*size
 |[],_=>by simp
 |a::r,h=>by
  rw[List.flatten_cons,Qda,rU r (λcs hc=>h cs (List.mem_cons_of_mem _ hc)),h a List.mem_cons_self,Qcc,Nat.succ_mul];omega
def Rd {H:Type}(enc:TypeId×aA->H)(W:ax)(t:TypeId)(cs:List aA):Prop:=∃fuel x,DataW.trod enc prog W 0 (λ_=>true) true fuel t cs=some x
section
variable {H:Type}{enc:TypeId×aA->H}{W:ax}
def fO(h:Rd enc W 3 cs):∃z,cs=[xI z]/\I6 z:=by
 obtain⟨n,x,h⟩:=h;have⟨z,e,_,w⟩:=DataW.trod_int underlying3 h;exact⟨z,e,K6 w⟩
def RE(h:Rd enc W 4 cs):∃z,cs=[xB z]:=by
 obtain⟨n,x,h⟩:=h;have⟨z,e,_⟩:=DataW.trod_bool underlying4 h;exact⟨z,e⟩
def di {fs:Array Field}(he:Tryz.prog.underlying t=some (.struct fs))(h:Rd enc W t cs)(j:Nat)(f:Field)(hj:fs[j]? =some f):Rd enc W f.type ((cs.drop f.offset).take (Tryz.prog.cellsOf f.type)):=by
 obtain⟨n,x,h⟩:=h;have⟨ys,n',hn',hy,hlen,hyl,hf⟩:=DataW.trod_struct he h;have Ck:j<fs.size:=(Qaa.1 hj).1;exact⟨n',_,(hf j f hj).trans (Qac (by omega))⟩
def Oc {α:Type} [aD α]{ts te:TypeId}{fuel:Nat}{Q:α->Prop}(hts:Tryz.prog.underlying ts=some (.slice te))(hsz:Tryz.prog.cellsOf te=aD.size α)(vG:0<aD.size α)
 (each:∀n cs,n<fuel->cs.length=aD.size α->(∃x,DataW.trod enc prog W 0 (λ_=>true) true n te cs=some x)->∃y:α,aD.rep xF W cs y/\Q y)(h:∃x,DataW.trod enc prog W 0 (λ_=>true) true fuel ts [v]=some x):∃ys:List α,ab xF W v ys/\∀y∈ys,Q y:=by
 obtain⟨x0,h⟩:=h;rcases DataW.trod_slice hts h with h0|⟨a,len,cap,elems,rest,n,hf,hcs,hx,hb,hl,hm,hle,hi,_⟩
 .have:=h0.1;simp at this;subst this;exact⟨[],ab.nil _ _,λy hy=>by cases hy⟩
 .simp at hcs;subst hcs;have⟨ps,hlen,hps⟩:=rT (Q:=λi(p:List aA×α)=>p.1.length=aD.size α/\aD.rep xF W p.1 p.2/\Q p.2/\∀(j:Nat)(u:aA),p.1[j]? =some u->W.cell? (a.add (i*aD.size α+j))=some u) len (λi vZ=>by
   obtain⟨Z2,hc,CF⟩:∃Z2,W.cells? 0 (a.add (i*Tryz.prog.cellsOf te)) (Tryz.prog.cellsOf te)=some Z2/\DataW.trod enc prog W 0 (λ_=>true) true n te Z2=some (elems[i]'(by omega)):=
    Option.bind_eq_some_iff.1 ((hi i vZ).trans (Qac (by omega)));rw[hsz]at hc;have⟨_,hcl,hat⟩:=World.cells?_some hc;have⟨y,h1,h2⟩:=each n Z2 (by omega) hcl ⟨_,CF⟩;refine⟨(Z2,y),hcl,h1,h2,λj u hu=> ?_⟩;have hj:j<aD.size α:=by rw[<-hcl];exact(Qad.1 hu).1
   rw[<-Go.Deep.add_add,hat j hj,hu]);have SO:∀(i:Nat)(cs:List aA),(ps.map (·.1))[i]? =some cs->cs.length=aD.size α:=λi cs hc=>by
   rw[List.getElem?_map]at hc;obtain⟨p,hp,rfl⟩:=Option.map_eq_some_iff.1 hc;exact(hps i p hp).1
  have vN:(ps.map (·.1)).flatten.length=len*aD.size α:=by
   rw[rU _ (λcs hcs=>by have⟨i,hi⟩:=Qdg hcs;exact SO i cs hi),Qdc,hlen]
  refine⟨ps.map (·.2),⟨ps.map (·.1),⟨by rw[vN,Qdc,hlen],some a,cap,by rw[Qdc,hlen],by rw[Qdc];omega,hm,λhp=> ?_⟩,by simp,λi cs x hc hx=> ?_⟩,λy hy=> ?_⟩
  .rw[Qdc,hlen]at hp;have h0:W.cell? (a.add 0)≠none:=by
    have⟨p,hp0⟩:=eG ps 0 (by omega);have⟨e1,_,_,e4⟩:=hps 0 p hp0;have⟨u,hu⟩:=eG p.1 0 (by omega);have:=e4 0 u hu;rw[Nat.zero_mul]at this;rw[this];simp
   have⟨u0,hu0⟩:=Option.ne_none_iff_exists'.1 h0;simp[Addr.add]at hu0;obtain⟨b,off,sp⟩:=a;have Xz:=GF hu0;simp at Xz;subst Xz;have hbl:=oL hu0;have ea:∀k,(Addr.add ⟨b,off,none⟩ k)=⟨b,off+k,none⟩:=λk=>by
    unfold Addr.add;split
    .rename_i h;subst h;rfl
    .rfl
   refine⟨b,off,rfl,λhf=>hf,hbl,λj u hu=> ?_⟩;have hj:j<len*aD.size α:=by rw[<-vN];exact(Qad.1 hu).1
   have VR:j/aD.size α<len:=(Nat.div_lt_iff_lt_mul vG).2 hj;have hr2:j%aD.size α<aD.size α:=Nat.mod_lt _ vG;have⟨p,hp1⟩:=eG ps (j/aD.size α) (by omega);have⟨e1,_,_,e4⟩:=hps _ p hp1;obtain⟨u',hu'⟩:∃u',p.1[j%aD.size α]? =some u':=⟨_,Qac (by omega)⟩;have e5:=iF SO (j/aD.size α) p.1 (j%aD.size α) u' (by rw[List.getElem?_map,hp1];rfl) hu';have e6:j/aD.size α*aD.size α+j%aD.size α=j:=by rw[Nat.mul_comm];exact Nat.div_add_mod _ _
   rw[e6,hu]at e5;obtain rfl:=Option.some.inj e5;have:=e4 _ _ hu';rw[ea,e6]at this;exact this
  .rw[List.getElem?_map]at hc hx;obtain⟨p,hp,rfl⟩:=Option.map_eq_some_iff.1 hc;rw[hp]at hx;obtain rfl:=Option.some.inj hx;exact(hps i p hp).2.1
  .obtain⟨p,hp,rfl⟩:=Qdh.1 hy;have⟨i,VR⟩:=Qdg hp;exact(hps i p VR).2.2.1
def pX {α:Type} [aD α]{ts te:TypeId}{Q:α->Prop}(hts:Tryz.prog.underlying ts=some (.slice te))(hsz:Tryz.prog.cellsOf te=aD.size α)(vG:0<aD.size α)
 (each:∀cs,cs.length=aD.size α->Rd enc W te cs->∃y:α,aD.rep xF W cs y/\Q y)(h:Rd enc W ts [v]):∃ys:List α,ab xF W v ys/\∀y∈ys,Q y:=by
 obtain⟨n0,hx⟩:=h;exact Oc hts hsz vG (λn cs _ hl ht=>each cs hl ⟨n,ht⟩) hx
def RF(h:Rd enc W 27 [v]):∃ys:List Int,ab xF W v ys/\∀y∈ys,I6 y:=
 pX (α:=Int) underlying27 (by kernel_rfl) (by decide) (λcs _ h=>by
  obtain⟨z,rfl,hz⟩:=fO h;exact⟨z,rfl,hz⟩) h
def Od(h:cs.length=4):∃a b c d,cs=[a,b,c,d]:=by
 match cs,h with
 |[a,b,c,d],_=>exact⟨a,b,c,d,rfl⟩
def cells3(h:cs.length=3):∃a b c,cs=[a,b,c]:=by
 match cs,h with
 |[a,b,c],_=>exact⟨a,b,c,rfl⟩
def UK(h:cs.length=2):∃a b,cs=[a,b]:=by
 match cs,h with
 |[a,b],_=>exact⟨a,b,rfl⟩
def UL(h:cs.length=8):∃a b c d e f g i,cs=[a,b,c,d,e,f,g,i]:=by
 match cs,h with
 |[a,b,c,d,e,f,g,i],_=>exact⟨a,b,c,d,e,f,g,i,rfl⟩
end
def oV:Tryz.prog.cellsOf 3=1:=by kernel_rfl
def Yz:Tryz.prog.cellsOf 4=1:=by kernel_rfl
def qb1:Tryz.prog.cellsOf 49=2:=by kernel_rfl
def YA:Tryz.prog.cellsOf 138=2:=by kernel_rfl
def cFs:Tryz.prog.cellsOf 136=1:=by kernel_rfl
def qb2:Tryz.prog.cellsOf 139=1:=by kernel_rfl
def cIs:Tryz.prog.cellsOf 27=1:=by kernel_rfl
def cLs:Tryz.prog.cellsOf 22=1:=by kernel_rfl
def cOs:Tryz.prog.cellsOf 23=1:=by kernel_rfl
def cRs:Tryz.prog.cellsOf 24=1:=by kernel_rfl
section
variable {H:Type}{enc:TypeId×aA->H}{W:ax}
def Dv(cs:List aA)(hl:cs.length=4)(h:Rd enc W 198 cs):∃y:jF,aD.rep xF W cs y/\True:=by
 obtain⟨a,b,c,d,rfl⟩:=Od hl;have h0:Rd enc W 3 [a]:=by simpa [oV]using di underlying198 h 0 _ rfl
 have h1:Rd enc W 3 [b]:=by simpa [oV]using di underlying198 h 1 _ rfl
 have h2:Rd enc W 3 [c]:=by simpa [oV]using di underlying198 h 2 _ rfl
 have h3:Rd enc W 4 [d]:=by simpa [Yz]using di underlying198 h 3 _ rfl
 have⟨z0,e0,w0⟩:=fO h0;have⟨z1,e1,w1⟩:=fO h1;have⟨z2,e2,w2⟩:=fO h2;have⟨z3,e3⟩:=RE h3;simp at e0 e1 e2 e3;subst e0 e1 e2 e3;exact⟨⟨z0,z1,z2,z3⟩,⟨rfl,w0,w1,w2⟩,trivial⟩
def Oe(cs:List aA)(hl:cs.length=8)(h:Rd enc W 195 cs):∃y:fM,aD.rep xF W cs y/\True:=by
 obtain⟨a,b,c,d,e,f,g,i,rfl⟩:=UL hl;have h0:Rd enc W 3 [a]:=by simpa [oV]using di underlying195 h 0 _ rfl
 have h1:Rd enc W 3 [b]:=by simpa [oV]using di underlying195 h 1 _ rfl
 have h2:Rd enc W 3 [c]:=by simpa [oV]using di underlying195 h 2 _ rfl
 have h3:Rd enc W 3 [d]:=by simpa [oV]using di underlying195 h 3 _ rfl
 have h4:Rd enc W 49 [e,f]:=by simpa [qb1]using di underlying195 h 4 _ rfl
 have h5:Rd enc W 3 [g]:=by simpa [oV]using di underlying195 h 5 _ rfl
 have h6:Rd enc W 3 [i]:=by simpa [oV]using di underlying195 h 6 _ rfl
 have h7:Rd enc W 3 [e]:=by simpa [oV]using di underlying49 h4 0 _ rfl
 have h8:Rd enc W 3 [f]:=by simpa [oV]using di underlying49 h4 1 _ rfl
 have⟨z0,e0,w0⟩:=fO h0;have⟨z1,e1,w1⟩:=fO h1;have⟨z2,e2,w2⟩:=fO h2;have⟨z3,e3,w3⟩:=fO h3;have⟨z5,e5,w5⟩:=fO h5;have⟨z6,e6,w6⟩:=fO h6;have⟨z7,e7,w7⟩:=fO h7;have⟨z8,e8,w8⟩:=fO h8;simp at e0 e1 e2 e3 e5 e6 e7 e8;subst e0 e1 e2 e3 e5 e6 e7 e8;exact⟨⟨z0,z1,z2,z3,⟨z7,z8⟩,z5,z6⟩,⟨rfl,w0,w1,w2,w3,w7,w8,w5,w6⟩,trivial⟩
def GG(cs:List aA)(hl:cs.length=3)(h:Rd enc W 141 cs):∃y:ib,aD.rep xF W cs y/\True:=by
 obtain⟨a,b,c,rfl⟩:=cells3 hl;have h0:Rd enc W 138 [a,b]:=by simpa [YA]using di underlying141 h 0 _ rfl
 have h1:Rd enc W 139 [c]:=by simpa [qb2]using di underlying141 h 1 _ rfl
 have h2:Rd enc W 3 [a]:=by simpa [oV]using di underlying138 h0 0 _ rfl
 have h3:Rd enc W 136 [b]:=by simpa [cFs]using di underlying138 h0 1 _ rfl
 have⟨z2,e2,w2⟩:=fO h2;simp at e2;subst e2;have⟨fs,s3,_⟩:=pX (α:=jF) underlying136 (by kernel_rfl) (by decide) Dv h3;have⟨chs,s1,_⟩:=pX (α:=fM) underlying139 (by kernel_rfl) (by decide) Oe h1;exact⟨⟨⟨z2,fs⟩,chs⟩,⟨b,c,rfl,s3,s1,w2⟩,trivial⟩
def K7(cs:List aA)(hl:cs.length=4)(h:Rd enc W 81 cs):∃y:jO,aD.rep xF W cs y/\True:=by
 obtain⟨a,b,c,d,rfl⟩:=Od hl;have h0:Rd enc W 3 [a]:=by simpa [oV]using di underlying81 h 0 _ rfl
 have h1:Rd enc W 3 [b]:=by simpa [oV]using di underlying81 h 1 _ rfl
 have h2:Rd enc W 27 [c]:=by simpa [cIs]using di underlying81 h 2 _ rfl
 have h3:Rd enc W 3 [d]:=by simpa [oV]using di underlying81 h 3 _ rfl
 have⟨z0,e0,w0⟩:=fO h0;have⟨z1,e1,w1⟩:=fO h1;have⟨vs,s2,w2⟩:=RF h2;have⟨z3,e3,w3⟩:=fO h3;simp at e0 e1 e3;subst e0 e1 e3;exact⟨⟨z0,z1,vs,z3⟩,⟨c,rfl,s2,w0,w1,w3,w2⟩,trivial⟩
def GH(cs:List aA)(hl:cs.length=2)(h:Rd enc W 84 cs):∃y:jY,aD.rep xF W cs y/\True:=by
 obtain⟨a,b,rfl⟩:=UK hl;obtain⟨n,x,h⟩:=h;have⟨xs,m1,hm,hx1,hlen,hn3,hel⟩:=DataW.trod_array underlying84 h;have g:∀i,i<2->Rd enc W 3 (([a,b].drop (i*Tryz.prog.cellsOf 3)).take (Tryz.prog.cellsOf 3)):=λi hi=>⟨m1,_,(hel i hi).trans (Qac (by omega))⟩;have h0:Rd enc W 3 [a]:=by simpa [oV]using g 0 (by omega)
 have h1:Rd enc W 3 [b]:=by simpa [oV]using g 1 (by omega)
 have⟨z0,e0,w0⟩:=fO h0;have⟨z1,e1,w1⟩:=fO h1;simp at e0 e1;subst e0 e1;exact⟨⟨z0,z1⟩,⟨rfl,w0,w1⟩,trivial⟩
def Of {a b c:aA}(h:Rd enc W 26 [a,b,c]):∃(ls:List ib)(os:List jO)(rs:List jY),ab xF W a ls/\ab xF W b os/\ab xF W c rs:=by
 have h0:Rd enc W 22 [a]:=by simpa [cLs]using di underlying26 h 0 _ rfl
 have h1:Rd enc W 23 [b]:=by simpa [cOs]using di underlying26 h 1 _ rfl
 have h2:Rd enc W 24 [c]:=by simpa [cRs]using di underlying26 h 2 _ rfl
 have⟨ls,s0,_⟩:=pX (α:=ib) underlying22 (by kernel_rfl) (by decide) GG h0;have⟨os,s1,_⟩:=pX (α:=jO) underlying23 (by kernel_rfl) (by decide) K7 h1;have⟨rs,s2,_⟩:=pX (α:=jY) underlying24 (by kernel_rfl) (by decide) GH h2;exact⟨ls,os,rs,s0,s1,s2⟩
end
end
end Go.Proofs.YtepaofffbkfodaaGreatDoor
