/- A part; no condition. -/
import Derived.Test.YtpjdjlnknfmfkaaGreatDoorM12
import Derived.Sort.CutIn
set_option linter.all false
set_option maxHeartbeats 8000000
set_option maxRecDepth 100000
namespace Go.Proofs.YtpjdjlnknfmfkaaGreatDoor
open Go.Proofs.Tryz
open Go.RowKit Go.Shelf
variable{j i cap R fr te K k g p b yc:Nat}{A w W wx w' W2 w3:bq}{N M M':bY}{a ya:fM}{us vs:List bE}{x:bK}{fv cv sv v:bt}{br:Int}{ls:List bQ}{t:TypeId}{o:Obj}{nm:bS}
section
attribute [local go_sem]Oper.semAt_some
def p8(nm:bS)(fv cv:bt)(w:bq):xC 207 #[.agg #[nm,fv,cv]] w λe w'=>e=xR (.func (.func 275) #[] #[xP w.heap.size])/\w.alloc (dG nm fv cv)=w':=by
 have BC:∀(fn:Fn)(bu cap:Array bt)(w:bq),(Instr.makeFunc fn bu cap).run prog w= .ok (.func fn bu cap) w:=λ_ _ _ _=>rfl;delta xC;go_in;go_wp2;go_ret;exact⟨rfl,rfl⟩
def rF(M S:bY)(w:bq):Nat->Prop:=λi=>M i\/S i\/St w 1 i
def p9(l:bQ)(N:bY)(i:Nat)(args:Array bt)(j:Nat)(A:bq):Prop:=j=i+1/\i<=l.bo.length/\∃kF,args= #[.agg #[l.bu.aX,kF],xI 0]/\aS N A kF (bV l i).aW
structure uF(l:bQ)(N:bY)(p:Nat)(w0 w:bq)(fv cv:bt)(i:Nat)(fvc:bt)(A:bq):Prop where
 aT:bC w0 A
 line:A.heap[p]? =some (dG l.bu.aX fv cv)
 dz:A.heap[w.heap.size+2]? =some (dP l.bu.aX fvc)
 sl:aS N A fvc (bV l i).aW
section
variable {l:bQ}{M S:bY}{p:Nat}{w0 w:bq}{fv cv:bt}{i:Nat}{fvc:bt}{A B:bq}
def uF.size(h:uF l (rF M S w) p w0 w fv cv i fvc A):w.heap.size+2<A:=(ab.1 h.dz).1
def uF.round(h:uF l (rF M S w) p w0 w fv cv i fvc A)(ho:bh (Y9 S w) A B)(hS:∀i,S i->w0.heap.size<=i/\i<w.heap.size)(hw:w0.heap.size<=w)(hp:p<w)(hSp:¬S p):uF l (rF M S w) p w0 w fv cv i fvc B:=by
 have hz:=h.size;refine⟨⟨ho.os.trans h.aT.os,ho.tape.trans h.aT.tape,ho.output.trans h.aT.output,aH h.aT.size ho.size,λj hj=>(ho.block j (by omega) (λhS'=> ?_)).trans (h.aT.block j hj)⟩,ho.at_ h.line (λh=> ?_),ho.at_ h.dz (λh=> ?_),h.sl.ev ⟨ho.mono λj hj=> ?_,λj hj=> .inl hj⟩⟩
 .rcases hS' with hS'|hS'
  .have:=(hS j hS').1;omega
  omega
 .rcases h with h|h
  .exact hSp h
  omega
 .rcases h with h|h
  .have:=(hS _ h).2;omega
  omega
 rcases hj with hj|hj
 .exact .inr (.inl hj)
 exact .inr (.inr ⟨by omega,by omega⟩)
def uF.own(h:uF l (rF M S w) p w0 w fv cv i fvc A)(hb:bC A B)(hw:w0.heap.size<=w)(hp:p<w):uF l (rF M S w) p w0 w fv cv i fvc B:=by
 have hz:=h.size;exact⟨h.aT.trans (hb.mono (by omega)),(hb.block p (by omega)).trans h.line,(hb.block _ hz).trans h.dz,h.sl.aT hb⟩
def VL(hM:Bd M w0)(hS:∀i,S i->w0.heap.size<=i/\i<w.heap.size)(hw:w0.heap.size<=w)(hA:w.heap.size+2<A):Bd (rF M S w) A:=λi hi=>by
 rcases hi with hi|hi|hi
 .have:=hM i hi;omega
 .have:=(hS i hi).2;omega
 have:=hi.2;omega
def VM(hS:∀i,S i->w0.heap.size<=i/\i<w.heap.size)(hw:w0.heap.size<=w)(hb:bC w0 A):Ev M w0 (rF M S w) A:=⟨bh.bA hb,λi hi=>by
 rcases hi with hi|hi|hi
 .exact .inl hi
 .exact .inr (hS i hi).1
 exact .inr (by have:=hi.1;omega)⟩
def uF.next(h:uF l (rF M S w) p w0 w fv cv i fvc A){fvn:bt}(hs:aS (rF M S w) A fvn (bV l j).aW)(hw:w0.heap.size<=w)(hp:p<w)
 (hB:B=(A.setCell (w.heap.size+2,0) l.bu.aX).setCell (w.heap.size+2,1) fvn):uF l (rF M S w) p w0 w fv cv j fvn B/\bh (Y8 w 1) A B:=by
 subst hB;have ho:bh (Y8 w 1) A ((A.setCell (w.heap.size+2,0) l.bu.aX).setCell (w.heap.size+2,1) fvn):=((bh.refl (Y8 w 1) A).setCell (p:=⟨w.heap.size+2,0,none⟩) (.inl ⟨by simp,by simp⟩) _).setCell (p:=⟨w.heap.size+2,1,none⟩) (.inl ⟨by simp,by simp⟩) _;refine⟨⟨h.aT.trans (((eH.setCell (by show w0.heap.size<=↑w+2;omega) _).setCell (by show w0.heap.size<=↑w+2;omega) _)),ho.at_ h.line (λh=>by have:=h.1;omega),sD h.dz _ _,hs.ev ⟨ho.mono λj hj=> .inr (.inr ⟨by have:=hj.1;omega,by have:=hj.2;omega⟩),λj hj=> .inl hj⟩⟩,ho⟩
end
def oN(l:bQ)(hl:ff l)(M S:bY)(p:Nat)(w0 w:bq)(hM:Bd M w0)(hw:bC w0 w)(hT:Tb w0)(fv cv:bt)(hfs:aS M w0 fv l.bu.aW)(hcs:aS M w0 cv l.bo)
 (hp:cX w p (dG l.bu.aX fv cv))(hSp:¬S p)(hS:∀i,S i->w0.heap.size<=i/\i<w.heap.size):
 LG prog 275 #[xP p] w S 1 0 (p9 l (rF M S w)) (λi=>i=l.bo.length+1):=by
 intro J Jx W hz hb hJ UC hY h0;have HJ:=aV hJ;have HJX:=aV UC;have HY:=aV hY;have CU:=hw.size;have iJ:p<w:=(ab.1 hp).1;have Tp:Hd (cX W p (dG l.bu.aX fv cv)):=(hb.block p iJ).trans hp;have qW:Hd (bC w0 W):=hw.trans (hb.mono CU);have h5:=hl.len;have HR:Hd (∀A,bC w0 A->xC 50 #[.agg #[l.bu.aX,fv]] A (di true A)):=λA hb=>by
  have h:=iA M fv A l.bu (hfs.aT hb) (dD hl.bu.small);rw[hl.bu.right]at h;exact h
 have pB:Hd (∀(i:Nat)(x:bK)A fvc,l.bo[i]? =some x->bC w0 A->w.heap.size+2<A->aS (rF M S w) A fvc (bV l i).aW->xC 170 #[.agg #[l.bu.aX,fvc], .agg #[xI x.bg,xS x.field,xS x.aX,xS x.more,xI x.type.bg,xI x.type.of,xS x.dO,xS x.cW]] A (de A λv w'=>∃kF,v= .tuple #[.agg #[l.bu.aX,kF],xI 0]/\aS (rF M S w) w' kF (bV l (i+1)).aW)):=λi x A fvc hx hb hA hs=>by
  have⟨h1,h2,h3⟩:=hl.step hx;have h:=Mm (rF M S w) A (VL hM hS CU hA) (bV l i) (hl.lr i) x h1 h2 fvc hs (hT.aT hb);rw[hl.aX i]at h;rw[h3];exact h
 have nV:Hd (∀k x,l.bo[k]? =some x->_):=λk x h=>pM hcs h;have qau:Hd (∀A,bC w0 A->aS (rF M S w) A fv (bV l 0).aW):=λA hb=>hfs.ev (VM hS CU hb);have TB:=aV h0;obtain⟨fa,fc,rfl,_⟩:=hfs.bj;obtain⟨ca,cc,rfl,_⟩:=hcs.bj;have⟨l0,l1,l2⟩:=bM Tp.o;clear hJ UC hY h0 hT hp hb hfs hcs hw hl;refine callsIn_of_wp func275 rfl trivial ?_ rfl;simp only[ntmps275,List.size_toArray,aC,aD,Nat.reduceAdd,Nat.reduceSub,Array.replicate_succ,Array.replicate_zero,List.push_toArray,List.append_toArray,List.nil_append,List.cons_append];gi_wp2_with fail;have⟨W1,hW1⟩:=dd (W.alloc (dP l.bu.aX (xL fa l.bu.aW.length fc)));have TR:bC W W1:=by rw[hW1];exact cU
 have hB1:bC w0 W1:=qW.o.trans (TR.mono (by omega));have HV1:Hd (uF l (rF M S w) p w0 w (xL fa l.bu.aW.length fc) (xL ca l.bo.length cc) 0 (xL fa l.bu.aW.length fc) W1):=⟨hB1,(TR.block p (by omega)).trans Tp.o,by rw[hW1,<-hz];exact az W _,qau.o W1 hB1⟩;have Rb:Hd (J 0 W1):=HJ.o 0 W W1 TB.o (bh.bA TR);unfold dP at hW1;rw[<-hW1];clear hW1 TR hB1 l0 l1 l2;refine⟨trivial,rfl,(callsIn_wide.2 (HR.o _ HV1.o.aT)).mono ?_⟩;rintro e w1⟨rfl,hb1⟩;have HV2:=aV (HV1.o.own hb1 CU iJ);have HJ2:Hd (J 0 w1):=HJ.o 0 W1 w1 Rb.o (bh.bA hb1);have⟨c0,c1⟩:=aZ HV2.o.dz;have⟨fn,tmps,assign,body,hy,hR⟩:=HY.o 0 #[.agg #[l.bu.aX,xL fa l.bu.aW.length fc],xI 0] 1 w1 HJ2.o ⟨rfl,ax _,_,rfl,HV2.o.sl⟩;have nU:=aV hR;clear hR hb1;gi_wp2_with fail;refine⟨rfl,nU.o.mono ?_⟩;rintro e W3(⟨rfl,WR,BD⟩|⟨rfl,JB⟩)
 .have UD:=aV WR;have YJ:=aV (HV2.o.round BD hS CU iJ hSp);have⟨l0,l1,l2⟩:=bM YJ.o.line;clear WR BD hy c0 c1;gi_wp2_with fail;gi_loopw [4,6,24](λe4 _ k wr=>∃(i n cap:Nat)(a:fM),e4=xI 0/\k=xI i/\i<=l.bo.length/\Hd (J (i+1) wr)/\Hd (uF l (rF M S w) p w0 w (xL fa l.bu.aW.length fc) (xL ca l.bo.length cc) i (xL a n cap) wr))(λ_ _ k _=>l.bo.length-(intOf k).toNat);exact⟨0,l.bu.aW.length,fc,fa,rfl,rfl,ax _,UD,YJ⟩;obtain⟨i,n,cap,a,rfl,rfl,hi,HJi,HVi⟩:=hrel;clear l0 l1 l2;by_cases cE:i<l.bo.length
  .have⟨x,hx⟩:=fg l.bo i cE;have⟨b,off,cap',hcv,hbl,hcells⟩:=nV.o i x hx;obtain⟨rfl,rfl⟩:=jk hcv;have⟨q0,q1,q2,q3,q4,q5,q6,q7⟩:=hcells wr HVi.o.aT;have hzr:=HVi.o.size;have hOA:=λo=>HVi.o.own ((ay wr wr).alloc cN o) CU iJ;have d0:=λo=>(aZ (hOA o).dz).1;have d1:=λo=>(aZ (hOA o).dz).2;have Xm:=aV (hOA (tQ x));have HJ5:Hd (J (i+1) (wr.alloc (tQ x))):=HJ.o _ wr _ HJi.o (bh.bA ((ay wr wr).alloc cN _));have cI:=aV (pB.o i x (wr.alloc (tQ x)) _ hx Xm.o.aT Xm.o.size Xm.o.sl);unfold tQ at Xm HJ5 cI;clear hcv hcells hx hOA;gi_wp2_with fail;refine⟨trivial,rfl,(callsIn_wide.2 cI.o).mono ?_⟩;rintro e w6⟨_,rfl,⟨fvn,rfl,hsn⟩,kN⟩;obtain⟨ya,yc,rfl,_⟩:=hsn.bj;have TS:=aV (Xm.o.own kN CU iJ);have HJ6:Hd (J (i+1) w6):=HJ.o _ _ w6 HJ5.o (bh.bA kN);have Xn:=aV hsn;have⟨m0,m1⟩:=aZ TS.o.dz;have⟨f0,f1⟩:=nZ TS.o.dz;have⟨W7,hW7⟩:=dd ((w6.setCell (w.heap.size+2,0) l.bu.aX).setCell (w.heap.size+2,1) (xL ya (bV l (i+1)).aW.length yc));have⟨hv7,ho7⟩:=TS.o.next (j:=i+1) Xn.o CU iJ hW7;have HV7:=aV hv7;have HJ7:Hd (J (i+1) W7):=HJ.o _ _ W7 HJ6.o ho7;have⟨fn,tmps,assign,body,hy,hR⟩:=HY.o (i+1) #[.agg #[l.bu.aX,xL ya (bV l (i+1)).aW.length yc],xI 0] (i+1+1) W7 HJ7.o ⟨rfl,cE,_,rfl,HV7.o.sl⟩;have C9:=aV hR;have⟨s0,s1⟩:=aZ HV7.o.dz;have uS:=aV hW7;clear hsn kN hv7 ho7 hR d0 d1 q0 q1 q2 q3 q4 q5 q6 q7 hW7;gi_upto_region 8 with fail;rw[<-uS.o];clear m0 m1 f0 f1;gi_wp2_with fail;refine⟨rfl,C9.o.mono ?_⟩;rintro e W9(⟨rfl,hJ9,hk9⟩|⟨rfl,qav⟩)
   .have Xl:=aV hJ9;have HV9:=aV (HV7.o.round hk9 hS CU iJ hSp);clear hJ9 hk9 hy s0 s1;gi_wp2_with fail;go_roundw;exact⟨i+1,_,yc,ya,rfl,by go_num,cE,Xl,HV9⟩;simp[intOf];omega
   have qed:=aV qav;clear qav hy;gi_wp2_with fail;refine ah (results_none rfl _ _ _) rfl ?_;exact⟨⟨_,rfl⟩, .inr qed.o⟩
  obtain rfl:i=l.bo.length:=by omega
  have HJe:=HJi;clear HVi HJi pB nV HR HY qau Tp qW UD YJ;gi_wp2_with fail;refine bodyPost_end (results_none rfl _ _ _) rfl ?_;exact⟨⟨_,rfl⟩, .inl ⟨_,rfl,HJe.o⟩⟩
 have Rc:=aV JB;clear JB hy;gi_wp2_with fail;refine ah (results_none rfl _ _ _) rfl ?_;exact⟨⟨_,rfl⟩, .inr Rc.o⟩
end
def qb {l:bQ}{args:Array bt}(h:p9 l N i args j A):args.size=2:=by obtain⟨_,_,_,rfl,_⟩:=h;rfl
def Mn(l:bQ)(hl:ff l)(M:bY)(w:bq)(hM:Bd M w)(hT:Tb w)(fv cv:bt)(hfs:aS M w fv l.bu.aW)(hcs:aS M w cv l.bo):
 xC 140 #[.agg #[l.bu.aX,fv,cv]] w (di true w):=by
 have h5:=hl.len;have zp:Hd (∀p W,bC w W->cX W p (dG l.bu.aX fv cv)->LG prog 275 #[xP p] W xF 1 0 (p9 l (rF M xF W)) (λi=>i=l.bo.length+1)):=λp W h1 h2=>
  oN l hl M xF p w W hM h1 hT fv cv hfs hcs h2 (λh=>h) (λi h=>h.elim);obtain⟨fa,fc,rfl,_⟩:=hfs.bj;obtain⟨ca,cc,rfl,_⟩:=hcs.bj;have h12:(l.bo.length:Int)<=12:=by omega
 refine callsIn_wide.1 (callsIn_of_wp_marks (n:=0) func140 rfl trivial (wpIn_wide.2 ?_) rfl);simp only[ntmps140,List.size_toArray,aC,aD,Nat.reduceAdd,Nat.reduceSub,Array.replicate_succ,Array.replicate_zero,List.push_toArray,List.append_toArray,List.nil_append,List.cons_append];go_wp2_with fail;refine ey (p8 _ _ _ _) ?_;go_wp2_with fail;have⟨w2,hw2⟩:=dd (((w.alloc (dG l.bu.aX (xL fa l.bu.aW.length fc) (xL ca l.bo.length cc))).alloc (NG false)).alloc (dG l.bu.aX (xL fa l.bu.aW.length fc) (xL ca l.bo.length cc)));have bZ:=aV (show Bx w [dG l.bu.aX (xL fa l.bu.aW.length fc) (xL ca l.bo.length cc),NG false,dG l.bu.aX (xL fa l.bu.aW.length fc) (xL ca l.bo.length cc)] w2 by rw[hw2];exact Bx.iN w _ _ _);have hz2:w2.heap.size=↑w+3:=by rw[hw2];simp
 unfold dG at hw2⊢;unfold NG at hw2;rw[<-hw2];have TC:=aV (zp.o _ w2 bZ.o.1 (bZ.o.im rfl));refine wpIn_wide.1 (oI rfl (enters_of func275 (by kernel_rfl) rfl) xF 1 0 (p9 l (rF M xF w2)) (λi=>i=l.bo.length+1) TC.o (λi args i' W h=>qb h) (λi hi=>hi.elim)
  (λ_ W=>Bx w [dG l.bu.aX (xL fa l.bu.aW.length fc) (xL ca l.bo.length cc),NG false,dG l.bu.aX (xL fa l.bu.aW.length fc) (xL ca l.bo.length cc)] W) (λ_ _=>False) (λi A B h ho=>h.only ho (λj hj=>by have:=hj.1;simp;omega)) (λc A B h _=>h) (bZ.o) ?hround ?hdone ?hstop);case hstop=>intro c W h;exact h.elim
 case hround=>
  intro k i args i' W hI hTl hsz;obtain⟨rfl,hi,kF,rfl,_⟩:=hTl;have HI:=aV hI;gi_wp2_with(rw[Oper.semAt_eq _ _ _ (λc h=>by cases h)];go_simp;try go_bits);refine⟨bh.refl _ _,λW2 ho2 hzW=> ?_⟩;have ni:Hd (Bx w [dG l.bu.aX (xL fa l.bu.aW.length fc) (xL ca l.bo.length cc),NG false,dG l.bu.aX (xL fa l.bu.aW.length fc) (xL ca l.bo.length cc)] W2):=HI.o.only ho2 (λj hj=>by have:j=[w2]:=hj;simp;omega);gi_wp2_with(rw[Oper.semAt_eq _ _ _ (λc h=>by cases h)];go_simp;try go_bits);exact⟨bh.refl _ _,ni.o⟩
 case hdone=>
  intro i W hE hI hD;have HI:=aV hI;have HD:=aV hD;have b0:zB W w 0 false:=one_cell (HI.o.cZ rfl);have f0:=aY (HI.o.cZ rfl) 0;go_wp2_with fail;have⟨W',hW'⟩:=dd (W.setCell ([w],0) true);have o1:bh (λj=>j=[w]) W W':=by rw[hW'];exact(bh.refl (λj=>j=[w]) W).setCell (p:=⟨[w],0,none⟩) (.inl rfl) _
  have g1:W'.heap[w.heap.size+1]? =some (NG true):=by
   rw[hW'];have:=aA W [w] 0 _ _ true (HI.o.cZ rfl);simpa [NG]using this
  rw[<-hW'];have gd:=o1.at_ HD.o (by omega);refine⟨by simp, .inl ⟨_,_,rfl,run_takeDeferred gd,?_⟩⟩;have⟨W2,hW2⟩:=dd (W'.putObj w2 (.deferred none));have o2:bh (λj=>j=w2) W' W2:=by rw[hW2];exact(bh.refl (λj=>j=w2) W').putObj (.inl rfl) _
  have k1:=one_cell (o2.at_ g1 (by omega));rw[<-hW2];refine⟨xB true,by simp[results,results140,go_sem,k1],rfl,?_⟩;exact cr (cr HI.o.1 HI.o.1.size o1 (λj hj=>by have:j=[w]:=hj;omega)) (aH HI.o.1.size o1.size) o2 (λj hj=>by have:j=w2:=hj;omega)
def mW(n:Int):Obj:=xK #[n] 3
def PL(w:bq):Nat->Prop:=λj=>j=[w,w]\/j=[w,w,w]
def MdX(l:bQ)(dB:Nat)(N:bY)(w:bq)(c:Code)(W:bq):Prop:=
 c= .ret/\bC w W/\∃a n cap,W.heap[w.heap.size+1+1]? =some (dP l.bu.aX (xL a n cap))/\aS N W (xL a n cap) (bV l dB).aW
def MdX.only {l:bQ}{dB:Nat}{B:bq}{c:Code}{S:bY}(h:MdX l dB N w c A)(ho:bh S A B)(hS:∀j,S j->w.heap.size+3<=j/\N j):MdX l dB N w c B:=by
 obtain⟨h1,h2,a,n,cap,h3,h4⟩:=h;exact⟨h1,cr h2 h2.size ho (λj hj=>by have:=(hS j hj).1;omega),a,n,cap,ho.at_ h3 (λh=>by have:=(hS _ h).1;omega),h4.ev ⟨ho.mono λj hj=>(hS j hj).2,λj hj=> .inl hj⟩⟩
def SU(l:bQ)(hl:ff l)(dB:Nat)(hv:dB<=l.bo.length)(M:bY)(w:bq)(hM:Bd M w)(hT:Tb w)(fv cv:bt)(hfs:aS M w fv l.bu.aW)(hcs:aS M w cv l.bo):
 xG 171 #[.agg #[l.bu.aX,fv,cv],dB] w λv w'=>∃kF,v= .agg #[l.bu.aX,kF]/\aS M w' kF (bV l dB).aW:=by
 have h5:=hl.len;have zp:Hd (∀p W,bC w W->w.heap.size+5=W->p=w.heap.size+1+1+1+1->cX W p (dG l.bu.aX fv cv)->LG prog 275 #[xP p] W (PL w) 1 0 (p9 l (rF M (PL w) W)) (λi=>i=l.bo.length+1)):=λp W h1 h3 h4 h2=>
  oN l hl M (PL w) p w W hM h1 hT fv cv hfs hcs h2 (λh=>by rcases h with h|h<;>omega) (λi h=>by rcases h with h|h<;>omega);obtain⟨fa,fc,rfl,_⟩:=hfs.bj;obtain⟨ca,cc,rfl,_⟩:=hcs.bj;obtain⟨os,R5⟩:∃os:Int->List Obj,os=λk=>[dG l.bu.aX (xL fa l.bu.aW.length fc) (xL ca l.bo.length cc),mW dB,dP () (),mW k,dG l.bu.aX (xL fa l.bu.aW.length fc) (xL ca l.bo.length cc)]:=⟨_,rfl⟩;refine callsIn_wide.1 (callsIn_of_wp_marks (n:=0) func171 rfl trivial (wpIn_wide.2 ?_) rfl);simp only[ntmps171,List.size_toArray,aC,aD,Nat.reduceAdd,Nat.reduceSub,Array.replicate_succ,Array.replicate_zero,List.push_toArray,List.append_toArray,List.nil_append,List.cons_append];go_wp2_with fail;refine ey (p8 _ _ _ _) ?_;go_wp2_with fail;have⟨w2,hw2⟩:=dd (((((w.alloc (dG l.bu.aX (xL fa l.bu.aW.length fc) (xL ca l.bo.length cc))).alloc (mW dB)).alloc (dP () ())).alloc (mW 0)).alloc (dG l.bu.aX (xL fa l.bu.aW.length fc) (xL ca l.bo.length cc)));have bZ:=aV (show Bx w (os 0) w2 by rw[hw2,R5];exact Bx.Ou w _ _ _ _ _);have hz2:w2.heap.size=↑w+5:=by rw[hw2];simp
 unfold dG at hw2⊢;unfold mW dP at hw2;rw[<-hw2];have TC:=aV (zp.o _ w2 bZ.o.1 hz2.symm rfl (by have h:=bZ.o.X7 (o:=dG l.bu.aX (xL fa l.bu.aW.length fc) (xL ca l.bo.length cc)) (by rw[R5];rfl);exact h));refine wpIn_wide.1 (oI rfl (enters_of func275 (by kernel_rfl) rfl) (PL w) 1 0 (p9 l (rF M (PL w) w2)) (λi=>i=l.bo.length+1) TC.o (λi args i' W h=>qb h) (λi hi=>by rcases hi with hi|hi<;>omega)
  (λi W=>i<=dB/\Bx w (os i) W) (MdX l dB (rF M (PL w) w2) w) (λi A B h ho=>⟨h.1,h.2.only ho (λj hj=>by have:=hj.1;rw[R5];simp;omega)⟩) (λc A B h ho=>h.only ho (λj hj=>⟨by have:=hj.1;omega, .inr (.inr hj)⟩)) ⟨ax _,bZ.o⟩ ?hround ?hdone ?hstop);case hdone=>
  intro i W hE hI hD;exfalso;have:=hI.1;omega
 case hround=>
  intro k i args i' W hI hTl hsz;obtain⟨rfl,hi,kF,rfl,hsl⟩:=hTl;obtain⟨hiv,hbx⟩:=hI;obtain⟨ya,yc,rfl,_⟩:=hsl.bj;have HI:=aV hbx;have gS:=aV hsl;gi_wp2_with(rw[Oper.semAt_eq _ _ _ (λc h=>by cases h)];go_simp;try go_bits);refine⟨(bh.refl _ W).alloc _,λW2 ho2 hzW=> ?_⟩;have ni:Hd (Bx w (os i) W2):=(HI.o.alloc _).only ho2 (λj hj=>by have:j=[w2]:=hj;rw[R5];simp;omega);have Wz:=aV (ho2.at_ (az W (dP l.bu.aX (xL ya (bV l i).aW.length yc))) (by show¬W.heap.size=[w2];omega));have Rp:Hd (aS (rF M (PL w) w2) W2 (xL ya (bV l i).aW.length yc) (bV l i).aW):=gS.o.ev ⟨((bh.refl _ W).alloc _).trans (ho2.mono λj hj=> .inr (.inr (by have:j=[w2]:=hj;exact⟨by omega,by omega⟩))),λj hj=> .inl hj⟩;have⟨p0,p1⟩:=aZ Wz.o;have v0:zB W2 w 0 dB:=one_cell (ni.o.cZ (by rw[R5];rfl));have t0:cC W2 [w,w,w] 0 i:=one_cell (ni.o.Au (by rw[R5];rfl));have t1:=aY (ni.o.Au (o:=mW i) (by rw[R5];rfl)) 0;have hr2:=ni.o.im (o:=dP () ()) (by rw[R5];rfl);have vZ:=aV hr2;have⟨r0,r1⟩:=aZ hr2;have⟨f0,f1⟩:=nZ hr2;by_cases he:i=dB
  .subst he;gi_wp2_with(rw[Oper.semAt_eq _ _ _ (λc h=>by cases h)];go_simp;try go_bits);have⟨B,hB⟩:=dd ((W2.setCell ([w,w],0) l.bu.aX).setCell ([w,w],1) (xL ya (bV l i).aW.length yc));have o1:bh (PL w) W2 B:=by rw[hB];exact((bh.refl (PL w) W2).setCell (p:=⟨[w,w],0,none⟩) (.inl (.inl rfl)) _).setCell (p:=⟨[w,w],1,none⟩) (.inl (.inl rfl)) _
   have g1:cX B [w,w] (dP l.bu.aX (xL ya (bV l i).aW.length yc)):=by rw[hB];exact sD vZ.o _ _
   rw[<-hB];exact⟨o1,rfl,cr ni.o.1 ni.o.1.size o1 (λj hj=>by rcases hj with hj|hj<;>omega),ya,_,yc,g1,Rp.o.ev ⟨o1.mono λj hj=> .inr (.inl hj),λj hj=> .inl hj⟩⟩
  have he2:((i:Int)==(dB:Int))=false:=by simp;omega
  gi_wp2_with(rw[Oper.semAt_eq _ _ _ (λc h=>by cases h)];go_simp;try go_bits);have⟨B,hB⟩:=dd (W2.setCell ([w,w,w],0) (xI ((i:Int)+1)));have o1:bh (PL w) W2 B:=by rw[hB];exact(bh.refl (PL w) W2).setCell (p:=⟨[w,w,w],0,none⟩) (.inl (.inr rfl)) _
  have g1:Bx w (os ((i+1:Nat):Int)) B:=by
   have h:=ni.o.set 3 0 (cs:= #[xI (i:Int)]) (t:=3) (by rw[R5];rfl) (xI ((i:Int)+1));rw[hB];rw[R5]at h⊢;exact h
  rw[<-hB];exact⟨o1,by omega,g1⟩
 case hstop=>
  intro c W hX hD;obtain⟨rfl,hb,a,n,cap,h1,h2⟩:=hX;have HD:=aV hD;refine wpIn_wide.2 ?_;dsimp only;go_wp2_with fail;have⟨W2,hW2⟩:=dd (W.putObj w2 (.deferred none));have o2:bh (λj=>j=w2) W W2:=by rw[hW2];exact(bh.refl (λj=>j=w2) W).putObj (.inl rfl) _
  have⟨k0,k1⟩:=aZ (o2.at_ h1 (by omega));refine⟨by simp, .inl ⟨_,_,rfl,run_takeDeferred HD.o,?_⟩⟩;rw[<-hW2];refine⟨.agg #[l.bu.aX,xL a n cap],by simp[results,results171,go_sem,k0,k1],_,rfl,⟨_,rfl,(h2.ev ⟨o2.mono λj hj=> .inr (.inr (by have:j=w2:=hj;exact⟨by omega,by omega⟩)),λj hj=> .inl hj⟩).ev (Ev.eO W2 λj hj=> .inl hj)⟩,?_⟩;exact cr hb hb.size o2 (λj hj=>by have:j=w2:=hj;omega)
def FdS(ls:List bQ)(aX:bS)(n:Nat)(b:Bool):Prop:=b=true/\n<ls.length/\ek ls aX=n\/b=false/\n=0/\ek ls aX= -1
def A6(M:bY)(v:bt)(w:bq)(ls:List bQ)(aX:bS)(hs:aS M w v ls)(h8:ls.length<=12):
 xC 105 #[.agg #[v],aX] w λe w'=>(∃(n:Nat)(b:Bool),e=xR (.tuple #[n,b])/\FdS ls aX n b)/\bC w w':=by
 have HL:Hd (∀k l,ls[k]? =some l->_):=λk l h=>fp hs h;obtain⟨a,cY,rfl,dN,hm,_⟩:=hs.bj;clear hs;delta xC;go_in;go_wp2;go_loopg [4,5,6,7,11]ls.length(λg r4 r5 _ _ iv wr=>∃k:Nat,k<=ls.length/\g=ls.length-k/\iv=xI k/\r4=xI 0/\r5=xB false/\Hd (Bx w [iq (xL a ls.length cY)] wr)/\Hd (∀y∈ls.take k,dh y.bu.aX aX=false));exact⟨0,ax _,rfl,rfl,rfl,rfl,(Bx.fm w _),(show∀y∈_,_ fromλy hy=>by simp at hy)⟩;obtain⟨k,hk,rfl,rfl,rfl,rfl,HX,HK⟩:=hrel;have hc0:=one_cell (HX.o.cP rfl);by_cases cE:k<ls.length
 .have⟨l,hl⟩:=fg ls k cE;have⟨b,off,cap,fa,fc,ca,cc,hv,hbl,_,_,_,hcells⟩:=HL.o k l hl;obtain⟨rfl,rfl⟩:=jk hv;have⟨q0,q1,q2⟩:=hcells wr HX.o.1;have gz:=aV (HX.o.alloc (xK #[l.bu.aX,xL fa l.bu.aW.length fc,xL ca l.bo.length cc] 72));clear hcells hv;have C6:=aV hl;clear hl;by_cases hq:(l.bu.aX.toList==aX.toList)=true
  .have e0:ek ls aX=k:=idxOf_hit (p:=λl:bQ=>dh l.bu.aX aX) HK.o C6.o hq;have Yn:=aV e0;clear e0;go_wp2;go_ret2;exact⟨⟨k,true,rfl, .inl ⟨rfl,cE,Yn.o⟩⟩,gz.o.1⟩
  go_wp2;go_roundg(ls.length-(k+1));case measure=>omega
  case rel=>
   refine⟨k+1,by omega,rfl,by go_num,rfl,rfl,gz,(show∀y∈ls.take (k+1),_ fromλy hy=> ?_)⟩;rw[ao,C6.o]at hy;rcases aI.1 hy with hy|hy
   .exact HK.o y hy
   simp at hy;subst hy;simpa [dh]using hq
 have Yn:=aV (show ek ls aX= -1 from om (p:=λl:bQ=>dh l.bu.aX aX) (by have:=HK.o;rw[show k=ls.length from by omega,List.take_length]at this;exact this));go_wp2;go_ret2;exact⟨⟨0,false,rfl, .inr ⟨rfl,rfl,Yn.o⟩⟩,HX.o.1⟩
def EP(M:bY)(v:bt)(w:bq)(ls:List bQ)(aX:bS)(hs:aS M w v ls)(h8:ls.length<=8)(n:Nat)(hn:ek ls aX=n):
 xC 105 #[.agg #[v],aX] w (di (.tuple #[n,true]) w):=(A6 M v w ls aX hs (by omega)).mono (by
 rintro e w'⟨⟨m,b,rfl,⟨rfl,h1,h2⟩|⟨rfl,rfl,h2⟩⟩,hb⟩
 .exact⟨by rw[show m=n by omega],hb⟩
 omega)
def qF(ls:List bQ)(h:eS ls)(M:Nat->Prop)(w:World)(hM:Bd M w)(hT:Tb w)(v:Value)(hs:aS M w v ls):
 xC 58 #[.agg #[v]] w (di (.tuple #[xI 0,xI 0]) w):=by
 have h4:=h.len;have HL:Hd (∀k l,ls[k]? =some l->_):=λk l h=>fp hs h;have fB:Hd (∀(k:Nat)(l:bQ)W(fv cv:Value),ls[k]? =some l->bC w W->aS M w fv l.bu.aW->aS M w cv l.bo->_):=λk l W fv cv hk hb h1 h2=>Mn l (h.bH l (ai hk)) M W (hM.aT hb) (hT.aT hb) fv cv (h1.aT hb) (h2.aT hb);have HF:Hd (∀(k:Nat)(l:bQ)W,ls[k]? =some l->bC w W->_):=λk l W hk hb=>EP M v W ls l.bu.aX (hs.aT hb) (by omega) k (h.apart k l hk);obtain⟨a,cY,rfl,dN,hm,_⟩:=hs.bj;have h8:(ls.length:Int)<=8:=by omega
 clear hs h;delta xC;go_in;go_wp2;go_loopg [2,3,4,5,6,7,15]ls.length(λg r2 r3 _ _ _ _ iv wr=>∃k:Nat,k<=ls.length/\g=ls.length-k/\iv=xI k/\r2=xI 0/\r3=xI 0/\Hd (Bx w [iq (xL a ls.length cY)] wr));exact⟨0,ax _,rfl,rfl,rfl,rfl,(Bx.fm w _)⟩;obtain⟨k,hk,rfl,rfl,rfl,rfl,HX⟩:=hrel;have hc0:=one_cell (HX.o.cP rfl);by_cases cE:k<ls.length
 .have⟨l,hl⟩:=fg ls k cE;have⟨b,off,cap,fa,fc,ca,cc,hv,hbl,hf1,hc1,_,hcells⟩:=HL.o k l hl;obtain⟨rfl,rfl⟩:=jk hv;have⟨q0,q1,q2⟩:=hcells wr HX.o.1;have NR:=ie (w:=w) (λW hb=>fB.o k l W _ _ hl hb hf1 hc1);have iY:=aV (λW hb=>HF.o k l W hl hb);have WL:=λo=>one_cell ((HX.o.alloc o).cP rfl);clear hf1 hc1 hv hl hcells;go_upto_region 6 with fail;have⟨W5,hW5⟩:=dd (wr.alloc (xK #[l.bu.aX,xL fa l.bu.aW.length fc,xL ca l.bo.length cc] 72));have od:=aV (show Bx w [iq (xL (b,off) ls.length cY)] W5 by rw[hW5];exact HX.o.alloc _);have FZ:=aV (show W5.heap[wr.heap.size]? =some (dG l.bu.aX (xL fa l.bu.aW.length fc) (xL ca l.bo.length cc))by rw[hW5];exact az wr _);rw[<-hW5];clear hW5 q0 q1 q2 hc0 WL;generalize wr.heap.size=Q at*;have hc0:=one_cell (od.o.cP rfl);have⟨q0,q1,q2⟩:=bM FZ.o;go_wp2_with fail;refine(iY.o _ od.o.1).mono ?_;rintro e w6⟨rfl,kN⟩;have Db:=aV (od.o.aT kN);have UN:=aV ((kN.block Q (ab.1 FZ.o).1).trans FZ.o);clear kN q0 q1 q2 hc0;have⟨q0,q1,q2⟩:=bM UN.o;go_wp2_with fail;refine(NR.o _ Db.o.1).mono ?_;rintro e w7⟨rfl,gw⟩;have Nx:=aV (Db.o.aT gw);clear gw;go_wp2;go_roundg(ls.length-(k+1));exact⟨k+1,by omega,rfl,by go_num,rfl,rfl,Nx⟩;omega
 obtain rfl:k=ls.length:=by omega
 go_wp2;go_ret2;exact⟨rfl,HX.o.1⟩
def yG(ls:List bQ)(h:eS ls)(n:Nat)(l:bQ)(hn:ls[n]? =some l)(M:bY)(w:bq)(hM:Bd M w)(hT:Tb w)(v:bt)(hs:aS M w v ls):
 xC 169 #[.agg #[v],n] w λe w'=>(∃fa fc ca cc,e=xR (.tuple #[.agg #[l.bu.aX,xL fa l.bu.aW.length fc,xL ca l.bo.length cc],xI 0])/\aS M w (xL fa l.bu.aW.length fc) l.bu.aW/\aS M w (xL ca l.bo.length cc) l.bo)/\bC w w':=by
 have HC:=ie (w:=w) (λW hb=>qF ls h M W (hM.aT hb) (hT.aT hb) v (hs.aT hb));have cE:=(ag.1 hn).1;obtain⟨b,off,cap,fa,fc,ca,cc,rfl,hbl,hf1,hc1,_,hcells⟩:=fp hs hn;have iY:=aV hf1;have wN:=aV hc1;have wM:=aV hcells;have dp:=aV (Bx.ei w (iq (xL (b,off) ls.length cap)) (dG () () ()));have hi0:(0:Int)<=(n:Int):=an _;have hi1:(n:Int)<(ls.length:Int):=by omega
 delta xC;go_in;go_wp2_with fail;refine dx (HC.o _ dp.o.1) λw1 hb1=> ?_;have cu:=aV (dp.o.aT hb1);have hc0:=one_cell (cu.o.cP rfl);have⟨q0,q1,q2⟩:=wM.o w1 cu.o.1;have⟨r0,r1,r2⟩:=bM (cu.o.cZ rfl);have⟨f0,f1⟩:=nZ (cu.o.cZ rfl);have f2:=aY (cu.o.cZ rfl) 2;go_wp2_with fail;refine ah (v:= .tuple #[.agg #[l.bu.aX,xL fa l.bu.aW.length fc,xL ca l.bo.length cc],xI 0]) (by simp[results,results169,go_sem,r0,r1,r2]) rfl ⟨⟨fa,fc,ca,cc,rfl,iY.o,wN.o⟩,oM cu.o.1 (by omega)⟩
def ER(ls:List bQ)(h:eS ls)(n:Nat)(l:bQ)(hn:ls[n]? =some l)(M:bY)(w:bq)(hM:Bd M w)(hT:Tb w)(v:bt)(hs:aS M w v ls):
 xC 154 #[.agg #[v],n] w (di (.tuple #[l.bo.length,xI 0]) w):=by
 have HC:=ie (w:=w) (λW hb=>yG ls h n l hn M W (hM.aT hb) (hT.aT hb) v (hs.aT hb));obtain⟨a,cY,rfl,dN,hm,_⟩:=hs.bj;have dp:=aV (Bx.fm w (iq (xL a ls.length cY)));delta xC;go_in;go_wp2_with fail;refine(HC.o _ dp.o.1).mono ?_;rintro e w1⟨⟨fa,fc,ca,cc,rfl,_,_⟩,hb1⟩;have cu:=aV (dp.o.aT hb1);go_wp2;go_ret2;exact⟨rfl,(cu.o.alloc _).1⟩
def IE(ls:List bQ)(h:eS ls)(n:Nat)(l:bQ)(hn:ls[n]? =some l)(dB:Nat)(hv:dB<=l.bo.length)(M:bY)(w:bq)(hM:Bd M w)(hT:Tb w)(v:bt)(hs:aS M w v ls):
 xG 155 #[.agg #[v],n,dB] w λv w'=>∃kF,v= .tuple #[.agg #[l.bu.aX,kF],xI 0]/\aS M w' kF (bV l dB).aW:=by
 have rI:=h.bH l (ai hn);have HC:Hd (∀W,bC w W->w.heap.size+2<=W->_):=λW hb hz=>yG ls h n l hn (eo M w 2) W (dZ hM hz) (hT.aT hb) v (hs.ev (dH hb));have HMD:Hd (∀W fv cv,bC w W->w.heap.size+2<=W->aS (eo M w 2) W fv l.bu.aW->aS (eo M w 2) W cv l.bo->_):=λW fv cv hb hz h1 h2=>SU l rI dB hv (eo M w 2) W (dZ hM hz) (hT.aT hb) fv cv h1 h2;have h8:=((cw (bV l dB)).1 (rI.lr dB).right).2.1;have Q2:Hd (∀W fv,w.heap.size+2<=W.heap.size->aS (eo M w 2) W fv (bV l dB).aW->_):=λW fv hz h1=>rA l.bu.aX (bV l dB).aW (by omega) (eo M w 2) W fv (dZ hM hz) h1;obtain⟨a,cY,rfl,dN,hm,_⟩:=hs.bj;have dp:=aV (Bx.ei w (iq (xL a ls.length cY)) (dP () ()));have hi0:(0:Int)<=(dB:Int):=an _;have hi1:(dB:Int)<=(l.bo.length:Int):=by omega
 have mQ:=aV hM;delta xG;go_in;go_wp2_with fail;refine(HC.o _ dp.o.1 dp.o.cM).mono ?_;rintro e w1⟨⟨fa,fc,ca,cc,rfl,hf1,hc1⟩,hb1⟩;have cu:=aV (dp.o.aT hb1);have HMC:Hd (∀o,_):=λo=>HMD.o (w1.alloc o) _ _ (cu.o.alloc o).1 (by have:=cu.o.cM;simp at this⊢;omega) (hf1.aT (hb1.alloc hb1.size o)) (hc1.aT (hb1.alloc hb1.size o));go_wp2_with fail;refine(HMC.o _).mono ?_;rintro e w2⟨_,rfl,⟨fv,rfl,hsl⟩,cJ⟩;obtain⟨ya,yc,rfl,_⟩:=hsl.bj;have bZ:=aV ((cu.o.alloc _).aT cJ);have uR:=aV (Q2.o w2 _ bZ.o.cM hsl);go_wp2_with fail;refine(uR.o).mono ?_;rintro e w3⟨_,rfl,⟨fv3,rfl,qaw⟩,hb3⟩;obtain⟨za,zc,rfl,_⟩:=qaw.bj;have cR:=aV (bZ.o.aT hb3);have jM:=aV qaw;have⟨r0,r1⟩:=aZ (cR.o.cZ rfl);have⟨f0,f1⟩:=nZ (cR.o.cZ rfl);go_wp2_with fail;refine ah (v:= .tuple #[.agg #[l.bu.aX,xL za (bV l dB).aW.length zc],xI 0]) (by simp[results,results155,go_sem,r0,r1]) rfl ⟨_,rfl,⟨_,rfl,?_⟩,(cR.o.1.setCell (by show w.heap.size<=[w];omega) _).setCell (by show w.heap.size<=[w];omega) _⟩;exact(jM.o.ev (((Ev.refl _ _).setCell (.inl (.inr ⟨by show w.heap.size<=[w];omega,by show w.heap.size+1<↑w+2;omega⟩)) _).setCell (.inl (.inr ⟨by show w.heap.size<=[w];omega,by show w.heap.size+1<↑w+2;omega⟩)) _)).ev (Ev.eO _ λi hi=> .inl hi)
def zO(n:Int):Obj:=xK #[n] 42
def fQ(l:bQ)(fr te i:Nat):List bK:=(l.bo.drop fr).take (min i te-fr)
structure lI(l:bQ)(fr te:Nat)(br:Int)(vs:List bE)(N:bY)(V R H F T L:Nat)(fv cv:bt)(i:Nat)(W:bq):Prop where
 gv:W.heap[V]? =some (mW i)
 gr:W.heap[R]? =some (mW fr)
 gf:W.heap[F]? =some (zO 0)
 gt:W.heap[T]? =some (mW te)
 gl:W.heap[L]? =some (dG l.bu.aX fv cv)
 gh:∃us a n cap,W.heap[H]? =some (F8 (xL a n cap))/\aS N W (xL a n cap) us/\kR (bV l fr) (fQ l fr te i) br vs us
def qG(V H F:Nat):Nat->Prop:=λj=>j=V\/j=H\/j=F
structure ES(V R H F T L:Nat):Prop where
 vr:V≠R
 vh:V≠H
 vf:V≠F
 vt:V≠T
 vl:V≠L
 hr:H≠R
 hf:H≠F
 ht:H≠T
 hl:H≠L
 fr:F≠R
 ft:F≠T
 fl:F≠L
section
variable {l:bQ}{fr te:Nat}{br:Int}{vs:List bE}{N:bY}{V R H F T L:Nat}{fv cv:bt}{i:Nat}{W W':bq}
def lI.only {S:bY}(h:lI l fr te br vs N V R H F T L fv cv i W)(ho:bh S W W')(hS:∀j,S j->j≠V/\j≠R/\j≠H/\j≠F/\j≠T/\j≠L)(hN:∀j,S j->N j):lI l fr te br vs N V R H F T L fv cv i W':=by
 have⟨us,a,n,cap,h1,h2,h3⟩:=h.gh;exact⟨ho.at_ h.gv (λh=>(hS _ h).1 rfl),ho.at_ h.gr (λh=>(hS _ h).2.1 rfl),ho.at_ h.gf (λh=>(hS _ h).2.2.2.1 rfl),ho.at_ h.gt (λh=>(hS _ h).2.2.2.2.1 rfl),ho.at_ h.gl (λh=>(hS _ h).2.2.2.2.2 rfl),us,a,n,cap,ho.at_ h1 (λh=>(hS _ h).2.2.1 rfl),h2.ev ⟨ho.mono hN,λj hj=> .inl hj⟩,h3⟩
def lI.aT(h:lI l fr te br vs N V R H F T L fv cv i W)(hb:bC W W'):lI l fr te br vs N V R H F T L fv cv i W':=
 h.only (S:=λ_=>False) (bh.bA hb) (λ_ h=>h.elim) (λ_ h=>h.elim)
def lI.tick(h:lI l fr te br vs N V R H F T L fv cv i W)(hn:ES V R H F T L)(hN:∀j,qG V H F j->N j)(hc:fQ l fr te j=fQ l fr te i)(hW:W'=W.setCell (V,0) (xI j)):lI l fr te br vs N V R H F T L fv cv j W'/\bh (qG V H F) W W':=by
 have ho:bh (λj=>j=V) W W':=by rw[hW];exact(bh.refl (λj=>j=V) W).setCell (p:=⟨V,0,none⟩) (.inl rfl) _
 have⟨us,a,n,cap,h1,h2,h3⟩:=h.gh;refine⟨⟨?_,ho.at_ h.gr (λh=>hn.vr h.symm),ho.at_ h.gf (λh=>hn.vf h.symm),ho.at_ h.gt (λh=>hn.vt h.symm),ho.at_ h.gl (λh=>hn.vl h.symm),us,a,n,cap,ho.at_ h1 (λh=>hn.vh h.symm),h2.ev ⟨ho.mono λj hj=>hN j (.inl hj),λj hj=> .inl hj⟩,by rw[hc];exact h3⟩,ho.mono λj hj=> .inl hj⟩;have:=aA W V 0 _ _ j h.gv;rw[hW];simpa [mW]using this
def lI.Vh(h:lI l fr te br vs N V R H F T L fv cv i W)(hn:ES V R H F T L)(hN:∀j,qG V H F j->N j)(hW:W'=W.setCell (F,0) (xI 0)):lI l fr te br vs N V R H F T L fv cv i W'/\bh (qG V H F) W W':=by
 have ho:bh (λj=>j=F) W W':=by rw[hW];exact(bh.refl (λj=>j=F) W).setCell (p:=⟨F,0,none⟩) (.inl rfl) _
 have⟨us,a,n,cap,h1,h2,h3⟩:=h.gh;refine⟨⟨ho.at_ h.gv hn.vf,ho.at_ h.gr (λh=>hn.fr h.symm),?_,ho.at_ h.gt (λh=>hn.ft h.symm),ho.at_ h.gl (λh=>hn.fl h.symm),us,a,n,cap,ho.at_ h1 hn.hf,h2.ev ⟨ho.mono λj hj=>hN j (.inr (.inr hj)),λj hj=> .inl hj⟩,h3⟩,ho.mono λj hj=> .inr (.inr hj)⟩;have:=aA W F 0 _ _ (xI 0) h.gf;rw[hW];simpa [zO]using this
def lI.hold(h:lI l fr te br vs N V R H F T L fv cv i W)(hn:ES V R H F T L)(hN:∀j,qG V H F j->N j){n:Nat}(hs:aS N W (xL a n cap) us)(hc:kR (bV l fr) (fQ l fr te (i+1)) br vs us)
 (hW:W'=(W.setCell (H,0) (xL a n cap)).setCell (F,0) (xI 0)):(∃W1,W1=W'.setCell (V,0) (xI ((i+1:Nat):Int))/\lI l fr te br vs N V R H F T L fv cv (i+1) W1/\bh (qG V H F) W W1)/\(W'.heap[V]? =some (mW i)/\W'.heap[F]? =some (zO 0)/\W'.heap[T]? =some (mW te)):=by
 have h1:bh (qG V H F) W (W.setCell (H,0) (xL a n cap)):=(bh.refl (qG V H F) W).setCell (p:=⟨H,0,none⟩) (.inl (.inr (.inl rfl))) _;have ho:bh (λj=>j=H\/j=F) W W':=by rw[hW];exact((bh.refl (λj=>j=H\/j=F) W).setCell (p:=⟨H,0,none⟩) (.inl (.inl rfl)) _).setCell (p:=⟨F,0,none⟩) (.inl (.inr rfl)) _
 have⟨_,a0,n0,c0,h0,_,_⟩:=h.gh;have gH:W'.heap[H]? =some (F8 (xL a n cap)):=by
  have e1:=aA W H 0 _ _ (xL a n cap) h0;rw[hW];refine(aj _ _ _ _ (by show H≠F;exact hn.hf)).trans ?_;simpa [F8]using e1
 have gF:W'.heap[F]? =some (zO 0):=by
  have e0:(W.setCell (H,0) (xL a n cap)).heap[F]? =some (zO 0):=(aj _ _ _ _ (by show F≠H;exactλh=>hn.hf h.symm)).trans h.gf;have e1:=aA _ F 0 _ _ (xI 0) e0;rw[hW];simpa [zO]using e1
 have gV:=ho.at_ h.gv (λh=>h.elim hn.vh hn.vf);have gT:=ho.at_ h.gt (λh=>h.elim (λh=>hn.ht h.symm) (λh=>hn.ft h.symm));have gR:=ho.at_ h.gr (λh=>h.elim (λh=>hn.hr h.symm) (λh=>hn.fr h.symm));have gL:=ho.at_ h.gl (λh=>h.elim (λh=>hn.hl h.symm) (λh=>hn.fl h.symm));have hoS:bh (qG V H F) W W':=ho.mono λj hj=> .inr hj;have⟨W1,hW1⟩:=dd (W'.setCell (V,0) (xI ((i+1:Nat):Int)));have o1:bh (λj=>j=V) W' W1:=by rw[hW1];exact(bh.refl (λj=>j=V) W').setCell (p:=⟨V,0,none⟩) (.inl rfl) _
 have gV1:cX W1 V (mW ((i+1:Nat):Int)):=by
  have:=aA W' V 0 _ _ (xI ((i+1:Nat):Int)) gV;rw[hW1];simpa [mW]using this
 have qax:bh (qG V H F) W W1:=hoS.trans (o1.mono λj hj=> .inl hj);exact⟨⟨W1,hW1,⟨gV1,o1.at_ gR (λh=>hn.vr h.symm),o1.at_ gF (λh=>hn.vf h.symm),o1.at_ gT (λh=>hn.vt h.symm),o1.at_ gL (λh=>hn.vl h.symm),us,a,n,cap,o1.at_ gH (λh=>hn.vh h.symm),hs.ev ⟨qax.mono hN,λj hj=> .inl hj⟩,hc⟩,qax⟩,gV,gF,gT⟩
end
def A7 {l:bQ}{fr te i:Nat}(h:i<=fr):fQ l fr te i=[]:=by unfold fQ;rw[show min i te-fr=0 by omega];rfl
def qd {l:bQ}{fr te i:Nat}(h:i<fr\/te<=i):fQ l fr te (i+1)=fQ l fr te i:=by
 unfold fQ;rcases h with h|h
 .rw[show min (i+1) te-fr=0 by omega,show min i te-fr=0 by omega]
 rw[show min (i+1) te=min i te by omega]
def ET {l:bQ}{fr te i:Nat}(h1:fr<=i)(h2:i<te)(hx:l.bo[i]? =some x):fQ l fr te (i+1)=fQ l fr te i++[x]:=by
 unfold fQ;rw[show min (i+1) te-fr=(i-fr)+1 by omega,show min i te-fr=i-fr by omega,ao];congr 1;rw[List.getElem?_drop,show fr+(i-fr)=i by omega,hx];rfl
def IF {l:bQ}(hl:ff l){fr te i:Nat}(h1:fr<=i)(h2:i<=te):dX (bV l fr) (fQ l fr te i) (bV l i):=by
 have h:=(hl.from_ fr).at_ (i-fr);rw[pS,show fr+(i-fr)=i by omega]at h;unfold fQ;rw[show min i te=i by omega];exact h
def EU(l:bQ)(fr te:Nat)(br:Int)(vs:List bE)(N:bY)(V R H F T L:Nat)(fv cv:bt)(i:Nat)(W wx:bq):Prop:=
 (∃W1,W1=wx.setCell (V,0) (xI ((i+1:Nat):Int))/\lI l fr te br vs N V R H F T L fv cv (i+1) W1/\bh (qG V H F) W W1)/\(wx.heap[V]? =some (mW i)/\wx.heap[F]? =some (zO 0)/\wx.heap[T]? =some (mW te))
def lI.T7 {l:bQ}{V H F T L:Nat}(h:lI l fr te br vs N V R H F T L fv cv i wx)(hn:ES V R H F T L)(hN:∀j,qG V H F j->N j)(ho:bh (qG V H F) W wx)(hc:fQ l fr te (i+1)=fQ l fr te i):EU l fr te br vs N V R H F T L fv cv i W wx:=by
 have⟨h1,h2⟩:=h.tick hn hN hc (W':=wx.setCell (V,0) (xI ((i+1:Nat):Int))) rfl;exact⟨⟨_,rfl,h1,ho.trans h2⟩,h.gv,h.gf,h.gt⟩
def Mo(l:bQ)(hl:ff l)(fr te i:Nat)(RS:fr<=te)(hte:te<=l.bo.length)(hi:i<=te)(br:Int)(hm:br<=100000)(vs:List bE)(M N:Nat->Prop)(V R H F T L:Nat)(fv cv fvc:Value)(hn:ES V R H F T L)(w0 W:World)
 (hS:∀j,qG V H F j->N j)(hSw:∀j,qG V H F j->w0.heap.size<=j)(hN:Bd N W)(hb0:bC w0 W)(hG:Gd w0)(hcs:aS M w0 cv l.bo)(hsl:aS N W fvc (bV l i).aW)(hst:lI l fr te br vs N V R H F T L fv cv i W):
 xC 311 #[.agg #[l.bu.aX,fvc],xP V,xP R,xP H,xP F,xP T,xP L] W λe W'=>e=xR (xB (decide (i+1<=te)))/\lI l fr te br vs N V R H F T L fv cv (i+1) W'/\bh (qG V H F) W W':=by
 have hi5:(i:Int)<=12:=by have:=hl.len;omega
 obtain⟨R6,R7,rfl,_⟩:=hsl.bj;have⟨W1,hW1⟩:=dd (W.alloc (dP l.bu.aX (xL R6 (bV l i).aW.length R7)));have hbW:bC W W1:=by rw[hW1];exact cU
 have iG:Hd (lI l fr te br vs N V R H F T L fv cv i W1):=hst.aT hbW;have HQ:=aV (show W1.heap[W.heap.size]? =some (dP l.bu.aX (xL R6 (bV l i).aW.length R7))by rw[hW1];exact az W _);have gS:Hd (aS N W1 (xL R6 (bV l i).aW.length R7) (bV l i).aW):=hsl.aT hbW;have ik:Hd (bC w0 W1):=hb0.trans (hbW.mono hb0.size);have rU:Hd (bh (qG V H F) W W1):=bh.bA hbW;have nk:Hd (Bd N W1):=hN.aT hbW;have hQz:W.heap.size<W1:=(ab.1 HQ.o).1;have HQS:Hd (∀j,qG V H F j->j≠W.heap.size):=λj hj h=>by
  have h2:=hN j (hS j hj);omega
 generalize hQ:W.heap.size=Q at HQ hQz HQS;have Gg:Hd (∀A us hv,bC w0 A->aS N A (xL R6 (bV l i).aW.length R7) (bV l i).aW->aS N A hv us->cD (bV l i).aW br us->xC 157 #[.agg #[l.bu.aX,xL R6 (bV l i).aW.length R7],hv] A (di (.tuple #[xI 0,xI 0]) A)):=λA us hv h1 h2 h3 h4=>by
  have h:=jd (bV l i) (hl.lr i).right (dD (hl.lr i).small) br hm us h4 N A _ hv h2 h3 (hG.tb.aT h1);rw[hl.aX i]at h;exact h
 have HVX:Hd (∀x A us hv,l.bo[i]? =some x->bC w0 A->Bd N A->aS N A (xL R6 (bV l i).aW.length R7) (bV l i).aW->aS N A hv us->cD (bV l i).aW br us->xC 312 #[.agg #[l.bu.aX,xL R6 (bV l i).aW.length R7], .agg #[xI x.bg,xS x.field,xS x.aX,xS x.more,xI x.type.bg,xI x.type.of,xS x.dO,xS x.cW],hv] A (de A λv w'=>∃us' uv,v= .tuple #[uv,xI 0]/\iW (bV l i) x br us us'/\aS N w' uv us')):=λx A us hv hx h1 hA h2 h3 h4=>by
  have⟨g1,g2,_⟩:=hl.step hx;have h:=PK N A hA (bV l i) (hl.lr i) br hm x g1 g2 _ hv us h2 h3 h4 (hG.aT h1);rw[hl.aX i]at h;exact h
 have nV:Hd (∀x,l.bo[i]? =some x->_):=λx h=>pM hcs h;have Xo:Hd (fr<=i->dX (bV l fr) (fQ l fr te i) (bV l i)):=λh=>IF hl h hi;have HWX:=aV hW1;have Xn:=aV hS;have CS:=aV hn;have HSW:=aV hSw;have HQE:=aV hQ;clear hbW hst hsl hW1 hQ hcs hG hl hb0 hN hS hSw hn;delta xC;go_in;go_upto_region 1 with fail;have hW1:=HWX.o;unfold dP at hW1;rw[<-hW1,HQE.o];clear hW1;have v0:=one_cell iG.o.gv;have r0:=one_cell iG.o.gr;go_upto_if 11 with fail;go_cut [](λwx=>Hd (lI l fr te br vs N V R H F T L fv cv i wx/\bh (qG V H F) W1 wx))
 .by_cases he:i=fr
  .have e1:((i:Int)==(fr:Int))=true:=by simp;omega
   have⟨us,ha,hn',hc',hh1,hh2,hh3⟩:=iG.o.gh;have hv0:cD (bV l i).aW br us:=by
    have h:=hh3.1;rw[A7 (by omega)]at h;rw[he];exact h
   have wN:=aV (Gg.o W1 us _ ik.o gS.o hh2 hv0);have h0:=one_cell hh1;have⟨q0,q1⟩:=aZ HQ.o;clear hh1 hh2 hh3 hv0 he;go_wp2_with fail;refine(wN.o).mono ?_;rintro e w3⟨rfl,hb3⟩;have jM:=aV (iG.o.aT hb3);have rV:=aV (bh.bA (S:=qG V H F) hb3);have k0:=one_cell jM.o.gf;have f0:=aY jM.o.gf 0;clear hb3;go_wp2;go_meet;have hf:=jM.o.Vh CS.o (λj hj=>Xn.o j hj) (W':=w3.setCell (F,0) (xI 0)) rfl;exact(show _/\_ from⟨hf.1,rV.o.trans hf.2⟩)
  have e1:((i:Int)==(fr:Int))=false:=by simp;omega
  go_wp2;go_meet;exact(show _/\_ from⟨iG.o,bh.refl _ _⟩)
 have⟨wx,hwx⟩:=dd (wc);subst hwx;have iy:=aV hcut.o.1;have Tq:=aV hcut.o.2;have HQ2:Hd (wx.heap[Q]? =some (dP l.bu.aX (xL R6 (bV l i).aW.length R7))):=Tq.o.at_ HQ.o (λh=>HQS.o _ h rfl);have Rp:Hd (aS N wx (xL R6 (bV l i).aW.length R7) (bV l i).aW):=gS.o.ev ⟨Tq.o.mono Xn.o,λj hj=> .inl hj⟩;have bZ:Hd (bC w0 wx):=cr ik.o ik.o.size Tq.o (λj hj=>HSW.o j hj);have qee:Hd (Bd N wx):=λj hj=>aN (nk.o j hj) Tq.o.size;have rV:Hd (bh (qG V H F) W wx):=rU.o.trans Tq.o;clear hcut v0 r0;have v0:=one_cell iy.o.gv;have r0:=one_cell iy.o.gr;have f0:=one_cell iy.o.gf;have t0:=one_cell iy.o.gt;by_cases Nw:fr<=i;rotate_left
 .have e1:(i:Int)<(fr:Int):=by omega
  go_upto_if 29 with fail;go_cut [](λwy=>Hd (EU l fr te br vs N V R H F T L fv cv i W wy))
  .go_wp2;go_meet;exact(iy.o.T7 CS.o Xn.o rV.o (qd (by omega)))
  have⟨wy,hwy⟩:=dd (wc);subst hwy;have HM:=aV hcut.o;have⟨⟨W5,h5,hs5,ho5⟩,gv,gf,gt⟩:=hcut.o;have mu:=aV hs5;have KJ:=aV ho5;have qY:=aV h5;have v5:=one_cell gv;have fv5:=aY gv 0;clear hcut h5 hs5 ho5 gf gt gv v0 r0 f0 t0;go_upto_region 6 with fail;have hW5:=qY.o;rw[show((i+1:Nat):Int)=(i:Int)+1 by omega]at hW5;rw[<-hW5];clear hW5 qY v5 fv5 HM;have v6:=one_cell mu.o.gv;have f6:=one_cell mu.o.gf;have t6:=one_cell mu.o.gt;rw[show((i+1:Nat):Int)=(i:Int)+1 by omega]at v6;by_cases hle:i+1<=te
  .have e6:(i:Int)+1<=(te:Int):=by omega
   go_wp2_with fail;all_goals
    go_ret;exact⟨by simp[hle],mu.o,KJ.o⟩
  have e6:(te:Int)<(i:Int)+1:=by omega
  go_wp2_with fail;all_goals
   go_ret;exact⟨by simp[hle],mu.o,KJ.o⟩
 have e1:(fr:Int)<=(i:Int):=by omega
 by_cases hit:i<te
 .have e2:(i:Int)<(te:Int):=by omega
  go_upto_if 29 with fail;go_cut [](λwy=>Hd (EU l fr te br vs N V R H F T L fv cv i W wy))
  .have⟨x,hx⟩:=fg l.bo i (by omega);have⟨b,off,cap',hcv,hbl,hcells⟩:=nV.o x hx;have⟨us,ha,hn',hc',hh1,hh2,hh3⟩:=iy.o.gh;have QR:=Xo.o Nw;have hv0:cD (bV l i).aW br us:=by rw[QR.dz];exact hh3.1
   have HUC:=aV hh3;have HCH:=aV QR;have HXX:=aV hx;have KM:=aV (HVX.o x wx.drew us _ hx bZ.o.drew (qee.o.aT (w':=wx.drew) eH.drew) (Rp.o.ev ((Ev.refl _ _).drew)) (hh2.ev ((Ev.refl _ _).drew)) hv0);have hHb:=aV hh1;have h0:=one_cell hh1;have k0:=aY hh1 0;have⟨q0,q1⟩:=aZ HQ2.o;have hKS:∀W',bh (λj=>j=H\/j=F) wx W'->(W'.cell? (Q,0)=some (xS l.bu.aX)/\W'.cell? (Q,1)=some (xL R6 (bV l i).aW.length R7)/\W'.cell? (L,2)=some cv/\W'.cell? (V,0)=some (xI i)/\W'.cell? (b,off+i*8)=some (xI x.bg)/\W'.cell? (b,off+i*8+1)=some (xS x.field)/\W'.cell? (b,off+i*8+2)=some (xS x.aX)/\W'.cell? (b,off+i*8+3)=some (xS x.more)/\W'.cell? (b,off+i*8+4)=some (xI x.type.bg)/\W'.cell? (b,off+i*8+5)=some (xI x.type.of)/\W'.cell? (b,off+i*8+6)=some (xS x.dO)/\W'.cell? (b,off+i*8+7)=some (xS x.cW)):=λW' ho=>by
    have⟨y0,y1⟩:=aZ (ho.at_ HQ2.o (λh=>h.elim (λh=>HQS.o H (.inr (.inl rfl)) h.symm) (λh=>HQS.o F (.inr (.inr rfl)) h.symm)));have y2:=(bM (ho.at_ iy.o.gl (λh=>h.elim (λh=>CS.o.hl h.symm) (λh=>CS.o.fl h.symm)))).2.2;have y3:=one_cell (ho.at_ iy.o.gv (λh=>h.elim (λh=>CS.o.vh h) (λh=>CS.o.vf h)));have⟨z0,z1,z2,z3,z4,z5,z6,z7⟩:=hcells wx bZ.o;have hbx:b<wx:=aN hbl bZ.o.size;have hne:¬(b=H\/b=F):=λh=>h.elim (λh=>by have:=HSW.o H (.inr (.inl rfl));omega) (λh=>by have:=HSW.o F (.inr (.inr rfl));omega);have g:∀o,W'.cell? ⟨b,o,none⟩=wx.cell? ⟨b,o,none⟩:=λo=>ho.cell (p:=⟨b,o,none⟩) hbx hne;exact⟨y0,y1,y2,y3,(g _).trans z0,(g _).trans z1,(g _).trans z2,(g _).trans z3,(g _).trans z4,(g _).trans z5,(g _).trans z6,(g _).trans z7⟩
   have HKS:=aV hKS;have HJ:Hd (bh (λj=>j=H\/j=F) wx wx):=bh.refl _ _;have⟨y0,y1,y2,y3,z0,z1,z2,z3,z4,z5,z6,z7⟩:=hKS wx HJ.o;have i0:(0:Int)<=(i:Int):=an _;have i1:(i:Int)<(l.bo.length:Int):=by omega
   subst hcv;have kf:=aY iy.o.gf 0;have nHF:=CS.o.hf;have nFH:F≠H:=λh=>nHF h.symm;clear hcells hh1 hh2 hh3 hv0 QR hx q0 q1 hKS hbl;go_upto_region 4 with fail;clear HKS HJ;go_region_law(first
    |(go_simp;go_at_call 312;refine KM.o.mono ?_;rintro en w4⟨_,rfl,⟨us2,uv,rfl,Yx,Xp⟩,eZ⟩;obtain⟨ua,uc,rfl,_⟩:=Xp.bj;have fh:Hd (bC wx w4):=(ay wx wx).drew.trans eZ;have gN:Hd (bh (λj=>j=H\/j=F) wx w4):=bh.bA fh.o;have qZ:=aV (iy.o.aT fh.o);have HL4:=aV Xp;have R8:=aV Yx;have h4:=one_cell ((fh.o.block H (ab.1 hHb.o).1).trans hHb.o);have k4:=aY ((fh.o.block H (ab.1 hHb.o).1).trans hHb.o) 0;have f4:=one_cell qZ.o.gf;have g4:=aY qZ.o.gf 0;clear Yx Xp eZ));all_goals(go_wp2;go_meet)
   all_goals
    have qef:kR (bV l fr) (fQ l fr te (i+1)) br vs us2:=by rw[ET Nw hit HXX.o];exact kR.snoc HCH.o HUC.o R8.o
    have⟨⟨W9,e9,s9,o9⟩,g9⟩:=qZ.o.hold CS.o Xn.o HL4.o qef rfl;exact(show EU _ _ _ _ _ _ _ _ _ _ _ _ _ _ _ _ _ from⟨⟨W9,e9,s9,(rV.o.trans (bh.bA fh.o)).trans o9⟩,g9⟩)
  have⟨wy,hwy⟩:=dd (wc);subst hwy;have HM:=aV hcut.o;have⟨⟨W5,h5,hs5,ho5⟩,gv,gf,gt⟩:=hcut.o;have mu:=aV hs5;have KJ:=aV ho5;have qY:=aV h5;have v5:=one_cell gv;have fv5:=aY gv 0;clear hcut h5 hs5 ho5 gf gt gv v0 r0 f0 t0;go_upto_region 6 with fail;have hW5:=qY.o;rw[show((i+1:Nat):Int)=(i:Int)+1 by omega]at hW5;rw[<-hW5];clear hW5 qY v5 fv5 HM;have v6:=one_cell mu.o.gv;have f6:=one_cell mu.o.gf;have t6:=one_cell mu.o.gt;rw[show((i+1:Nat):Int)=(i:Int)+1 by omega]at v6;by_cases hle:i+1<=te
  .have e6:(i:Int)+1<=(te:Int):=by omega
   go_wp2_with fail;all_goals
    go_ret;exact⟨by simp[hle],mu.o,KJ.o⟩
  have e6:(te:Int)<(i:Int)+1:=by omega
  go_wp2_with fail;all_goals
   go_ret;exact⟨by simp[hle],mu.o,KJ.o⟩
 have e2:(te:Int)<=(i:Int):=by omega
 go_upto_if 29 with fail;go_cut [](λwy=>Hd (EU l fr te br vs N V R H F T L fv cv i W wy))
 .go_wp2;go_meet;exact(iy.o.T7 CS.o Xn.o rV.o (qd (by omega)))
 have⟨wy,hwy⟩:=dd (wc);subst hwy;have HM:=aV hcut.o;have⟨⟨W5,h5,hs5,ho5⟩,gv,gf,gt⟩:=hcut.o;have mu:=aV hs5;have KJ:=aV ho5;have qY:=aV h5;have v5:=one_cell gv;have fv5:=aY gv 0;clear hcut h5 hs5 ho5 gf gt gv v0 r0 f0 t0;go_upto_region 6 with fail;have hW5:=qY.o;rw[show((i+1:Nat):Int)=(i:Int)+1 by omega]at hW5;rw[<-hW5];clear hW5 qY v5 fv5 HM;have v6:=one_cell mu.o.gv;have f6:=one_cell mu.o.gf;have t6:=one_cell mu.o.gt;rw[show((i+1:Nat):Int)=(i:Int)+1 by omega]at v6;by_cases hle:i+1<=te
 .have e6:(i:Int)+1<=(te:Int):=by omega
  go_wp2_with fail;all_goals
   go_ret;exact⟨by simp[hle],mu.o,KJ.o⟩
 have e6:(te:Int)<(i:Int)+1:=by omega
 go_wp2_with fail;all_goals first
  |(exfalso;omega)
  |(go_ret;exact⟨by simp[hle],mu.o,KJ.o⟩)
def fnO(V R H F T L:Nat):Obj:=xK #[.func (.func 311) #[] #[xP V,xP R,xP H,xP F,xP T,xP L]] 144
structure PM(l:bQ)(fr te:Nat)(br:Int)(vs:List bE)(N:bY)(V R H F T L K:Nat)(fv cv:bt)(w:bq)(i:Nat)(W:bq):Prop where
 st:lI l fr te br vs N V R H F T L fv cv i W
 fn:W.heap[K]? =some (fnO V R H F T L)
 aT:bC w W
def PM.only {l:bQ}{V H F T L:Nat}{B:bq}{S:bY}(h:PM l fr te br vs N V R H F T L K fv cv w i A)(ho:bh S A B)(hS:∀j,S j->(j≠V/\j≠R/\j≠H/\j≠F/\j≠T/\j≠L)/\j≠K/\w.heap.size<=j)(hN:∀j,S j->N j):PM l fr te br vs N V R H F T L K fv cv w i B:=
 ⟨h.st.only ho (λj hj=>(hS j hj).1) hN,ho.at_ h.fn (λh=>(hS _ h).2.1 rfl),cr h.aT h.aT.size ho (λj hj=>(hS j hj).2.2)⟩
def PN(l:bQ)(hl:ff l)(fr te:Nat)(RS:fr<=te)(hte:te<=l.bo.length)(br:Int)(hm:br<=100000)(vs:List bE)(hv:cD (bV l fr).aW br vs)(M:Nat->Prop)(w:World)(hM:Bd M w)(hG:Gd w)(fv cv vv:Value)(hfs:aS M w fv l.bu.aW)(hcs:aS M w cv l.bo)(hvs:aS M w vv vs):
 xC 276 #[.agg #[.string l.bu.aX,fv,cv], .int .i64 fr, .int .i64 te,vv] w (de w λv w'=>∃us uv,v= .tuple #[uv, .int .i64 0]/\kR (bV l fr) (fQ l fr te te) br vs us/\aS M w' uv us):=by
 have h8:vs.length<=12:=by
  have:=((fe _).1 (hl.lr fr).right).2.1;rw[hv.1];omega
 have mQ:=aV hM;have Q2:Hd (∀W,bC w W->_):=(show∀W,_->_ fromλW hb=>Cn hv h8 M W vv (hM.aT hb) (hvs.aT hb));have zp:Hd (∀(S:Nat->Prop)p W,bC w W->¬S p->(∀i,S i->w.heap.size<=i/\i<W.heap.size)->W.heap[p]? =some (dG l.bu.aX fv cv)->LG prog 275 #[.pointer (p,0)] W S 1 0 (p9 l (rF M S W)) (λi=>i=l.bo.length+1)):=(show∀(S:Nat->Prop)p W,_->_->_->_->_ fromλS p W h1 h2 h3 h4=>oN l hl M S p w W hM h1 hG.tb fv cv hfs hcs h4 h2 h3);have wN:Hd (∀(N:Nat->Prop)(i V R H F T L:Nat)fvc W,i<=te->ES V R H F T L->(∀j,qG V H F j->N j)->(∀j,qG V H F j->w.heap.size<=j)->Bd N W->bC w W->aS N W fvc (bV l i).aW->lI l fr te br vs N V R H F T L fv cv i W->_):=(show∀(N:Nat->Prop)(i V R H F T L:Nat)fvc W,_->_->_->_->_->_->_->_->_ fromλN i V R H F T L fvc W h1 h2 h3 h4 h5 h6 h7 h8=>Mo l hl fr te i RS hte h1 br hm vs M N V R H F T L fv cv fvc h2 w W h3 h4 h5 h6 hG hcs h7 h8);have NA:Hd (∀us,us.map (dm 3)=vs.map (dm 3)->cD (bV l fr).aW br us->kR (bV l fr) (fQ l fr te 0) br vs us):=(show∀us:List bE,_->_->_ fromλus h1 h2=>by
  rw[A7 (ax _)];exact⟨h2,h1⟩);have HV:=aV hv;have eg:∀args w,(callFunc 311 args).run prog w= .ok (.enter 311 args) w:=enters_of func311 (by kernel_rfl) rfl;have BC:∀(fn:Fn)(bu cap:Array Value)(w:World),(Instr.makeFunc fn bu cap).run prog w= .ok (.func fn bu cap) w:=λ_ _ _ _=>rfl;obtain⟨fa,fc,rfl,_⟩:=hfs.bj;obtain⟨ca,cc,rfl,_⟩:=hcs.bj;obtain⟨va,vc,rfl,_⟩:=hvs.bj;have dp:=aV (Bx.iN w (dG l.bu.aX (.slice fa l.bu.aW.length fc) (.slice ca l.bo.length cc)) (mW fr) (mW te));clear hfs hcs hvs hM hG hv hl;refine callsIn_wide.1 (callsIn_of_wp_marks (n:=0) func276 rfl trivial (wpIn_wide.2 ?_) rfl);simp only[ntmps276,List.size_toArray,aC,aD,Nat.reduceAdd,Nat.reduceSub,Array.replicate_succ,Array.replicate_zero,List.push_toArray,List.append_toArray,List.nil_append,List.cons_append];go_wp2_with fail;refine(Q2.o _ dp.o.1).mono ?_;rintro e w1⟨_,rfl,hs1,hb1⟩;obtain⟨ua,uc,rfl,_⟩:=hs1.bj;have cu:=aV (dp.o.aT hb1);have re:=aV hs1;have hz1:=cu.o.cM;simp only[aC,aD]at hz1;clear hb1 hs1;go_upto_region 3 with fail;obtain⟨q,hq⟩:∃q,w1.heap.size=q:=⟨_,rfl⟩;obtain⟨W3,hW3⟩:∃W3:World,W3=(((w1.alloc (mW 0)).alloc (F8 (.slice ua vs.length uc))).alloc (zO 0)).alloc (fnO q [w] (q+1) (q+1+1) [w,w] w):=⟨_,rfl⟩;have hX:=Bx.Lk w1 (mW 0) (F8 (.slice ua vs.length uc)) (zO 0) (fnO q [w] (q+1) (q+1+1) [w,w] w);rw[<-hW3]at hX;have mn:=aV hX;have cR:=aV (cu.o.aT hX.1);have wL:W3=q+4:=by rw[hW3,<-hq];simp
 unfold mW F8 zO fnO at hW3;rw[hq,<-hW3];have HQE:=aV hq;clear hW3 hX;have⟨l0,l1,l2⟩:=bM (cR.o.cP rfl);go_wp2_with fail;refine(p8 _ _ _ _).mono ?_;rintro e w2⟨rfl,rfl⟩;go_wp2_with fail;obtain⟨W2,hW2⟩:∃W2:World,W2=W3.alloc (dG l.bu.aX (.slice fa l.bu.aW.length fc) (.slice ca l.bo.length cc)):=⟨_,rfl⟩;have pA:Hd (W2.heap[W3.heap.size]? =some (dG l.bu.aX (.slice fa l.bu.aW.length fc) (.slice ca l.bo.length cc))):=(show _=_ by rw[hW2];exact az W3 _);have Xq:bC W3 W2:=by rw[hW2];exact cU
 have bZ:=aV (cR.o.aT Xq);have gz:=aV (mn.o.aT Xq);have hz2:W2=q+5:=by rw[hW2];simp[wL]
 rw[<-hW2];rw[wL]at pA;clear hW2 Xq l0 l1 l2;have hNS:∀j,qG q (q+1) (q+1+1) j->w.heap.size<=j/\j<W2.heap.size:=λj hj=>by rcases hj with hj|hj|hj<;>omega
 have Jz:=aV hNS;have TC:=aV (zp.o (qG q (q+1) (q+1+1)) (q+4) W2 bZ.o.1 (λh=>by rcases h with h|h|h<;>omega) hNS pA.o);have CS:Hd (ES q [w] (q+1) (q+1+1) [w,w] w):=(show ES _ _ _ _ _ _ from⟨by omega,by omega,by omega,by omega,by omega,by omega,by omega,by omega,by omega,by omega,by omega,by omega⟩);have HI0:Hd (PM l fr te br vs (rF M (qG q (q+1) (q+1+1)) W2) q [w] (q+1) (q+1+1) [w,w] w (q+1+1+1) (.slice fa l.bu.aW.length fc) (.slice ca l.bo.length cc) w 0 W2):=(show PM _ _ _ _ _ _ _ _ _ _ _ _ _ _ _ _ _ _ from by
  have e0:=gz.o.cP rfl;have e1:=gz.o.cZ rfl;have e2:=gz.o.im rfl;have e3:=gz.o.Au rfl;(try unfold ed at e0);rw[HQE.o]at e0 e1 e2 e3;exact⟨⟨e0,bZ.o.cZ rfl,e2,bZ.o.im rfl,bZ.o.cP rfl,vs,ua,_,uc,e1,re.o.ev ⟨bh.bA (gz.o.1.mono cN),λj hj=>by
   rcases hj with hj|hj|hj
   .exact .inl hj
   .exact .inr (by have:=HQE.o;rcases hj with hj|hj|hj<;>omega)
   exact .inr (by have:=hj.1;have:=HQE.o;omega)⟩,NA.o vs rfl HV.o⟩,e3,bZ.o.1⟩);clear hNS;refine wpIn_wide.1 (oI rfl (enters_of func275 (by kernel_rfl) rfl) (qG q (q+1) (q+1+1)) 1 0 (p9 l (rF M (qG q (q+1) (q+1+1)) W2)) (λi=>i=l.bo.length+1) TC.o (λi args i' W h=>qb h) (λi hi=> .inl (Jz.o i hi).2)
  (λi W=>i<=te/\PM l fr te br vs (rF M (qG q (q+1) (q+1+1)) W2) q [w] (q+1) (q+1+1) [w,w] w (q+1+1+1) (.slice fa l.bu.aW.length fc) (.slice ca l.bo.length cc) w i W)
  (λc W=>c= .exit 0/\PM l fr te br vs (rF M (qG q (q+1) (q+1+1)) W2) q [w] (q+1) (q+1+1) [w,w] w (q+1+1+1) (.slice fa l.bu.aW.length fc) (.slice ca l.bo.length cc) w (te+1) W)
  (λi A B h ho=>⟨h.1,h.2.only ho (λj hj=>by have:=hj.1;exact⟨⟨by omega,by omega,by omega,by omega,by omega,by omega⟩,by omega,by omega⟩) (λj hj=> .inr (.inr hj))⟩)
  (λc A B h ho=>⟨h.1,h.2.only ho (λj hj=>by have:=hj.1;exact⟨⟨by omega,by omega,by omega,by omega,by omega,by omega⟩,by omega,by omega⟩) (λj hj=> .inr (.inr hj))⟩) ⟨ax _,HI0.o⟩ ?hround ?hdone ?hstop);case hdone=>
  intro i W hE hI hD;exfalso;have:=hI.1;omega
 case hround=>
  intro k i args i' W hI hTl hsz;obtain⟨rfl,hi,kF,rfl,hsl⟩:=hTl;obtain⟨hiv,hca⟩:=hI;obtain⟨ya,yc,rfl,_⟩:=hsl.bj;have HI:=aV hca;have gS:=aV hsl;clear hca hsl;gi_wp2_with(rw[Oper.semAt_eq _ _ _ (λc h=>by cases h)];go_simp;try go_bits);refine⟨(bh.refl _ W).alloc _,λW5 ho5 hzW=> ?_⟩;have qY:Hd (bh (λj=>j=[W2]) W W5):=(show bh _ _ _ from((bh.refl _ W).alloc _).trans ho5);have UP:Hd (PM l fr te br vs (rF M (qG q (q+1) (q+1+1)) W2) q [w] (q+1) (q+1+1) [w,w] w (q+1+1+1) (.slice fa l.bu.aW.length fc) (.slice ca l.bo.length cc) w i W5):=(show PM _ _ _ _ _ _ _ _ _ _ _ _ _ _ _ _ _ _ from HI.o.only qY.o (λj hj=>by have:j=[W2]:=hj;exact⟨⟨by omega,by omega,by omega,by omega,by omega,by omega⟩,by omega,by omega⟩) (λj hj=> .inr (.inr (by have:j=[W2]:=hj;exact⟨by omega,by omega⟩))));have Xr:Hd (aS (rF M (qG q (q+1) (q+1+1)) W2) W5 (.slice ya (bV l i).aW.length yc) (bV l i).aW):=(show aS _ _ _ _ from gS.o.ev ⟨qY.o.mono λj hj=> .inr (.inr (by have:j=[W2]:=hj;exact⟨by omega,by omega⟩)),λj hj=> .inl hj⟩);have HP5:=aV (ho5.at_ (az W (dP l.bu.aX (.slice ya (bV l i).aW.length yc))) (by show¬W.heap.size=[W2];omega));have hz5:W2.heap.size+3<=W5:=by rw[hzW];simp;omega
  have nk:Hd (Bd (rF M (qG q (q+1) (q+1+1)) W2) W5):=(show Bd _ _ fromλj hj=>by
   rcases hj with hj|hj|hj
   .have:=mQ.o j hj;omega
   .have:=(Jz.o j hj).2;omega
   have:=hj.2;omega);have cI:=aV (wN.o _ i _ _ _ _ _ _ _ W5 hiv CS.o (λj hj=> .inr (.inl hj)) (λj hj=>(Jz.o j hj).1) nk.o UP.o.aT Xr.o UP.o.st);have⟨p0,p1⟩:=aZ HP5.o;have s0:=one_cell UP.o.fn;clear ho5;gi_wp2_with(rw[Oper.semAt_eq _ _ _ (λc h=>by cases h)];go_simp;try go_bits);refine⟨trivial,rfl,(CallsIn.inRound k (callsIn_wide.2 cI.o)).mono ?_⟩;rintro e w6⟨rfl,hst,UQ⟩;have RQ:=aV UQ;have HI6:Hd (PM l fr te br vs (rF M (qG q (q+1) (q+1+1)) W2) q [w] (q+1) (q+1+1) [w,w] w (q+1+1+1) (.slice fa l.bu.aW.length fc) (.slice ca l.bo.length cc) w (i+1) w6):=(show PM _ _ _ _ _ _ _ _ _ _ _ _ _ _ _ _ _ _ from⟨hst,UQ.at_ UP.o.fn (λh=>by rcases h with h|h|h<;>omega),cr UP.o.aT UP.o.aT.size UQ (λj hj=>(Jz.o j hj).1)⟩);clear hst UQ s0 p0 p1;by_cases hle:i+1<=te
  .gi_wp2_with(rw[Oper.semAt_eq _ _ _ (λc h=>by cases h)];go_simp;try go_bits);exact⟨RQ.o,hle,HI6.o⟩
  obtain rfl:i=te:=by omega
  gi_wp2_with(rw[Oper.semAt_eq _ _ _ (λc h=>by cases h)];go_simp;try go_bits);exact⟨RQ.o,rfl,HI6.o⟩
 case hstop=>
  intro c W hX hD;obtain⟨rfl,hca⟩:=hX;have HI:=aV hca;have HD:=aV hD;have⟨us,a,n,cap,h1,h2,h3⟩:=hca.st.gh;have f0:=one_cell HI.o.st.gf;have h0:=one_cell h1;clear hca hD;refine wpIn_wide.2 ?_;dsimp only;go_wp2_with fail;obtain⟨W4,hW4⟩:∃W4:World,W4=W.putObj W2 (.deferred none):=⟨_,rfl⟩;have o4:bh (λj=>j=W2) W W4:=by rw[hW4];exact(bh.refl (λj=>j=W2) W).putObj (.inl rfl) _
  refine⟨by simp, .inl ⟨_,_,rfl,run_takeDeferred HD.o,?_⟩⟩;rw[<-hW4];rw[qd (.inr cN)]at h3;refine⟨.tuple #[.slice a n cap, .int .i64 0],by simp[results,results276,go_sem],_,rfl,⟨us,_,rfl,h3,(h2.ev ⟨o4.mono λj hj=> .inr (.inr (by have:j=W2:=hj;exact⟨by omega,by omega⟩)),λj hj=> .inl hj⟩).ev (Ev.eO W4 λj hj=> .inl hj)⟩,?_⟩;exact cr HI.o.aT HI.o.aT.size o4 (λj hj=>by have:j=W2:=hj;have:=bZ.o.1.size;omega)
def Mp(ls:List bQ)(h:eS ls)(k:Nat)(l:bQ)(hk:ls[k]? =some l)(fr:Nat)(RS:fr<=l.bo.length)(br:Int)(hm:br<=100000)(vs:List bE)(hv:cD (bV l fr).aW br vs)(M:bY)(w:bq)(hM:Bd M w)(hG:Gd w)(sv vv:bt)(hs:aS M w sv ls)(hvs:aS M w vv vs):
 xG 209 #[.agg #[sv],k,fr,l.bo.length,vv] w λv w'=>∃us uv,v= .tuple #[uv,xI 0]/\kR (bV l fr) (l.bo.drop fr) br vs us/\aS M w' uv us:=by
 have rI:=h.bH l (ai hk);have hcut:fQ l fr l.bo.length l.bo.length=l.bo.drop fr:=by
  unfold fQ;rw[Nat.min_self,ak (by rw[List.length_drop];exact cN)]
 have HC:=ie (w:=w) (λW hb=>yG ls h k l hk M W (hM.aT hb) (hG.tb.aT hb) sv (hs.aT hb));have BE:Hd (∀W fv cv,bC w W->aS M W fv l.bu.aW->aS M W cv l.bo->_):=λW fv cv hb h1 h2=>PN l rI fr l.bo.length RS cN br hm vs hv M W (hM.aT hb) (hG.aT hb) fv cv vv h1 h2 (hvs.aT hb);rw[hcut]at BE;obtain⟨a,cY,rfl,dN,hmx,_⟩:=hs.bj;obtain⟨va,vc,rfl,_⟩:=hvs.bj;have dp:=aV (Bx.fm w (iq (xL a ls.length cY)));have i0:(0:Int)<=(fr:Int):=an _;have i1:(fr:Int)<=(l.bo.length:Int):=by omega
 delta xG;go_in;go_wp2_with fail;refine(HC.o _ dp.o.1).mono ?_;rintro e w1⟨⟨fa,fc,ca,cc,rfl,hf1,hc1⟩,hb1⟩;have cu:=aV (dp.o.aT hb1);have HCB:Hd (∀o,_):=λo=>BE.o (w1.alloc o) _ _ (cu.o.alloc o).1 (hf1.aT (hb1.alloc hb1.size o)) (hc1.aT (hb1.alloc hb1.size o));go_wp2_with fail;refine(HCB.o _).mono ?_;rintro e w2⟨_,rfl,⟨us,uv,rfl,Rq,hsl⟩,cJ⟩;obtain⟨ya,yc,rfl,_⟩:=hsl.bj;have bZ:=aV ((cu.o.alloc _).aT cJ);have Xs:=aV Rq;have gS:=aV hsl;go_wp2;go_ret2;exact⟨_,rfl,⟨us,_,rfl,Xs.o,gS.o⟩,bZ.o.1⟩
def A8(h:eS ls){l:bQ}(hk:ls[k]? =some l):eS [l]:=by
 have hl:=h.bH l (ai hk);refine⟨by simp,?_,?_⟩;all_goals first
  |(intro x hx;rcases aR.1 hx with rfl;exact hl)
  |(intro i x hi;match i,hi with
     |0,hi=>simp at hi;subst hi;simp[ek,dh,idxOf]
     |i+1,hi=>simp at hi)
def Mq {l:bQ}(hk:ls[k]? =some l):(ls.drop k).take 1=[l]:=by
 rw[List.drop_eq_getElem?_toList_append,hk];simp
def EV(ls:List bQ)(k:Nat)(l:bQ)(hk:ls[k]? =some l)(h8:ls.length<=8)(M:bY)(w:bq)(sv:bt)(hs:aS M w sv ls):
 xG 210 #[.agg #[sv],k] w λv w'=>∃u,v= .agg #[u]/\aS M w' u [l]:=by
 have cE:=(ag.1 hk).1;obtain⟨a,cY,rfl,dN,hmx,_⟩:=hs.bj;have⟨b,off,cap,fa,fc,ca,cc,hv,hbl,_,_,_,_⟩:=fp hs hk;obtain⟨rfl,rfl⟩:=jk hv;have s2:=(hs.from_ rfl (k:=k) (by omega)).upto (by simp) (k:=1) (by omega);rw[Mq hk,if_neg (by omega)]at s2;have iy:=aV (show aS M w (xL (b,off+k*3) 1 (cY-k)) [l]by
  have e:(⟨b,off,none⟩:Addr).add (k*3)=⟨b,off+k*3,none⟩:=by
   unfold Addr.add;by_cases hz:k=0
   .subst hz;simp
   simp[show¬k*3=0 from by omega]
  simpa [e,show bD.size bQ=3 from rfl]using s2);have dp:=aV (Bx.ei w (iq (xL (b,off) ls.length cY)) (iq ()));have i6:IntKind.i64.wrap ((k:Int)+1)=(k:Int)+1:=aw _ (by omega);have i0:(0:Int)<=(k:Int):=an _;have i1:(k:Int)+1<=(cY:Int):=by omega
 have i2:¬cY=k:=by omega
 have i3:(k:Int)<=(k:Int)+1:=by omega
 have i4:((k:Int)+1).toNat=k+1:=by omega
 have i5:k+1-k=1:=by omega
 have i7:k+1<=cY:=by omega
 have c0:=one_cell (dp.o.cZ rfl);have f0:=aY (dp.o.cZ rfl) 0;have d0:=one_cell (dp.o.cP rfl);delta xG;go_in;go_wp2_with fail;refine ah (v:= .agg #[xL (b,off+k*3) 1 (cY-k)]) (by simp[results,results210,go_sem,c0]) rfl ⟨_,rfl,⟨_,rfl,?_⟩,?_⟩
 .exact iy.o.aT (Bx.ei w (iq _) (iq _)).1
 exact(Bx.ei w (iq _) (iq _)).1
def IG(ls:List bQ)(h:eS ls)(k:Nat)(l:bQ)(hk:ls[k]? =some l)(x:cm)(v:Nat)(br:Int)(hm:br<=100000)(hc:x.dz=k)(hvv:x.dB=v)(C7:v<=l.bo.length)(hx:Hk br x)(hv:cD (bV l v).aW br x.bR)(M:bY)(w:bq)(hM:Bd M w)(hG:Gd w)(sv vv:bt)(hs:aS M w sv ls)(hvs:aS M w vv x.bR):
 xG 142 #[.agg #[sv], .agg #[x.id,x.dz,x.dB,vv]] w λr w'=>∃us uv,r= .tuple #[.agg #[x.id,x.dz,l.bo.length,uv],xI 0]/\kR (bV l v) (l.bo.drop v) br x.bR us/\aS M w' uv us:=by
 have rI:=h.bH l (ai hk);have h1:=A8 h hk;have HL:=ie (w:=w) (λW hb=>ER ls h k l hk M W (hM.aT hb) (hG.tb.aT hb) sv (hs.aT hb));have WM:=ie (w:=w) (λW hb=>DO x br hm hx M W (hM.aT hb) vv (hvs.aT hb) (hG.tb.aT hb));have HA:=ie (w:=w) (λW hb=>EV ls k l hk (by have:=h.len;omega) (eo M w 3) W sv (hs.ev (dH hb)));have BE:Hd (∀W u,bC w W->w.heap.size+3<=W->aS (eo M w 3) W u [l]->_):=λW u hb h3 hu=>Mp [l] h1 0 l rfl v C7 br hm x.bR hv (eo M w 3) W (dZ hM h3) (hG.aT hb) u vv hu (hvs.ev (dH hb));obtain⟨a,cY,rfl,dN,hmx,_⟩:=hs.bj;obtain⟨va,vc,rfl,_⟩:=hvs.bj;obtain⟨xi,xc,xv,xs⟩:=x;dsimp only at*;subst hc;subst hvv;have dp:=aV (Bx.iN w (iq (xL a ls.length cY)) (eV ⟨xi,(k:Int),(v:Int),xs⟩ (xL va xs.length vc)) (eV ⟨0,0,0,[]⟩ ()));have i0:(0:Int)<=(v:Int):=an _;have i1:(v:Int)<=(l.bo.length:Int):=by omega
 have c0:=one_cell (dp.o.cP rfl);have⟨o0,o1,o2,o3⟩:=aU (dp.o.cZ rfl);delta xG;go_in;go_wp2_with fail;refine dx (HL.o _ dp.o.1) λw1 hb1=> ?_;have cu:=aV (dp.o.aT hb1);have c0:=one_cell (cu.o.cP rfl);have⟨o0,o1,o2,o3⟩:=aU (cu.o.cZ rfl);go_wp2_with fail;refine dx (WM.o _ cu.o.1) λw2 cJ=> ?_;have bZ:=aV (cu.o.aT cJ);have c0:=one_cell (bZ.o.cP rfl);have⟨o0,o1,o2,o3⟩:=aU (bZ.o.cZ rfl);go_upto_region 6 with fail;have eh:Hd (∀W,bC w2 W->oT W w 0 (xL a ls.length cY)/\zB W w 1 k/\zB W w 2 v/\zB W w 3 (xL va xs.length vc)):=λW hb=>by
  have h:=bZ.o.aT hb;have h4:=aU (h.cZ rfl);exact⟨one_cell (h.cP rfl),h4.2.1,h4.2.2.1,h4.2.2.2⟩
 have ij:Hd (bC w w2):=bZ.o.1;have BH:Hd (w.heap.size+3<=w2):=bZ.o.cM;have HJ:Hd (bC w2 w2):=eH;go_cut [8,7](λs8 s7 wx=>s7=xI 0/\Hd (bC w2 wx)/\Hd (∃us,kR (bV l v) (l.bo.drop v) br xs us/\aS (eo M w 3) wx s8 us))
 .go_region_held3(λw'=>w'.cell? (w,0)=some (xL a ls.length cY)/\w'.cell? ([w],1)=some (xI k)/\w'.cell? ([w],2)=some (xI v)/\w'.cell? ([w],3)=some (xL va xs.length vc))
   (with_reducible first|exact eh.o _ pC.o|exact eh.o _ ee.o|exact eh.o _ ee.o.drew|exact eh.o _ HJ.o|exact eh.o _ HJ.o.drew)
   (first
     |(go_at_call 210;refine(HA.o _ (by with_reducible first|exact ij.o.drew|exact ij.o)).mono ?_;rintro e w3⟨_,rfl,⟨u,rfl,hu⟩,hb3⟩;obtain⟨a1,c1,rfl,_⟩:=hu.bj;have HU:=aV hu;have ee:Hd (bC w2 w3):=(by with_reducible first|exact aV (Gc hb3)|exact aV hb3);clear hb3 hu)
     |(go_at_call 209;refine(BE.o _ _ (ij.o.trans (ee.o.mono ij.o.size)) (aH BH.o ee.o.size) HU.o).mono ?_;rintro e w4⟨_,rfl,⟨us,uv,rfl,Rq,hsl⟩,eZ⟩;obtain⟨a2,c2,rfl,_⟩:=hsl.bj;have Xs:=aV Rq;have gS:=aV hsl;have pC:Hd (bC w2 w4):=ee.o.trans (eZ.mono ee.o.size);clear eZ Rq hsl));all_goals(go_wp2;go_meet)
  all_goals exact⟨rfl,pC,aV ⟨_,Xs.o,gS.o⟩⟩
 obtain⟨rfl,HJ5,Gh⟩:=hcut;have jF:=aV (bZ.o.aT HJ5.o);have⟨us,Rq,hsl⟩:=Gh.o;obtain⟨a2,c2,rfl,_⟩:=hsl.bj;have Xs:=aV Rq;have gS:=aV hsl;have c0:=one_cell (jF.o.cP rfl);have⟨o0,o1,o2,o3⟩:=aU (jF.o.cZ rfl);have⟨r0,r1,r2,r3⟩:=aU (jF.o.im rfl);have⟨f0,f1,f2,f3⟩:=iS (jF.o.im rfl);go_wp2_with fail;refine ah (v:= .tuple #[.agg #[xi,k,l.bo.length,xL a2 us.length c2],xI 0]) (by simp[results,results142,go_sem,r0,r1,r2,r3]) rfl ⟨_,rfl,⟨_,_,rfl,Xs.o,?_⟩,?_⟩
 .exact gS.o.ev (((((fx _).setCell (.inl (.inr ⟨by simp;omega,by simp⟩)) _).setCell (.inl (.inr ⟨by simp;omega,by simp⟩)) _).setCell (.inl (.inr ⟨by simp;omega,by simp⟩)) _).setCell (.inl (.inr ⟨by simp;omega,by simp⟩)) _)
 exact dS jF.o.1 (by omega)
abbrev IH(p:Int×Int):bt:= .agg #[xI p.1,xI p.2]
def Cq(e:Bool)(x:Int×Int)(w:bq):(Instr.checkKey e 10000 289 (IH x)).run prog w= .ok () w:=by
 kernel_rfl
def Zp(x y:Int×Int)(w:bq):(Op.equal 289 (IH x) (IH y)).run prog w= .ok (decide (x=y)) w:=by
 obtain⟨a,b⟩:=x;obtain⟨c,d⟩:=y;have p0:∀(x y:Int)(w:bq),(part 3 #[xI x,xI y] 0).run prog w= .ok (xI x) w:=λx y w=>by kernel_rfl
 have p1:∀(x y:Int)(w:bq),(part 3 #[xI x,xI y] 1).run prog w= .ok (xI y) w:=λx y w=>by kernel_rfl
 have pe:∀(x y:Int)(w:bq),(Op.equalIn 9999 3 (.int .i64 x) (.int .i64 y)).run prog w= .ok (x==y) w:=λx y w=>run_equalIn_int w 9998 _ _ _ x y underlying3;have h1:(Op.equal 289 (IH (a,b)) (IH (c,d))).run prog w= .ok ((a==c)&&(b==d)) w:=by
  show(Op.equalIn (9999+1) 289 (.agg #[a,b]) (.agg #[c,d])).run prog w=_;rw[run_equalIn_struct w 9999 289 #[.int .i64 a, .int .i64 b] #[.int .i64 c, .int .i64 d] (by simp[Program.fieldsOf,underlying289]) (by kernel_rfl)];simp only[Program.fieldsOf,underlying289,Op.eqFields,Sem.run_bind,p0,p1,pe,Result.andThen_ok];by_cases h:a=c<;>by_cases h2:b=d<;>simp[h,h2,Op.eqFields,p0,p1,pe]
 have h2:((a==c)&&(b==d))=decide ((a,b)=(c,d)):=by rw[Bool.eq_iff_iff];simp
 rw[h1,h2]
def tw:l8 IH prog 289:=Mh IH _ (λ_ _=>rfl) underlying289 Zp
def row_one {l:bQ}(hg:cX W g (xK #[l.bu.aX,fv,cv] t))(hM:¬M g)(h1:aS M W fv l.bu.aW)(h2:aS M W cv l.bo)(hn:l.bu.aX.size<=maxLen):aS M W (xL (g,0) 1 1) [l]:=by
 refine⟨[[xS l.bu.aX,fv,cv]],⟨rfl,some ⟨g,0,none⟩,1,rfl,cN,by unfold maxLen;omega,λ_=>⟨g,0,rfl,hM,(ab.1 hg).1,λj u hu=> ?_⟩⟩,rfl,λi cs x hc hx=> ?_⟩
 .simp only[World.cell?,hg,Nat.zero_add];simpa using hu
 match i,hc,hx with
 |0,hc,hx=>cases hc;cases hx;exact⟨fv,cv,rfl,h1,h2,hn⟩
 |i+1,hc,hx=>simp at hx
def NJ(s1 s2:bt):bt:= .agg #[true,s1,s2]
def vz(b:Bool)(s1 s2:bt):Obj:=xK #[b,s1,s2] 229
def SV(c v:Int):Obj:=xK #[c,v] 289
def PO(sv:bt)(b:Nat):Obj:=xK #[sv, .map (some b)] 227
def kK(l:bQ)(v:Nat):bQ:=⟨bV l v,[]⟩
structure kj(ls:List bQ)(M:bY)(p b:Nat)(sv:bt)(w:bq):Prop where
 cell:w.heap[p]? =some (PO sv b)
 bH:aS M w sv ls
 mp:∃es clk,cO IH w b es clk/\∀x val,cB es x=some val->∃(k v:Nat)(l:bQ)(a1 a2:fM)(n1 c1 n2 c2:Nat),x=((k:Int),(v:Int))/\ls[k]? =some l/\v<=l.bo.length/\val=NJ (xL a1 n1 c1) (xL a2 n2 c2)/\aS M w (xL a2 n2 c2) [fz l v]/\aS M w (xL a1 n1 c1) [kK l v]
def kj.ev(h:kj ls M p b sv w)(hv:Ev M w M' w')(hp:w'.heap[p]? =w.heap[p]?)(hb:w'.heap[b]? =w.heap[b]?):kj ls M' p b sv w':=by
 obtain⟨h1,h2,es,clk,h3,h4⟩:=h;refine⟨hp.trans h1,h2.ev hv,es,clk,(show w'.heap[b]? =_ from hb.trans h3),λx val hx=> ?_⟩;have⟨k,v,l,a1,a2,n1,c1,n2,c2,e1,e2,e3,e4,e6,e7⟩:=h4 x val hx;exact⟨k,v,l,a1,a2,n1,c1,n2,c2,e1,e2,e3,e4,e6.ev hv,e7.ev hv⟩
def Kr(ls:List bQ)(M:bY)(w:bq)(hM:Bd M w)(sv:bt)(hs:aS M w sv ls):
 xC 60 #[.agg #[sv]] w λe w'=>∃p b,e=xR (xP p)/\w.heap.size<=p/\w.heap.size<=b/\p≠b/\p<w'.heap.size/\b<w'.heap.size/\(∀N:bY,(∀i,N i->M i\/w.heap.size<=i)->kj ls N p b sv w')/\bC w w':=by
 obtain⟨a,cY,rfl,dN,hmx,_⟩:=hs.bj;have HS:=aV hs;have hmk:=λw=>fJ 225 w;have c0:=one_cell ((Bx.fm w (iq (xL a ls.length cY))).cP rfl);clear hs;delta xC;go_in;go_wp2;go_ret;have hX:=Bx.iN w (iq (xL a ls.length cY)) (.map #[] 0) (PO (xL a ls.length cY) [w]);refine⟨[w,w],w.heap.size+1,rfl,by omega,by omega,by omega,by simp,by simp,λN hN=>⟨hX.im rfl,HS.o.ev ⟨bh.bA hX.1,hN⟩,[],0,hX.cZ rfl,λx val h=>by simp[cB]at h⟩,hX.1⟩
def Mr(M:bY)(w:bq)(T:Nat):Nat->Prop:=λi=>M i\/(w<=i/\i<T)
def VN {T:Nat}(hM:Bd M w)(hb:bC w W)(hT:T<=W):Bd (Mr M w T) W:=λi hi=>by
 rcases hi with hi|hi
 .exact aN (hM i hi) hb.size
 omega
def II(T:Nat)(hb:bC w W):Ev M w (Mr M w T) W:=⟨bh.bA hb,λi hi=>by
 rcases hi with hi|hi
 .exact .inl hi
 exact .inr hi.1⟩
def Ks(ls:List bQ)(h:eS ls)(k:Nat)(l:bQ)(hk:ls[k]? =some l)(v:Nat)(hv:v<=l.bo.length)(M:bY)(w:bq)(hM:Bd M w)(hG:Gd w)(p b:Nat)(wO:p≠b)(hMb:M b)(sv:bt)(hB:kj ls M p b sv w):
 xC 141 #[xP p,k,v] w λe w'=>(∃a1 n1 c1 s2,e=xR (NJ (xL a1 n1 c1) s2)/\aS M w' s2 [fz l v]/\aS M w' (xL a1 n1 c1) [kK l v])/\kj ls M p b sv w'/\bh (λi=>i=b) w w':=by
 have ik:=aV hB;obtain⟨hcell,hs,es,clk,F0,zw⟩:=hB;have hp:=(ab.1 hcell).1;have YK:=aV (hM b hMb);have mQ:=aV hM;have HP0:=aV hp;have eh:Hd (∀W,bC w W->cX W p (PO sv b)/\cO IH W b es clk):=λW hb=>⟨(hb.block _ hp).trans hcell,(hb.block _ (hM b hMb)).trans F0⟩;have HES:=aV zw;have HS:=aV hs;have RW:∀W val,bC w W->cB es ((k:Int),(v:Int))=some val->(Instr.lookup 225 (.map (some b)) (.agg #[.int .i64 k, .int .i64 v]) true).run prog W= .ok (.tuple #[val, .bool true]) W:=λW val hb hx=>cO.EB IH underlying225 tw Cq (eh.o W hb).2 ((k:Int),(v:Int)) val hx;have hz:∀W,(zeroValue 229).run prog W= .ok (.agg #[false,(),()]) W:=λW=>by kernel_rfl
 have hl4:∀W,bC w W->cB es ((k:Int),(v:Int))=none->(Instr.lookup 225 (.map (some b)) (.agg #[.int .i64 k, .int .i64 v]) true).run prog W= .ok (.tuple #[.agg #[.bool false, .slice none 0 0, .slice none 0 0], .bool false]) W:=λW hb hx=>cO.Ue IH underlying225 tw Cq (eh.o W hb).2 ((k:Int),(v:Int)) _ (hz W) hx;obtain⟨ob,KR,KS,KT,YL,YM,YN,mD,hob,qay⟩:∃(ob:Bool)(KR:fM)(KS KT:Nat)(YL:fM)(YM YN:Nat),(∀W,bC w W->(Instr.lookup 225 (.map (some b)) (.agg #[k,v]) true).run prog W= .ok (.tuple #[.agg #[ob,xL KR KS KT,xL YL YM YN],ob]) W)/\(ob=true->aS M w (xL YL YM YN) [fz l v]/\aS M w (xL KR KS KT) [kK l v])/\(ob=false->cB es ((k:Int),(v:Int))=none):=by
  cases hq:cB es ((k:Int),(v:Int))with
  |none=>exact⟨false,none,0,0,none,0,0,λW hb=>hl4 W hb hq,by simp,by simp⟩
  |some val=>
   have⟨k',v',l',a1,a2,n1,c1,n2,c2,e1,e2,e3,e4,e6,e7⟩:=zw _ _ hq;rw[Prod.mk.injEq,Int.natCast_inj,Int.natCast_inj]at e1;obtain⟨rfl,rfl⟩:=e1;obtain rfl:l=l':=by rw[hk]at e2;exact Option.some.inj e2
   subst e4;exact⟨true,a1,n1,c1,a2,n2,c2,λW hb=>RW W _ hb hq,λ_=>⟨e6,e7⟩,by simp⟩
 have⟨lb,off,lcap,fa,fc,ca,cc,hsv,hlbl,hf1,hc1,hnm,hcells⟩:=fp hs hk;have iY:=aV hf1;have wN:=aV hc1;have tM:=aV hnm;have wM:=aV hcells;have Q2:=aV (hc1.from_ rfl (k:=v) hv);have Yq:Hd (ff l):=h.bH l (ai hk);have uN:Hd (∀T W u,bC w W->T<=W.heap.size->w.heap.size<=T->aS (Mr M w T) W u [l]->_):=λT W u hb h2 h3 hu=>IE [l] (A8 h hk) 0 l rfl v hv (Mr M w T) W (VN hM hb h2) (hG.tb.aT hb) u hu;have C6:=aV mD;have UR:=aV hob;have Xt:=aV qay;obtain⟨a,cY,rfl,dN,hmx,_⟩:=hs.bj;obtain⟨rfl,rfl⟩:=jk hsv;have hkl:=(ag.1 hk).1;have i0:(0:Int)<=(k:Int):=an _;have i1:(k:Int)<(ls.length:Int):=by omega
 clear hsv hf1 hc1 hcells hnm;have dp:=aV (Bx.ei w (vz false () ()) (SV k v));clear RW hl4 zw hs hcell F0 mD hob qay;delta xC;go_in;go_upto_region 2 with fail;have⟨W,hW⟩:=dd ((w.alloc (vz false () ())).alloc (SV k v));have bZ:=aV (show Bx w [vz false () (),SV k v] W by rw[hW];exact dp.o);unfold vz SV at hW;rw[<-hW];clear hW;have hzW:=bZ.o.cM;have c1:=(aZ (eh.o W bZ.o.1).1).2;have c1':=λo=>(aZ (eh.o (W.alloc o) (bZ.o.alloc o).1).1).2;have⟨d0,d1⟩:=aZ (bZ.o.cZ rfl);have d0':=λo=>(aZ ((bZ.o.alloc o).cZ rfl)).1;have d1':=λo=>(aZ ((bZ.o.alloc o).cZ rfl)).2;have l0:=C6.o W bZ.o.1;have l0':=λo=>C6.o (W.alloc o) (bZ.o.alloc o).1;have l1:=C6.o W.drew bZ.o.1.drew;have l1':=λo=>C6.o (W.alloc o).drew (bZ.o.alloc o).1.drew;have l2':=λo=>C6.o (W.drew.alloc o) (bZ.o.1.drew.alloc (aH bZ.o.1.size cN) o);go_cut [8,9](λs8 s9 wx=>s8=xP W/\s9=xB ob/\Hd (bC W wx/\ed wx W (vz ob (xL KR KS KT) (xL YL YM YN))))
 .go_region_law fail;all_goals(go_wp2;go_meet)
  all_goals refine⟨rfl,rfl,aV ⟨?_,?_⟩⟩
  all_goals first
   |exact cU.drew
   |exact(ay _ W).drew.alloc cN _
   |exact az W _
 obtain⟨rfl,rfl,HX⟩:=hcut;clear c1 c1' d0 d1 d0' d1' l0 l0' l1 l1' l2';have cR:=aV (bZ.o.aT HX.o.1);have⟨x0,x1,x2⟩:=bM HX.o.2;have⟨r0,r1,r2⟩:=bM (cR.o.cP rfl);have⟨f0,f1⟩:=nZ (cR.o.cP rfl);have f2:=aY (cR.o.cP rfl) 2;cases ob;rotate_left
 .go_wp2_with fail;refine ah (v:=NJ (xL KR KS KT) (xL YL YM YN)) (by simp[results,results141,go_sem,r0,r1,r2,NJ]) rfl ?_;have hb:=oM (a0:=xB true) (a1:=xL KR KS KT) (a2:=xL YL YM YN) cR.o.1 (ae w);exact⟨⟨_,_,_,_,rfl,(UR.o (by first|trivial|rfl)).1.aT hb,(UR.o (by first|trivial|rfl)).2.aT hb⟩,ik.o.ev (Ev.bA hb) (hb.block _ HP0.o) (hb.block _ YK.o),bh.bA hb⟩
 clear x0 x1 x2 r0 r1 r2 f0 f1 f2;go_upto_region 6 with fail;have⟨W4,hW4⟩:=dd (wc.alloc (vz false () ()));have fh:=aV (show Bx w [vz false () (),SV k v] W4 by rw[hW4];exact cR.o.alloc _);have R8:=aV (show ed W4 wc (vz false () ())by rw[hW4];exact az wc _);have Xu:W4.heap.size=[wc]:=by rw[hW4];simp
 have wL:w.heap.size+2<=wc:=cR.o.cM;unfold vz at hW4;rw[<-hW4];clear hW4 HX;generalize hVV:wc.heap.size=V at*;have R8:=aV (show cX W4 V (vz false () ())by first|exact R8.o|(rw[<-hVV];exact R8.o));clear hVV;have c0:=(aZ (eh.o W4 fh.o.1).1).1;have⟨q0,q1,q2⟩:=wM.o W4 fh.o.1;have q0':=λo=>(wM.o (W4.alloc o) (fh.o.alloc o).1).1;have q1':=λo=>(wM.o (W4.alloc o) (fh.o.alloc o).1).2.1;have q2':=λo=>(wM.o (W4.alloc o) (fh.o.alloc o).1).2.2;have c0':=λo=>(aZ (eh.o (W4.alloc o) (fh.o.alloc o).1).1).1;go_upto_region 8 with fail;clear q0' q1' q2' c0' q0 q1 q2 c0;have⟨W7,hW7⟩:=dd (W4.alloc (dG l.bu.aX (xL fa l.bu.aW.length fc) (xL ca l.bo.length cc)));have og:=aV (show Bx w [vz false () (),SV k v] W7 by rw[hW7];exact fh.o.alloc _);have HV7:=aV (show cX W7 V (vz false () ())by rw[hW7];exact(cU.block V (by omega)).trans R8.o);have HL7:=aV (show cX W7 (V+1) (dG l.bu.aX (xL fa l.bu.aW.length fc) (xL ca l.bo.length cc))by rw[hW7,<-Xu];exact az W4 _);have hz7:W7=V+2:=by rw[hW7];simp[Xu]
 unfold dG at hW7;rw[<-hW7];clear hW7;have⟨y0,y1,y2⟩:=bM HL7.o;have Uo:Hd (∀t,aS (Mr M w (V+2)) (W7.alloc (xK #[l.bu.aX,xL fa l.bu.aW.length fc,xL ca l.bo.length cc] t)) (xL (V+2,0) 1 1) [l]):=λt=>by
  have hb:bC w (W7.alloc (xK #[l.bu.aX,xL fa l.bu.aW.length fc,xL ca l.bo.length cc] t)):=(og.o.alloc _).1;refine row_one (t:=t) (by rw[<-hz7];exact az W7 _) (λh=> ?_) (iY.o.ev (II _ hb)) (wN.o.ev (II _ hb)) tM.o;rcases h with h|h
  .have:=mQ.o _ h;omega
  omega
 have HA7:Hd (∀o,aS (Mr M w (V+2)) (W7.alloc o) (xL (V+2,0) 1 1) [l]->_):=λo hu=>uN.o (V+2) (W7.alloc o) _ (og.o.alloc o).1 (by simp[hz7]) (by omega) hu;go_wp2_with fail;refine(HA7.o _ (Uo.o _)).mono ?_;rintro e w8⟨_,rfl,⟨fv,rfl,hsl⟩,F1⟩;obtain⟨ga,gc,rfl,_⟩:=hsl.bj;have TT:bC W7 w8:=cU.trans (F1.mono (by simp));have HB8:=aV (og.o.aT (TT.mono cN));have HV8:=aV ((TT.block V (by omega)).trans HV7.o);have HL8:=aV ((TT.block (V+1) (by omega)).trans HL7.o);have YG:=aV hsl;have hz8:V+3<=w8:=by have:=F1.size;simp[hz7]at this;omega
 clear F1 hsl TT y0 y1 y2;have v0:=λo=>aY ((((ay _ w8).alloc cN o).block V (by omega)).trans HV8.o) 0;have v1:=λo=>aY ((((ay _ w8).alloc cN o).block V (by omega)).trans HV8.o) 1;have v2:=λo=>bM ((((ay _ w8).alloc cN o).block V (by omega)).trans HV8.o);have hVl:V<w8:=by omega
 have qg3:V+1<w8:=by omega
 go_upto_region 11 with fail;clear v0 v1 v2;have⟨W10,hW10⟩:=dd ((w8.setCell (V,0) true).alloc (dP l.bu.aX (xL ga (bV l v).aW.length gc)));have hO8:bh (λi=>i=V) w8 W10:=by rw[hW10];exact((bh.refl (λi=>i=V) w8).setCell (.inl rfl) _).alloc _
 have qaz:W10.heap.size=[w8]:=by rw[hW10];simp
 have rQ:Hd (Bx w [vz false () (),SV k v] W10):=HB8.o.only hO8 (by rintro i rfl;simp;omega);have TU:=aV (show cX W10 V (vz true () ())by rw[hW10];exact(((ay _ (w8.setCell (V,0) true)).alloc cN _).block V (by simp;omega)).trans (aA w8 V 0 _ _ _ HV8.o));have qeg:Hd (cX W10 (V+1) (dG l.bu.aX (xL fa l.bu.aW.length fc) (xL ca l.bo.length cc))):=hO8.at_ HL8.o (by omega);have JN:=aV (show ed W10 w8 (dP l.bu.aX (xL ga (bV l v).aW.length gc))by
  rw[hW10];have:=az (w8.setCell (V,0) true) (dP l.bu.aX (xL ga (bV l v).aW.length gc));simpa using this);have Xv:Hd (aS (Mr M w (V+2)) W10 (xL ga (bV l v).aW.length gc) (bV l v).aW):=YG.o.ev ⟨hO8.mono (λi hi=> .inr ⟨by omega,by omega⟩),λj hj=> .inl hj⟩;unfold dP at hW10;rw[<-hW10];clear hW10 hO8;generalize hCC:w8.heap.size=C at*;have JN:=aV (show cX W10 C (dP l.bu.aX (xL ga (bV l v).aW.length gc))by first|exact JN.o|(rw[<-hCC];exact JN.o));clear hCC;have⟨y0,y1⟩:=aZ JN.o;have v0:=λo=>aY ((((ay _ W10).alloc cN o).block V (by omega)).trans TU.o) 0;have v1:=λo=>aY ((((ay _ W10).alloc cN o).block V (by omega)).trans TU.o) 1;have v2:=λo=>bM ((((ay _ W10).alloc cN o).block V (by omega)).trans TU.o);have qg4:V<W10:=by omega
 go_upto_region 12 with fail;clear v0 v1 v2 y0 y1;have⟨W11,hW11⟩:=dd ((W10.setCell (V,1) (xL (C+1,0) 1 1)).alloc (xK #[l.bu.aX,xL ga (bV l v).aW.length gc,()] 72));have Rr:bh (λi=>i=V) W10 W11:=by rw[hW11];exact((bh.refl (λi=>i=V) W10).setCell (.inl rfl) _).alloc _
 have qa8:W11=C+2:=by rw[hW11];simp[qaz]
 have F2:Hd (Bx w [vz false () (),SV k v] W11):=rQ.o.only Rr (by rintro i rfl;simp;omega);have Xw:=aV (show cX W11 V (vz true (xL (C+1,0) 1 1) ())by rw[hW11];exact(((ay _ (W10.setCell (V,1) (xL (C+1,0) 1 1))).alloc cN _).block V (by simp;omega)).trans (aA W10 V 1 _ _ _ TU.o));have qa9:Hd (cX W11 (V+1) (dG l.bu.aX (xL fa l.bu.aW.length fc) (xL ca l.bo.length cc))):=Rr.at_ qeg.o (by omega);have Xx:Hd (cX W11 C (dP l.bu.aX (xL ga (bV l v).aW.length gc))):=Rr.at_ JN.o (by omega);have qeh:Hd (aS (Mr M w (V+2)) W11 (xL ga (bV l v).aW.length gc) (bV l v).aW):=Xv.o.ev ⟨Rr.mono (λi hi=> .inr ⟨by omega,by omega⟩),λj hj=> .inl hj⟩;have TV:=aV (show cX W11 (C+1) (xK #[l.bu.aX,xL ga (bV l v).aW.length gc,()] 72)by
  rw[hW11];have:=az (W10.setCell (V,1) (xL (C+1,0) 1 1)) (xK #[l.bu.aX,xL ga (bV l v).aW.length gc,()] 72);simpa [qaz]using this);rw[<-hW11];clear hW11 Rr;have qg5:V<W11:=by omega
 have⟨y0,y1⟩:=aZ Xx.o;have y0':=λo=>(aZ ((((ay _ W11).alloc cN o).block C (by omega)).trans Xx.o)).1;have y1':=λo=>(aZ ((((ay _ W11).alloc cN o).block C (by omega)).trans Xx.o)).2;have z2:=(bM qa9.o).2.2;have z2':=λo=>(bM ((((ay _ W11).alloc cN o).block (V+1) (by omega)).trans qa9.o)).2.2;have v0:=λo=>aY ((((ay _ W11).alloc cN o).block V (by omega)).trans Xw.o) 2;have v2:=λo=>bM ((((ay _ W11).alloc cN o).block V (by omega)).trans Xw.o);have⟨_,_,ecc,hlc,hmc,_⟩:=wN.o.bj;cases ecc;have j0:(0:Int)<=(v:Int):=an _;have j1:(v:Int)<=(l.bo.length:Int):=by omega
 have j2:v<=cc:=by omega
 go_cut [](λwx=>∃ap cp,Hd (aS M w (xL ap (l.bo.length-v) cp) (l.bo.drop v))/\wx=((W11.alloc (xK #[l.bu.aX,xL ga (bV l v).aW.length gc,xL ap (l.bo.length-v) cp] 72)).setCell (V,2) (xL (C+2,0) 1 1)).drew)
 .go_region_law fail;all_goals go_wp2_with fail
  all_goals go_meet
  all_goals
   have hfr:=Q2.o;rw[show bD.size bK=8 from rfl]at hfr;by_cases hcv:cc=v
   .rw[if_pos hcv,show cc-v=0 from by omega]at hfr;first
     |exact⟨_,_,aV hfr,rfl⟩
     |(exfalso;omega)
     |(exfalso;simp_all;done)
   rw[if_neg hcv]at hfr;first
    |exact⟨_,_,aV hfr,rfl⟩
    |(exfalso;omega)
    |(exfalso;simp_all;done)
 obtain⟨ap,cp,NQ,hwx⟩:=hcut;clear v0 v2 y0 y1 y0' y1' z2 z2';have hX:bh (λi=>i=V) W11 wc:=by rw[hwx];exact(((bh.refl (λi=>i=V) W11).alloc _).setCell (.inl rfl) _).drewN 1
 have qg6:wc=C+3:=by rw[hwx];show((W11.alloc _).setCell _ _).heap.size=_;simp[qa8]
 have rR:Hd (Bx w [vz false () (),SV k v] wc):=F2.o.only hX (by rintro i rfl;simp;omega);have Xy:=aV (show cX wc V (vz true (xL (C+1,0) 1 1) (xL (C+2,0) 1 1))by
  rw[hwx];exact aA _ V 2 _ _ _ ((cU.block V (by omega)).trans Xw.o));have qei:=aV (show cX wc (C+2) (xK #[l.bu.aX,xL ga (bV l v).aW.length gc,xL ap (l.bo.length-v) cp] 72)by
  rw[hwx,<-qa8];exact(aj _ _ _ _ (by simp;omega)).trans (az W11 _));have qba:Hd (aS (Mr M w (V+2)) wc (xL ga (bV l v).aW.length gc) (bV l v).aW):=qeh.o.ev ⟨hX.mono (λi hi=> .inr ⟨by omega,by omega⟩),λj hj=> .inl hj⟩;have qbb:Hd (aS (Mr M w (V+2)) wc (xL (C+2,0) 1 1) [fz l v]):=row_one (l:=fz l v) (t:=72) (by show cX wc (C+2) (xK #[xS (bV l v).aX,_,_] 72);rw[Yq.o.aX v];exact qei.o) (λh=>by
  rcases h with h|h
  .have:=mQ.o _ h;omega
  .omega) qba.o (by
  exact NQ.o.ev (II _ rR.o.1)) (by show(bV l v).aX.size<=_;rw[Yq.o.aX v];exact tM.o);have US:Hd (aS (Mr M w (V+2)) wc (xL (C+1,0) 1 1) [kK l v]):=row_one (l:=kK l v) (t:=72) (by show cX wc (C+1) (xK #[xS (bV l v).aX,_,_] 72);rw[Yq.o.aX v];exact hX.at_ TV.o (by omega)) (λh=>by
  rcases h with h|h
  .have:=mQ.o _ h;omega
  omega) qba.o (aS.nil _ _) (by show(bV l v).aX.size<=_;rw[Yq.o.aX v];exact tM.o);have hMP:cO IH wc b es clk:=(eh.o wc rR.o.1).2;have⟨wa,ea,ma,oa⟩:=cO.SO IH underlying225 tw Cq hMP ((k:Int),(v:Int)) (NJ (.slice (C+1,0) 1 1) (.slice (C+2,0) 1 1)) (Xt.o (by first|trivial|rfl));have⟨wb,eb,mb,ob⟩:=cO.SO (w:=wc.drew) IH underlying225 tw Cq hMP ((k:Int),(v:Int)) (NJ (.slice (C+1,0) 1 1) (.slice (C+2,0) 1 1)) (Xt.o (by first|trivial|rfl));have Gu:=aV (And.intro ma oa);have v8:=aV (And.intro mb (((bh.refl (λi=>i=b) wc).drewN 1).trans ob));unfold NJ at ea eb;clear hwx hX hMP ma mb oa ob;have g1:=(aZ (eh.o wc rR.o.1).1).2;have⟨d0,d1⟩:=aZ (rR.o.cZ rfl);have⟨v0,v1,v2⟩:=bM Xy.o;have⟨wr,hwr⟩:=dd (wc);rw[<-hwr]at Gu v8 rR Xy qbb US;have Gk:=aV hwr;clear hwr;go_upto_region 13 with fail;go_cut [](λwx=>Hd (cO IH wx b (es++[(((k:Int),(v:Int)),NJ (xL (C+1,0) 1 1) (xL (C+2,0) 1 1),clk)]) (clk+1)/\bh (λi=>i=b) wr wx))
 .go_region_law fail;all_goals go_wp2_with fail
  all_goals go_meet
  all_goals first|exact v8|exact Gu|trace_state
 have⟨mp,ho⟩:=hcut.o;clear v0 v1 v2 d0 d1 g1 ea eb;have hMB:=YK.o;have hb0:bC w wr:=rR.o.1;have hO:bh (λi=>i=b) w wc:=(bh.bA hb0).trans ho;have⟨v0,v1,v2⟩:=bM (ho.at_ Xy.o (by omega));have h0:=ho.at_ (rR.o.cP rfl) (by omega);have⟨r0,r1,r2⟩:=bM h0;have⟨f0,f1⟩:=nZ h0;have f2:=aY h0 2;have HMP:=aV mp;have HO:=aV hO;have TW:=aV ho;clear mp hO ho hcut h0;go_wp2_with fail;have oz:bh (λi=>i=w) wc (((wc.setCell (w,0) true).setCell (w,1) (xL (C+1,0) 1 1)).setCell (w,2) (xL (C+2,0) 1 1)):=(((bh.refl (λi=>i=w) wc).setCell (.inl rfl) _).setCell (.inl rfl) _).setCell (.inl rfl) _;have ozw:bh (λi=>i=b) w (((wc.setCell (w,0) true).setCell (w,1) (xL (C+1,0) 1 1)).setCell (w,2) (xL (C+2,0) 1 1)):=((HO.o.setCell (.inr cN) _).setCell (.inr cN) _).setCell (.inr cN) _;have hbM:=hMb;have UT:=(US.o.ev ⟨(TW.o.mono (T:=Mr M w (V+2)) (λi hi=> .inl (by subst hi;exact hbM))).trans (oz.mono (λi hi=> .inr (by omega))),λi hi=> .inl hi⟩).ev (Ev.eO (N:=M) _ λi hi=> .inl hi);have Ag:=(qbb.o.ev ⟨(TW.o.mono (T:=Mr M w (V+2)) (λi hi=> .inl (by subst hi;exact hbM))).trans (oz.mono (λi hi=> .inr (by omega))),λi hi=> .inl hi⟩).ev (Ev.eO (N:=M) _ λi hi=> .inl hi);refine ah (v:=NJ (xL (C+1,0) 1 1) (xL (C+2,0) 1 1)) (by simp[results,results141,go_sem,r0,r1,r2,NJ]) rfl ⟨⟨_,_,_,_,rfl,Ag,UT⟩,?_,ozw⟩;refine⟨ozw.at_ ik.o.cell wO,ik.o.bH.ev ⟨ozw.mono (λi hi=>by subst hi;exact hbM),λi hi=> .inl hi⟩,_,_,oz.at_ HMP.o (by omega),λx val hx=> ?_⟩;rw[uE _ (Xt.o (by first|trivial|rfl))]at hx;by_cases hxe:x=((k:Int),(v:Int))
 .rw[if_pos hxe]at hx;cases hx;exact⟨k,v,l,_,_,_,_,_,_,hxe,hk,hv,rfl,Ag,UT⟩
 rw[if_neg hxe]at hx;have⟨k',v',l',a1,a2,n1,c1,n2,c2,e1,e2,e3,e4,e6,e7⟩:=HES.o _ _ hx;exact⟨k',v',l',a1,a2,n1,c1,n2,c2,e1,e2,e3,e4,e6.ev ⟨ozw.mono (λi hi=>by subst hi;exact hbM),λi hi=> .inl hi⟩,e7.ev ⟨ozw.mono (λi hi=>by subst hi;exact hbM),λi hi=> .inl hi⟩⟩
def EW {l:bQ}(hl:ff l):eS [l]:=by
 refine⟨by simp,?_,?_⟩
 .intro x hx;rcases aR.1 hx with rfl;exact hl
 intro i x hi;match i,hi with
 |0,hi=>simp at hi;subst hi;simp[ek,dh,idxOf]
 |i+1,hi=>simp at hi
def IJ(ls:List bQ)(h:eS ls)(k:Nat)(l:bQ)(hk:ls[k]? =some l)(x:cm)(v:Nat)(br:Int)(hm:br<=100000)(hc:x.dz=k)(hvv:x.dB=v)(C7:v<=l.bo.length)(hx:Hk br x)(hv:cD (bV l v).aW br x.bR)(M:bY)(w0 w:bq)(hM:Bd M w)(hG:Gd w0)(hb0:bC w0 w)(p b:Nat)(wO:p≠b)(hMb:M b)(hb:w0<=b)(sv vv:bt)(hB:kj ls M p b sv w)(hvs:aS M w vv x.bR):
 xC 61 #[xP p, .agg #[x.id,x.dz,x.dB,vv]] w λe w'=>(∃us uv,e=xR (.tuple #[.agg #[x.id,k,l.bo.length,uv],true])/\kR (bV l v) (l.bo.drop v) br x.bR us/\aS M w' uv us)/\kj ls M p b sv w'/\bh (λi=>i=b) w w':=by
 have rI:=h.bH l (ai hk);have hfr:=rI.from_ v;have HVW:Hd (∀W,bC w W->w.heap.size+2<=W->_):=λW hb1 h2=>Ks ls h k l hk v C7 (eo M w 2) W (dZ hM h2) ((hG.aT hb0).aT hb1) p b wO (.inl hMb) sv (hB.ev (dH hb1) (hb1.block _ (ab.1 hB.cell).1) (hb1.block _ (hM b hMb)));have Xz:Hd (∀W u,bC w0 W->w.heap.size+2<=W->aS (eo M w 2) W u [fz l v]->aS (eo M w 2) W vv x.bR->xC 142 #[.agg #[u], .agg #[x.id,xI 0,xI 0,vv]] W (de W λr w'=>∃us uv,r= .tuple #[.agg #[x.id,xI 0,xI ((l.bo.length-v:Nat):Int),uv],xI 0]/\kR (bV l v) (l.bo.drop v) br x.bR us/\aS (eo M w 2) w' uv us)):=λW u h1 h2 h3 h4=>by
  have hh:=IG [fz l v] (EW hfr) 0 (fz l v) rfl ⟨x.id,0,0,x.bR⟩ 0 br hm rfl rfl (ax _) ⟨hx.id1,hx.id2,Int.le_refl _,by show(0:Int)<8;omega,Int.le_refl _,by show(0:Int)<=12;omega,hx.bR,hx.len⟩ (by rw[pS];exact hv) (eo M w 2) W (dZ hM h2) (hG.aT h1) u vv h3 h4;rw[pS,show v+0=v from rfl,show(fz l v).bo.drop 0=l.bo.drop v from rfl,show((fz l v).bo.length:Int)=((l.bo.length-v:Nat):Int)from by simp[fz]]at hh;exact hh
 obtain⟨xi,xc,xv,xs⟩:=x;dsimp only at*;subst hc;subst hvv;obtain⟨va,vc,rfl,_⟩:=hvs.bj;have zy:=aV hvs;have ik:=aV hB;have qW:=aV hb0;have BB:=aV hb;have YK:=aV (hM b hMb);have i0:(0:Int)<=(v:Int):=an _;have i1:(v:Int)<=(l.bo.length:Int):=by omega
 have i2:(l.bo.length:Int)<=12:=by have:=rI.len;omega
 have i3:IntKind.i64.wrap (((l.bo.length-v:Nat):Int)+(v:Int))=(l.bo.length:Int):=by
  rw[show((l.bo.length-v:Nat):Int)+(v:Int)=(l.bo.length:Int)from by omega];exact aw _ (by omega)
 have dp:=aV (Bx.ei w (eV ⟨xi,(k:Int),(v:Int),xs⟩ (xL va xs.length vc)) (eV ⟨0,0,0,[]⟩ ()));have⟨o0,o1,o2,o3⟩:=aU (dp.o.cP rfl);clear hvs hB hb0 hb h hG rI hfr hx hv;delta xC;go_in;go_wp2_with fail;refine(HVW.o _ dp.o.1 dp.o.cM).mono ?_;rintro e w1⟨⟨KR,KS,KT,s2,rfl,hs2,-⟩,hbk,ho1⟩;obtain⟨a2,c2,rfl,_⟩:=hs2.bj;unfold NJ;have hMB:=YK.o;have hz1:w.heap.size+2<=w1:=aH (by simp) ho1.size;have FY:=aV hbk;have iy:=aV hs2;have ho2:bh (λi=>i=b) w w1:=(bh.bA dp.o.1).trans ho1;have rU:=aV ho2;have cu:Hd (bC w0 w1):=cr qW.o qW.o.size ho2 (λi hi=>by subst hi;exact BB.o);have NA:Hd (ed w1 w (eV ⟨xi,(k:Int),(v:Int),xs⟩ (xL va xs.length vc))):=ho1.at_ (dp.o.cP rfl) (by omega);have wN:Hd (cX w1 [w] (eV ⟨0,0,0,[]⟩ ())):=ho1.at_ (dp.o.cZ rfl) (by omega);have XA:Hd (aS (eo M w 2) w1 (xL va xs.length vc) xs):=(zy.o.ev (dH dp.o.1)).ev ⟨ho1.mono (λi hi=> .inl (by subst hi;exact hMb)),λi hi=> .inl hi⟩;clear o0 o1 o2 o3 hbk hs2 ho1 ho2;have cJ:∀o i(h:i<w1.heap.size),(w1.alloc o).heap[i]? =w1.heap[i]? :=λo i h=>((ay _ w1).alloc cN o).block i h;have x0:=λo=>aU ((cJ o w (by omega)).trans NA.o);have f1:=λo=>aY ((cJ o w (by omega)).trans NA.o) 1;have f2:=λo=>aY ((cJ o w (by omega)).trans NA.o) 2;have cE:w.heap.size<w1:=by omega
 clear cJ;go_upto_region 4 with fail;go_quiet(fail);go_upto_region 6 with fail;clear x0 f1 f2;have⟨W6,hW6⟩:=dd ((((w1.alloc (vz true (xL KR KS KT) (xL a2 1 c2))).drewN nq).setCell (w,1) (xI 0)).setCell (w,2) (xI 0));have O6:bh (λi=>i=w) w1 W6:=by rw[hW6];exact((((bh.refl (λi=>i=w) w1).alloc _).drewN nq).setCell (.inl rfl) _).setCell (.inl rfl) _
 have hz6:W6.heap.size=[w1]:=by
  rw[hW6];have:((w1.alloc (vz true (xL KR KS KT) (xL a2 1 c2))).drewN nq).heap.size=[w1]:=by show(w1.alloc _).heap.size=_;simp
  simp[this]
 have HD0:=aV (show ed W6 w (eV ⟨xi,0,0,xs⟩ (xL va xs.length vc))by
  rw[hW6];exact aA _ _ 2 _ _ _ (aA _ _ 1 _ _ _ ((cU.block w (by omega)).trans NA.o)));have TS:=aV (show ed W6 w1 (vz true (xL KR KS KT) (xL a2 1 c2))by
  rw[hW6];exact(aj _ _ _ _ (by simp;omega)).trans ((aj _ _ _ _ (by simp;omega)).trans (az w1 _)));have HD1:Hd (cX W6 [w] (eV ⟨0,0,0,[]⟩ ())):=O6.at_ wN.o (by omega);have ph:Hd (bC w0 W6):=cr cu.o cu.o.size O6 (λi hi=>by subst hi;exact qW.o.size);have e6:Ev (eo M w 2) w1 (eo M w 2) W6:=⟨O6.mono (λi hi=> .inr ⟨by omega,by omega⟩),λi hi=> .inl hi⟩;have vL:=aV (iy.o.ev e6);have XB:=aV (XA.o.ev e6);have RQ:=aV O6;have cI:=aV (Xz.o W6 _ ph.o (by omega) vL.o XB.o);unfold vz at hW6;rw[<-hW6];clear hW6 O6 e6;have⟨x0,x1,x2,x3⟩:=aU HD0.o;have⟨y0,y1,y2⟩:=bM TS.o;go_wp2_with fail;refine(cI.o).mono ?_;rintro e w7⟨_,rfl,⟨us,uv,rfl,Rq,hsl⟩,gw⟩;obtain⟨ya,yc,rfl,_⟩:=hsl.bj;have Xs:=aV Rq;have gS:=aV hsl;have og:=aV gw;have hz7:w1.heap.size+1<=w7:=by have:=gw.size;omega
 have HE1:=aV ((gw.block _ (by omega)).trans HD1.o);clear x0 x1 x2 x3 y0 y1 y2 Rq hsl gw;have hl1:w.heap.size+1<w7:=by omega
 go_upto_region 11 with fail;have⟨WA,hWA⟩:=dd (w7.alloc (eV ⟨xi,(k:Int),(l.bo.length:Int),us⟩ (xL ya us.length yc)));have hba:bC w7 WA:=by rw[hWA];exact cU
 have YO:=aV (show ed WA w7 (eV ⟨xi,(k:Int),(l.bo.length:Int),us⟩ (xL ya us.length yc))by rw[hWA];exact az w7 _);have hEA:=(hba.block _ hl1).trans HE1.o;have HBA:=aV hba;unfold eV at hWA;rw[<-hWA];clear hWA hba;have⟨x0,x1,x2,x3⟩:=aU YO.o;have⟨r0,r1,r2,r3⟩:=aU hEA;have⟨g0,g1,g2,g3⟩:=iS hEA;clear hEA;go_wp2_with fail;have hp:=(ab.1 ik.o.cell).1;have o0:bh (λi=>i=w\/i=[w]) w1 WA:=(RQ.o.mono (λi hi=> .inl hi)).trans (bh.bA (og.o.trans (HBA.o.mono og.o.size)));have o1:=(((o0.setCell (p:=⟨[w],0,none⟩) (.inl (.inr rfl)) xi).setCell (p:=⟨[w],1,none⟩) (.inl (.inr rfl)) k).setCell (p:=⟨[w],2,none⟩) (.inl (.inr rfl)) l.bo.length).setCell (p:=⟨[w],3,none⟩) (.inl (.inr rfl)) (xL ya us.length yc);have o7:=((((bh.bA (S:=eo M w 2) HBA.o).setCell (p:=⟨[w],0,none⟩) (.inl (.inr ⟨by simp,by simp⟩)) xi).setCell (p:=⟨[w],1,none⟩) (.inl (.inr ⟨by simp,by simp⟩)) k).setCell (p:=⟨[w],2,none⟩) (.inl (.inr ⟨by simp,by simp⟩)) l.bo.length).setCell (p:=⟨[w],3,none⟩) (.inl (.inr ⟨by simp,by simp⟩)) (xL ya us.length yc);refine ah (v:= .tuple #[.agg #[xi,k,l.bo.length,xL ya us.length yc],true]) (by simp[results,results61,go_sem,r0,r1,r2,r3]) rfl ⟨⟨_,_,rfl,Xs.o,?_⟩,?_,?_⟩
 .exact(gS.o.ev ⟨o7,λi hi=> .inl hi⟩).ev (Ev.eO _ λi hi=> .inl hi)
 .exact(FY.o.ev ⟨o1.mono (λi hi=> .inr (by omega)),λi hi=> .inl hi⟩ (o1.block p (by omega) (by omega)) (o1.block b (by omega) (by omega))).ev (Ev.eO _ λi hi=> .inl hi) rfl rfl
 exact rU.o.dL o1 (λi hi cE=>by omega)
def VQ(hj:bC W2 W)(hb:Below (W.alloc o).heap.size (W.alloc o) w'):w'.heap[W.heap.size]? =some o/\W2.heap.size<=W:=⟨(hb.block _ (by simp)).trans (az W o),hj.size⟩
def Zs(hj:bC W2 W)(hb:Below (W.alloc o).drew.heap.size (W.alloc o).drew w'):w'.heap[W.heap.size]? =some o/\W2.heap.size<=W:=⟨(hb.block _ (by show W.heap.size<(W.alloc o).heap.size;simp)).trans (az W o),hj.size⟩
def Zt(hj:bC W2 W)(hb:Below (W.drew.alloc o).heap.size (W.drew.alloc o) w'):w'.heap[W.heap.size]? =some o/\W2.heap.size<=W:=⟨(hb.block _ (by show W.heap.size<(W.alloc o).heap.size;simp)).trans (az W.drew o),hj.size⟩
def zdB(h:cX W K o/\W2<=K)(hb:bC W w'):w'.heap[K]? =some o/\W2<=K:=⟨(hb.block K (ab.1 h.1).1).trans h.1,h.2⟩
def VR(hb:Below (W.alloc o).heap.size (W.alloc o) w'):bC W w':=((ay _ W).alloc cN o).trans (hb.mono (by simp))
def Zu(hb:Below (W.alloc o).drew.heap.size (W.alloc o).drew w'):bC W w':=((ay _ W).alloc cN o).drew.trans (hb.mono (by show W.heap.size<=(W.alloc o).heap.size;simp))
def Zv(hb:Below (W.drew.alloc o).heap.size (W.drew.alloc o) w'):bC W w':=((ay _ W).drew.alloc cN o).trans (hb.mono (by show W.heap.size<=(W.alloc o).heap.size;simp))
def VS(hb:Below W.drew.heap.size W.drew w'):bC W w':=(ay _ W).drew.trans hb
def VT(M:bY)(w W2:bq)(nm:bS)(fs:List bJ)(K:Nat)(ya:fM)(yc:Nat)(wx:bq):Prop:=
 wx.heap[K]? =some (dP nm (xL ya fs.length yc))/\aS (eo M w 2) wx (xL ya fs.length yc) fs/\bC W2 wx/\W2<=K
def VU {fs:List bJ}(hb:bC W2 w3)(hs:aS (eo M w 2) w3 (xL ya fs.length yc) fs):
 VT M w W2 nm fs w3 ya yc (w3.alloc (xK #[nm,xL ya fs.length yc] 53)):=
 ⟨az w3 _,hs.ev ((Ev.refl _ _).alloc _),hb.alloc hb.size _,hb.size⟩
def VV {fs:List bJ}(hb:bC W2 w3)(hs:aS (λi=>eo M w 2 i\/i=K) w3 (xL ya fs.length yc) fs)(hz:cX w3 K (dP () ())/\W2<=K):
 VT M w W2 nm fs K ya yc ((w3.setCell (K,0) nm).setCell (K,1) (xL ya fs.length yc)):=
 ⟨sD hz.1 _ _,(hs.ev (((Ev.refl _ _).setCell (.inl (.inr rfl)) _).setCell (.inl (.inr rfl)) _)).ev (Ev.eO _ λi hi=> .inl hi),(hb.setCell (p:=⟨K,0,none⟩) hz.2 _).setCell (p:=⟨K,1,none⟩) hz.2 _,hz.2⟩
def qcq {P:bY}{w4:bq}{α:Type} [bD α]{xs:List α}(h:cX w3 K o/\W2<=K)(hb:bC w3 w4)(hs:aS (λi=>P i\/(W2<=i/\i<w3)) w4 v xs):(cX w4 K o/\W2<=K)/\aS (λi=>P i\/i=K) w4 v xs:=
 ⟨zdB h hb,hs.ev (Ev.eO _ λi hi=>hi.imp_right λe=>by subst e;exact⟨h.2,(ab.1 h.1).1⟩)⟩
def qcr {P:bY}{w4:bq}{α:Type} [bD α]{xs:List α}(hj:bC W2 w3)(hb:Below (w3.alloc o).heap.size (w3.alloc o) w4)(hs:aS (λi=>P i\/(W2<=i/\i<(w3.alloc o).heap.size)) w4 v xs):(ed w4 w3 o/\W2.heap.size<=w3)/\aS (λi=>P i\/i=w3) w4 v xs:=
 ⟨VQ hj hb,hs.ev (Ev.eO _ λi hi=>hi.imp_right λe=>by subst e;exact⟨hj.size,by simp⟩)⟩
def qcs {w4:bq}(hj:bC W2 w3)(hb:Below (w3.alloc o).heap.size (w3.alloc o) w4):bC W2 w4:=hj.trans ((VR hb).mono hj.size)
def qct {w4:bq}(hj:bC W2 w3)(hb:bC w3 w4):bC W2 w4:=hj.trans (hb.mono hj.size)
def EZ(l:bQ)(h1:eS [l])(x:cm)(br:Int)(hm:br<=100000)(hc:x.dz=0)(hvv:x.dB=0)(hx:Hk br x)(hv:cD (bV l 0).aW br x.bR)(M:bY)(w:bq)(hM:Bd M w)(hG:Gd w)(sv vv:bt)(hs:aS M w sv [l])(hvs:aS M w vv x.bR):
 xC 167 #[.agg #[sv], .agg #[x.id,x.dz,x.dB,vv]] w (di true w):=by
 have rI:=h1.bH l (by simp);have Gg:=ie (w:=w) (λW hb=>qF [l] h1 M W (hM.aT hb) (hG.tb.aT hb) sv (hs.aT hb));have WM:=ie (w:=w) (λW hb=>DO x br hm hx M W (hM.aT hb) vv (hvs.aT hb) (hG.tb.aT hb));have HA:Hd (∀(N:bY)W,bC w W->(∀i,N i->M i\/w.heap.size<=i)->xC 210 #[.agg #[sv],xI 0] W (de W λv w'=>∃u,v= .agg #[u]/\aS N w' u [l])):=λN W hb hN=>EV [l] 0 l rfl (by simp) N W sv (hs.ev ⟨bh.bA hb,hN⟩);have uN:Hd (∀(W2 W:bq)u,bC w W->w.heap.size+2<=W->aS (λi=>eo M w 2 i\/W2<=i) W u [l]->xC 155 #[.agg #[u],xI 0,xI 0] W (de W λv w'=>∃kF,v= .tuple #[.agg #[l.bu.aX,kF],xI 0]/\aS (λi=>eo M w 2 i\/(W2<=i/\i<W)) w' kF (bV l 0).aW)):=λW2 W u hb h2 hu=>IE [l] h1 0 l rfl 0 (ax _) (λi=>eo M w 2 i\/(W2<=i/\i<W.heap.size)) W (λi hi=>by
  rcases hi with(hi|hi)|hi
  .have:=hM i hi;have:=hb.size;omega
  .omega
  exact hi.2) (hG.tb.aT hb) u (hu.ev (Ev.eO _ λi hi=>hi.imp_right λe=>e.1));have nV:Hd (∀W fv,bC w W->aS (eo M w 2) W fv (bV l 0).aW->_):=λW fv hb hf=>jd (bV l 0) (rI.lr 0).right (by rw[rI.aX 0];have⟨_,_,_,_,_,_,_,_,_,_,_,h,_⟩:=fp hs (k:=0) rfl;exact h) br hm x.bR hv (eo M w 2) W fv vv hf (hvs.ev (dH hb)) (hG.tb.aT hb);have hnm:=rI.aX 0;obtain⟨a,cY,rfl,dN,hmx,_⟩:=hs.bj;obtain⟨va,vc,rfl,_⟩:=hvs.bj;obtain⟨xi,xc,xv,xs⟩:=x;dsimp only at*;subst hc;subst hvv;rw[hnm]at nV;have HM:=aV hM;have dp:=aV (Bx.ei w (iq (xL a [l].length cY)) (eV ⟨xi,0,0,xs⟩ (xL va xs.length vc)));have c0:=one_cell (dp.o.cP rfl);have⟨o0,o1,o2,o3⟩:=aU (dp.o.cZ rfl);simp only[aC,aD,Nat.zero_add]at*;delta xC;go_in;go_wp2_with fail;refine dx (Gg.o _ dp.o.1) λw1 hb1=> ?_;have cu:=aV (dp.o.aT hb1);have c0:=one_cell (cu.o.cP rfl);have⟨o0,o1,o2,o3⟩:=aU (cu.o.cZ rfl);go_wp2_with fail;refine dx (WM.o _ cu.o.1) λw2 cJ=> ?_;have bZ:=aV (cu.o.aT cJ);have c0:=one_cell (bZ.o.cP rfl);have⟨o0,o1,o2,o3⟩:=aU (bZ.o.cZ rfl);go_upto_region 6 with fail;have eh:Hd (∀W,bC w2 W->oT W w 0 (xL a 1 cY)/\zB W w 1 (xI 0)/\zB W w 2 (xI 0)):=λW hb=>by
  have h:=bZ.o.aT hb;have h4:=aU (h.cZ rfl);exact⟨one_cell (h.cP rfl),h4.2.1,h4.2.2.1⟩
 have ij:Hd (bC w w2):=bZ.o.1;have BH:Hd (w.heap.size+2<=w2):=bZ.o.cM;have HJ:Hd (bC w2 w2):=eH;have zZ:Hd (∀i,(eo M w 2 i\/w2.heap.size<=i)->M i\/w.heap.size<=i):=λi hi=>by
  have h1:=BH.o;rcases hi with(hi|hi)|hi
  .exact .inl hi
  .right;omega
  right;omega
 go_cut [7,8](λs7 s8 wx=>∃(K:Nat)(ya:fM)(yc:Nat),s7=xP K/\s8=xI 0/\Hd (VT M w w2 l.bu.aX (bV l 0).aW K ya yc wx))
 .go_region_held3(λw'=>w'.cell? (w,0)=some (xL a 1 cY)/\w'.cell? ([w],1)=some (xI 0)/\w'.cell? ([w],2)=some (xI 0))
   (with_reducible first|exact eh.o _ pC.o|exact eh.o _ ee.o|exact eh.o _ ee.o.drew|exact eh.o _ HJ.o|exact eh.o _ HJ.o.drew|exact eh.o _ (ee.o.alloc ee.o.size _)|exact eh.o _ (HJ.o.alloc HJ.o.size _)|exact eh.o _ (HJ.o.alloc HJ.o.size _).drew|exact eh.o _ (HJ.o.drew.alloc HJ.o.size _)|exact eh.o _ (pC.o.alloc pC.o.size _)|exact eh.o _ ((pC.o.setCell UW.o.1.2 _).setCell UW.o.1.2 _)|fail)
   (first
     |(go_at_call 210;refine(HA.o (λi=>eo M w 2 i\/w2<=i) _ (by with_reducible first|exact ij.o.drew|exact ij.o|exact ij.o.alloc ij.o.size _|exact(ij.o.alloc ij.o.size _).drew|exact ij.o.drew.alloc ij.o.size _) zZ.o).mono ?_;rintro e w3⟨_,rfl,⟨u,rfl,hu⟩,hb3⟩;obtain⟨a1,c1,rfl,_⟩:=hu.bj;have HU:Hd (aS (λi=>eo M w 2 i\/w2<=i) w3 (xL a1 1 c1) [l]):=hu;try(with_reducible(have CR:=aV (VQ HJ.o hb3)))
       try(with_reducible(have CR:=aV (Zs HJ.o hb3)))
       try(with_reducible(have CR:=aV (Zt HJ.o hb3)))
       have ee:Hd (bC w2 w3):=(by with_reducible first|exact aV hb3|exact aV (VS hb3)|exact aV (VR hb3)|exact aV (Zu hb3)|exact aV (Zv hb3));clear hb3 hu)
     |(go_at_call 155;first
       |(with_reducible refine(uN.o w2 _ _ (ij.o.trans (ee.o.mono ij.o.size)) (aH BH.o ee.o.size) HU.o).mono ?_)
       |(with_reducible refine(uN.o w2 _ _ ((ij.o.trans (ee.o.mono ij.o.size)).alloc (aH ij.o.size ee.o.size) _) (aH (aH BH.o ee.o.size) (by simp)) (HU.o.aT cU)).mono ?_)
       |fail
       rintro e w4⟨_,rfl,⟨fv,rfl,hf⟩,eZ⟩;obtain⟨ya,yc,rfl,-⟩:=hf.bj;have JF:=aV (aS.ev hf (Ev.eO (N:=eo M w 2) _ λi hi=> .inl hi));try(with_reducible(have UW:=aV (qcq CR.o eZ hf)))
       try(with_reducible(have UW:=aV (qcr ee.o eZ hf)))
       try(have g0:=aY UW.o.1.1 0)
       try(have g1:=aY UW.o.1.1 1)
       try(have hq:=aZ UW.o.1.1)
       have pC:Hd (bC w2 w4):=(by with_reducible first|exact aV (qct ee.o eZ)|exact aV (qcs ee.o eZ));clear eZ hf)
     |fail);all_goals(go_wp2;go_meet)
  all_goals first
   |exact⟨_,_,_,rfl,rfl,aV (VV pC.o UW.o.2 UW.o.1)⟩
   |exact⟨_,_,_,rfl,rfl,aV (VU pC.o JF.o)⟩
   |trace_state
 obtain⟨K,ya,yc,rfl,rfl,HC⟩:=hcut;have⟨hC1,hC2,hC3,hC4⟩:=HC.o;have cR:=aV (bZ.o.aT hC3);have⟨d0,d1⟩:=aZ hC1;have⟨o0,o1,o2,o3⟩:=aU (cR.o.cZ rfl);have HF:=aV hC2;go_wp2_with fail;refine dx (nV.o _ _ cR.o.1 HF.o) λw4 eZ=> ?_;have fh:=aV (cR.o.aT eZ);go_wp2;go_ret;exact⟨rfl,fh.o.1⟩
def IP {l:bQ}(h:ff l)(v:Nat):ff (kK l v):=⟨h.lr v,by simp[kK],_, .nil _⟩
def IQ(l:bQ)(v:Nat):bV (kK l v) 0=bV l v:=rfl
def Ms(ls:List bQ)(h:eS ls)(k:Nat)(l:bQ)(hk:ls[k]? =some l)(x:cm)(v:Nat)(br:Int)(hm:br<=100000)(hc:x.dz=k)(hvv:x.dB=v)(C7:v<=l.bo.length)(hx:Hk br x)(hv:cD (bV l v).aW br x.bR)(M:bY)(w0 w:bq)(hM:Bd M w)(hG:Gd w0)(hb0:bC w0 w)(p b:Nat)(wO:p≠b)(hMb:M b)(hb:w0<=b)(sv vv:bt)(hB:kj ls M p b sv w)(hvs:aS M w vv x.bR):
 xC 88 #[xP p, .agg #[x.id,x.dz,x.dB,vv]] w λe w'=>e=xR true/\kj ls M p b sv w'/\bh (λi=>i=b) w w':=by
 have rI:=h.bH l (ai hk);have HVW:Hd (∀W,bC w W->w.heap.size+1<=W->_):=λW hb1 h2=>Ks ls h k l hk v C7 (eo M w 1) W (dZ hM h2) ((hG.aT hb0).aT hb1) p b wO (.inl hMb) sv (hB.ev (dH hb1) (hb1.block _ (ab.1 hB.cell).1) (hb1.block _ (hM b hMb)));have Xz:Hd (∀W u,bC w0 W->w.heap.size+1<=W->aS (eo M w 1) W u [kK l v]->aS (eo M w 1) W vv x.bR->xC 167 #[.agg #[u], .agg #[x.id,xI 0,xI 0,vv]] W (di true W)):=λW u h1 h2 h3 h4=>
  EZ (kK l v) (EW (IP rI v)) ⟨x.id,0,0,x.bR⟩ br hm rfl rfl ⟨hx.id1,hx.id2,Int.le_refl _,by show(0:Int)<8;omega,Int.le_refl _,by show(0:Int)<=12;omega,hx.bR,hx.len⟩ (by rw[IQ];exact hv) (eo M w 1) W (dZ hM h2) (hG.aT h1) u vv h3 h4;obtain⟨xi,xc,xv,xs⟩:=x;dsimp only at*;subst hc;subst hvv;obtain⟨va,vc,rfl,_⟩:=hvs.bj;have zy:=aV hvs;have ik:=aV hB;have qW:=aV hb0;have BB:=aV hb;have YK:=aV (hM b hMb);have dp:=aV (Bx.fm w (eV ⟨xi,(k:Int),(v:Int),xs⟩ (xL va xs.length vc)));have⟨o0,o1,o2,o3⟩:=aU (dp.o.cP rfl);clear hvs hB hb0 hb h hG rI hx hv;delta xC;go_in;go_wp2_with fail;refine(HVW.o _ dp.o.1 dp.o.cM).mono ?_;rintro e w1⟨⟨KR,KS,KT,s2,rfl,hs2,hs1⟩,hbk,ho1⟩;obtain⟨a2,c2,rfl,_⟩:=hs2.bj;unfold NJ;have hMB:=YK.o;have hz1:w.heap.size+1<=w1:=aH (by simp) ho1.size;have FY:=aV hbk;have re:=aV hs1;have ho2:bh (λi=>i=b) w w1:=(bh.bA dp.o.1).trans ho1;have rU:=aV ho2;have cu:Hd (bC w0 w1):=cr qW.o qW.o.size ho2 (λi hi=>by subst hi;exact BB.o);have NA:Hd (ed w1 w (eV ⟨xi,(k:Int),(v:Int),xs⟩ (xL va xs.length vc))):=ho1.at_ (dp.o.cP rfl) (by omega);have XA:Hd (aS (eo M w 1) w1 (xL va xs.length vc) xs):=(zy.o.ev (dH dp.o.1)).ev ⟨ho1.mono (λi hi=> .inl (by subst hi;exact hMb)),λi hi=> .inl hi⟩;clear o0 o1 o2 o3 hbk hs2 hs1 ho1 ho2;go_upto_region 2 with fail;have⟨W5,hW5⟩:=dd (w1.alloc (vz true (xL KR KS KT) (xL a2 1 c2)));have iz:bC w1 W5:=by rw[hW5];exact cU
 have Yv:Hd (ed W5 w (eV ⟨xi,(k:Int),(v:Int),xs⟩ (xL va xs.length vc))):=(iz.block w (by omega)).trans NA.o;have Xm:=aV (show ed W5 w1 (vz true (xL KR KS KT) (xL a2 1 c2))by rw[hW5];exact az w1 _);have hz5:W5.heap.size=[w1]:=by rw[hW5];simp
 have KJ:Hd (bh (λi=>i=w) w1 W5):=bh.bA iz;unfold vz at hW5;rw[<-hW5];clear hW5 iz;have⟨x0,x1,x2,x3⟩:=aU Yv.o;have f1:=aY Yv.o 1;have f2:=aY Yv.o 2;go_upto_region 3 with fail;clear x0 x1 x2 x3 f1 f2;have⟨W6,hW6⟩:=dd ((W5.setCell (w,1) (xI 0)).setCell (w,2) (xI 0));have O6:bh (λi=>i=w) w1 W6:=by rw[hW6];exact(KJ.o.setCell (.inl rfl) _).setCell (.inl rfl) _
 have hz6:W6.heap.size=[w1]:=by rw[hW6];simp[hz5]
 have HD0:=aV (show ed W6 w (eV ⟨xi,0,0,xs⟩ (xL va xs.length vc))by
  rw[hW6];exact aA _ _ 2 _ _ _ (aA _ _ 1 _ _ _ Yv.o));have TS:=aV (show ed W6 w1 (vz true (xL KR KS KT) (xL a2 1 c2))by
  rw[hW6];exact(aj _ _ _ _ (by simp;omega)).trans ((aj _ _ _ _ (by simp;omega)).trans Xm.o));have ph:Hd (bC w0 W6):=cr cu.o cu.o.size O6 (λi hi=>by subst hi;exact qW.o.size);have e6:Ev (eo M w 1) w1 (eo M w 1) W6:=⟨O6.mono (λi hi=> .inr ⟨by omega,by omega⟩),λi hi=> .inl hi⟩;have vL:=aV (re.o.ev e6);have XB:=aV (XA.o.ev e6);have RQ:=aV O6;have cI:=aV (Xz.o W6 _ ph.o (by omega) vL.o XB.o);rw[<-hW6];clear hW6 O6 e6;have⟨x0,x1,x2,x3⟩:=aU HD0.o;have⟨y0,y1,y2⟩:=bM TS.o;go_wp2_with fail;refine dx (cI.o) λw7 gw=> ?_;have og:=aV gw;clear x0 x1 x2 x3 y0 y1 y2 gw;go_wp2_with fail;have hp:=(ab.1 ik.o.cell).1;have o1:bh (λi=>i=w) w1 w7:=RQ.o.trans (bh.bA og.o);go_ret;refine⟨rfl,?_,?_⟩
 .exact(FY.o.ev ⟨o1.mono (λi hi=> .inr (by omega)),λi hi=> .inl hi⟩ (o1.block p (by omega) (by omega)) (o1.block b (by omega) (by omega))).ev (Ev.eO _ λi hi=> .inl hi) rfl rfl
 exact rU.o.dL o1 (λi hi cE=>by omega)
end Go.Proofs.YtpjdjlnknfmfkaaGreatDoor
