/- A part of MarkAsks's proof; no condition. -/
import Derived.Test.YtccpcfcochffcaaGreatDoorM34
set_option linter.all false
set_option maxHeartbeats 8000000
set_option maxRecDepth 100000
namespace Go.Proofs.YtccpcfcochffcaaGreatDoor
open Go.Proofs.Tryz
variable{A w W w' W1 w3 w1 w2:aj}{i R K fr te k g p b j B:Nat}{fv cv sv c0 c1 c2 c3 v:an}{N M M':aS}{vs us l:List au}{many:Int}{ls:List aK}{t:TypeId}{S al xs:List Int}{y:au}{f:ay}
section
open Go.RowKit Go.Shelf
def fnO(V R H F T L:Nat):Obj:=xK #[.func (.func 181) #[] #[xP V,xP R,xP H,xP F,xP T,xP L]] 253
structure Qc(l:aK)(fr te:Nat)(many:Int)(vs:List au)(N:aS)(V R H F T L K:Nat)(fv cv:an)(w:aj)(i:Nat)(W:aj):Prop where
 st:kC l fr te many vs N V R H F T L fv cv i W
 fn:W.heap[K]? =some (fnO V R H F T L)
 below:aq w W
theorem Qc.only {l:aK}{V H F T L:Nat}{B:aj}{S:aS}(h:Qc l fr te many vs N V R H F T L K fv cv w i A)(ho:ai S A B)(hS:∀j,S j->(j≠V/\j≠R/\j≠H/\j≠F/\j≠T/\j≠L)/\j≠K/\w.heap.size<=j)(hN:∀j,S j->N j):Qc l fr te many vs N V R H F T L K fv cv w i B:=
 ⟨h.st.only ho (λj hj=>(hS j hj).1) hN,ho.at_ h.fn (λh=>(hS _ h).2.1 rfl),cX h.below h.below.size ho (λj hj=>(hS j hj).2.2)⟩
theorem Qd(l:aK)(hl:eh l)(fr te:Nat)(R7:fr<=te)(hte:te<=l.changes.length)(many:Int)(hm:many<=100000)(vs:List au)(hv:aW (aI l fr).fields many vs)(M:Nat->Prop)(w:World)(hM:Bd M w)(hG:Gd w)(fv cv vv:Value)(bR:ab M w fv l.first.fields)(bD:ab M w cv l.changes)(dt:ab M w vv vs):
 xC 139 #[.agg #[.string l.first.name,fv,cv], .int .i64 fr, .int .i64 te,vv] w (bW w λv w'=>∃us uv,v= .tuple #[uv, .int .i64 0]/\gi (aI l fr) (eL l fr te te) many vs us/\ab M w' uv us):=by
 have h8:vs.length<=12:=by
  have:=((dV _).1 (hl.oF fr).right).2.1;rw[hv.1];omega
 have np:=af hM;have Q2:Hd (∀W,aq w W->_):=(show∀W,_->_ fromλW hb=>CM hv h8 M W vv (hM.below hb) (dt.below hb));have Ah:Hd (∀(S:Nat->Prop)p W,aq w W->¬S p->(∀i,S i->w.heap.size<=i/\i<W.heap.size)->W.heap[p]? =some (cD l.first.name fv cv)->LZ prog 205 #[.pointer (some ⟨p,0,none⟩)] W S 1 0 (pT l (rh M S W)) (λi=>i=l.changes.length+1)):=(show∀(S:Nat->Prop)p W,_->_->_->_->_ fromλS p W h1 h2 h3 h4=>nX l hl M S p w W hM h1 hG.tb fv cv bR bD h4 h2 h3);have rA:Hd (∀(N:Nat->Prop)(i V R H F T L:Nat)fvc W,i<=te->FP V R H F T L->(∀j,qx V H F j->N j)->(∀j,qx V H F j->w.heap.size<=j)->Bd N W->aq w W->ab N W fvc (aI l i).fields->kC l fr te many vs N V R H F T L fv cv i W->_):=(show∀(N:Nat->Prop)(i V R H F T L:Nat)fvc W,_->_->_->_->_->_->_->_->_ fromλN i V R H F T L fvc W h1 h2 h3 h4 h5 h6 h7 h8=>MT l hl fr te i R7 hte h1 many hm vs M N V R H F T L fv cv fvc h2 w W h3 h4 h5 h6 hG bD h7 h8);have Zg:Hd (∀us,us.map (bw 3)=vs.map (bw 3)->aW (aI l fr).fields many us->gi (aI l fr) (eL l fr te 0) many vs us):=(show∀us:List au,_->_->_ fromλus h1 h2=>by
  rw[BY (Qbf _)];exact⟨h2,h1⟩);have HV:=af hv;have eg:∀args w,(callFunc 181 args).run prog w= .ok (.enter 181 args) w:=enters_of func181 (by kernel_rfl) rfl;have DK:∀(fn:Fn)(first cap:Array Value)(w:World),(Instr.makeFunc fn first cap).run prog w= .ok (.func fn first cap) w:=λ_ _ _ _=>rfl;obtain⟨fa,fc,rfl,_⟩:=bR.open_;obtain⟨ca,cc,rfl,_⟩:=bD.open_;obtain⟨va,vc,rfl,_⟩:=dt.open_;have bN:=af (Bx.gI w (cD l.first.name (.slice fa l.first.fields.length fc) (.slice ca l.changes.length cc)) (my fr) (my te));clear bR bD dt hM hG hv hl;refine callsIn_wide.1 (callsIn_of_wp_marks (n:=0) func139 rfl trivial (wpIn_wide.2 ?_) rfl);simp only[ntmps139,List.size_toArray,Qcc,Qcd,Nat.reduceAdd,Nat.reduceSub,Array.replicate_succ,Array.replicate_zero,List.push_toArray,List.append_toArray,List.nil_append,List.cons_append];go_wp2_with fail;refine(Q2.o _ bN.o.1).mono ?_;rintro e w1⟨_,rfl,dB,aC⟩;obtain⟨ua,uc,rfl,_⟩:=dB.open_;have aO:=af (bN.o.below aC);have rC:=af dB;have cY:=aO.o.bY;simp only[Qcc,Qcd]at cY;clear aC dB;go_upto_region 3 with fail;obtain⟨q,hq⟩:∃q,w1.heap.size=q:=⟨_,rfl⟩;obtain⟨W3,lK⟩:∃W3:World,W3=(((w1.alloc (my 0)).alloc (GI (.slice ua vs.length uc))).alloc (AN 0)).alloc (fnO q (w.heap.size+1) (q+1) (q+1+1) (w.heap.size+1+1) w.heap.size):=⟨_,rfl⟩;have hX:=Bx.Oy w1 (my 0) (GI (.slice ua vs.length uc)) (AN 0) (fnO q (w.heap.size+1) (q+1) (q+1+1) (w.heap.size+1+1) w.heap.size);rw[<-lK]at hX;have Rl:=af hX;have bI:=af (aO.o.below hX.1);have xJ:W3.heap.size=q+4:=by rw[lK,<-hq];simp
 unfold my GI AN fnO at lK;rw[hq,<-lK];have HQE:=af hq;clear lK hX;obtain⟨l0,l1,l2⟩:=aD (bI.o.bJ rfl);go_wp2_with fail;refine(pS _ _ _ _).mono ?_;rintro e w2⟨rfl,rfl⟩;go_wp2_with fail;obtain⟨W2,fT⟩:∃W2:World,W2=W3.alloc (cD l.first.name (.slice fa l.first.fields.length fc) (.slice ca l.changes.length cc)):=⟨_,rfl⟩;have wF:Hd (W2.heap[W3.heap.size]? =some (cD l.first.name (.slice fa l.first.fields.length fc) (.slice ca l.changes.length cc))):=(show _=_ by rw[fT];exact Qbh W3 _);have XZ:aq W3 W2:=by rw[fT];exact bO
 have aL:=af (bI.o.below XZ);have jT:=af (Rl.o.below XZ);have dA:W2.heap.size=q+5:=by rw[fT];simp[xJ]
 rw[<-fT];rw[xJ]at wF;clear fT XZ l0 l1 l2;have hNS:∀j,qx q (q+1) (q+1+1) j->w.heap.size<=j/\j<W2.heap.size:=λj hj=>by rcases hj with hj|hj|hj<;>omega
 have QT:=af hNS;have T7:=af (Ah.o (qx q (q+1) (q+1+1)) (q+4) W2 aL.o.1 (λh=>by rcases h with h|h|h<;>omega) hNS wF.o);have vq:Hd (FP q (w.heap.size+1) (q+1) (q+1+1) (w.heap.size+1+1) w.heap.size):=(show FP _ _ _ _ _ _ from⟨by omega,by omega,by omega,by omega,by omega,by omega,by omega,by omega,by omega,by omega,by omega,by omega⟩);have HI0:Hd (Qc l fr te many vs (rh M (qx q (q+1) (q+1+1)) W2) q (w.heap.size+1) (q+1) (q+1+1) (w.heap.size+1+1) w.heap.size (q+1+1+1) (.slice fa l.first.fields.length fc) (.slice ca l.changes.length cc) w 0 W2):=(show Qc _ _ _ _ _ _ _ _ _ _ _ _ _ _ _ _ _ _ from by
  have e0:=jT.o.bJ rfl;have e1:=jT.o.cE rfl;have e2:=jT.o.gy rfl;have e3:=jT.o.Ay rfl;unfold dY at e0;rw[HQE.o]at e0 e1 e2 e3;exact⟨⟨e0,aL.o.cE rfl,e2,aL.o.gy rfl,aL.o.bJ rfl,vs,ua,_,uc,e1,rC.o.ev ⟨ai.ao (jT.o.1.mono bq),λj hj=>by
   rcases hj with hj|hj|hj
   .exact .inl hj
   .exact .inr (by have:=HQE.o;rcases hj with hj|hj|hj<;>omega)
   .exact .inr (by have:=hj.1;have:=HQE.o;omega)⟩,Zg.o vs rfl HV.o⟩,e3,aL.o.1⟩);clear hNS;refine wpIn_wide.1 (nJ rfl (enters_of func205 (by kernel_rfl) rfl) (qx q (q+1) (q+1+1)) 1 0 (pT l (rh M (qx q (q+1) (q+1+1)) W2)) (λi=>i=l.changes.length+1) T7.o (λi args i' W h=>pU h) (λi hi=> .inl (QT.o i hi).2)
  (λi W=>i<=te/\Qc l fr te many vs (rh M (qx q (q+1) (q+1+1)) W2) q (w.heap.size+1) (q+1) (q+1+1) (w.heap.size+1+1) w.heap.size (q+1+1+1) (.slice fa l.first.fields.length fc) (.slice ca l.changes.length cc) w i W)
  (λc W=>c= .exit 0/\Qc l fr te many vs (rh M (qx q (q+1) (q+1+1)) W2) q (w.heap.size+1) (q+1) (q+1+1) (w.heap.size+1+1) w.heap.size (q+1+1+1) (.slice fa l.first.fields.length fc) (.slice ca l.changes.length cc) w (te+1) W)
  (λi A B h ho=>⟨h.1,h.2.only ho (λj hj=>by have:=hj.1;exact⟨⟨by omega,by omega,by omega,by omega,by omega,by omega⟩,by omega,by omega⟩) (λj hj=> .inr (.inr hj))⟩)
  (λc A B h ho=>⟨h.1,h.2.only ho (λj hj=>by have:=hj.1;exact⟨⟨by omega,by omega,by omega,by omega,by omega,by omega⟩,by omega,by omega⟩) (λj hj=> .inr (.inr hj))⟩) ⟨Qbf _,HI0.o⟩ ?hround ?hdone ?hstop);case hdone=>
  intro i W hE hI hD;exfalso;have:=hI.1;omega
 case hround=>
  intro k i args i' W hI No hsz;obtain⟨rfl,hi,jY,rfl,bo⟩:=No;obtain⟨hiv,mB⟩:=hI;obtain⟨ya,yc,rfl,_⟩:=bo.open_;have HI:=af mB;have eE:=af bo;clear mB bo;gi_wp2_with(rw[Oper.semAt_eq _ _ _ (λc h=>by cases h)];go_simp;try go_bits);refine⟨(ai.refl _ W).alloc _,λW5 Dm NN=> ?_⟩;have qD:Hd (ai (λj=>j=W2.heap.size+1) W W5):=(show ai _ _ _ from((ai.refl _ W).alloc _).trans Dm);have Zh:Hd (Qc l fr te many vs (rh M (qx q (q+1) (q+1+1)) W2) q (w.heap.size+1) (q+1) (q+1+1) (w.heap.size+1+1) w.heap.size (q+1+1+1) (.slice fa l.first.fields.length fc) (.slice ca l.changes.length cc) w i W5):=(show Qc _ _ _ _ _ _ _ _ _ _ _ _ _ _ _ _ _ _ from HI.o.only qD.o (λj hj=>by have:j=W2.heap.size+1:=hj;exact⟨⟨by omega,by omega,by omega,by omega,by omega,by omega⟩,by omega,by omega⟩) (λj hj=> .inr (.inr (by have:j=W2.heap.size+1:=hj;exact⟨by omega,by omega⟩))));have X2:Hd (ab (rh M (qx q (q+1) (q+1+1)) W2) W5 (.slice ya (aI l i).fields.length yc) (aI l i).fields):=(show ab _ _ _ _ from eE.o.ev ⟨qD.o.mono λj hj=> .inr (.inr (by have:j=W2.heap.size+1:=hj;exact⟨by omega,by omega⟩)),λj hj=> .inl hj⟩);have Ue:=af (Dm.at_ (Qbh W (cS l.first.name (.slice ya (aI l i).fields.length yc))) (by show¬W.heap.size=W2.heap.size+1;omega));have hz5:W2.heap.size+3<=W5.heap.size:=by rw[NN];simp;omega
  have JR:Hd (Bd (rh M (qx q (q+1) (q+1+1)) W2) W5):=(show Bd _ _ fromλj hj=>by
   rcases hj with hj|hj|hj
   .have:=np.o j hj;omega
   .have:=(QT.o j hj).2;omega
   .have:=hj.2;omega);have bt:=af (rA.o _ i _ _ _ _ _ _ _ W5 hiv vq.o (λj hj=> .inr (.inl hj)) (λj hj=>(QT.o j hj).1) JR.o Zh.o.below X2.o Zh.o.st);obtain⟨p0,p1⟩:=ah Ue.o;have s0:=one_cell Zh.o.fn;clear Dm;gi_wp2_with(rw[Oper.semAt_eq _ _ _ (λc h=>by cases h)];go_simp;try go_bits);refine⟨trivial,rfl,(CallsIn.inRound k (callsIn_wide.2 bt.o)).mono ?_⟩;rintro e w6⟨rfl,cm,ho6⟩;have UT:=af ho6;have HI6:Hd (Qc l fr te many vs (rh M (qx q (q+1) (q+1+1)) W2) q (w.heap.size+1) (q+1) (q+1+1) (w.heap.size+1+1) w.heap.size (q+1+1+1) (.slice fa l.first.fields.length fc) (.slice ca l.changes.length cc) w (i+1) w6):=(show Qc _ _ _ _ _ _ _ _ _ _ _ _ _ _ _ _ _ _ from⟨cm,ho6.at_ Zh.o.fn (λh=>by rcases h with h|h|h<;>omega),cX Zh.o.below Zh.o.below.size ho6 (λj hj=>(QT.o j hj).1)⟩);clear cm ho6 s0 p0 p1;by_cases hle:i+1<=te
  .gi_wp2_with(rw[Oper.semAt_eq _ _ _ (λc h=>by cases h)];go_simp;try go_bits);exact⟨UT.o,hle,HI6.o⟩
  .obtain rfl:i=te:=by omega
   gi_wp2_with(rw[Oper.semAt_eq _ _ _ (λc h=>by cases h)];go_simp;try go_bits);exact⟨UT.o,rfl,HI6.o⟩
 case hstop=>
  intro c W hX hD;obtain⟨rfl,mB⟩:=hX;have HI:=af mB;have HD:=af hD;obtain⟨us,a,n,cap,h1,h2,h3⟩:=mB.st.gh;have f0:=one_cell HI.o.st.gf;have h0:=one_cell h1;clear mB hD;refine wpIn_wide.2 ?_;dsimp only;go_wp2_with fail;obtain⟨W4,lR⟩:∃W4:World,W4=W.putObj W2.heap.size (.deferred none):=⟨_,rfl⟩;have o4:ai (λj=>j=W2.heap.size) W W4:=by rw[lR];exact(ai.refl (λj=>j=W2.heap.size) W).putObj (.inl rfl) _
  refine⟨by simp, .inl ⟨_,_,rfl,run_takeDeferred HD.o,?_⟩⟩;rw[<-lR];rw[pV (.inr bq)]at h3;refine⟨.tuple #[.slice a n cap, .int .i64 0],by simp[results,results139,go_sem],_,rfl,⟨us,_,rfl,h3,(h2.ev ⟨o4.mono λj hj=> .inr (.inr (by have:j=W2.heap.size:=hj;exact⟨by omega,by omega⟩)),λj hj=> .inl hj⟩).ev (Ev.eG W4 λj hj=> .inl hj)⟩,?_⟩;exact cX HI.o.below HI.o.below.size o4 (λj hj=>by have:j=W2.heap.size:=hj;have:=aL.o.1.size;omega)
theorem MU(ls:List aK)(h:eI ls)(k:Nat)(l:aK)(hk:ls[k]? =some l)(fr:Nat)(R7:fr<=l.changes.length)(many:Int)(hm:many<=100000)(vs:List au)(hv:aW (aI l fr).fields many vs)(M:aS)(w:aj)(hM:Bd M w)(hG:Gd w)(sv vv:an)(hs:ab M w sv ls)(dt:ab M w vv vs):
 xG 86 #[.agg #[sv],xI k,xI fr,xI l.changes.length,vv] w λv w'=>∃us uv,v= .tuple #[uv,xI 0]/\gi (aI l fr) (l.changes.drop fr) many vs us/\ab M w' uv us:=by
 have ug:=h.lines l (Qaf hk);have hcut:eL l fr l.changes.length l.changes.length=l.changes.drop fr:=by
  unfold eL;rw[Nat.min_self,Qah (by rw[List.length_drop];exact bq)]
 have HC:=fV (w:=w) (λW hb=>zH ls h k l hk M W (hM.below hb) (hG.tb.below hb) sv (hs.below hb));have DN:Hd (∀W fv cv,aq w W->ab M W fv l.first.fields->ab M W cv l.changes->_):=λW fv cv hb h1 h2=>Qd l ug fr l.changes.length R7 bq many hm vs hv M W (hM.below hb) (hG.below hb) fv cv vv h1 h2 (dt.below hb);rw[hcut]at DN;obtain⟨a,bQ,rfl,cK,qE,_⟩:=hs.open_;obtain⟨va,vc,rfl,_⟩:=dt.open_;have bN:=af (Bx.dR w (fK (xL a ls.length bQ)));have i0:(0:Int)<=(fr:Int):=Qba _;have i1:(fr:Int)<=(l.changes.length:Int):=by omega
 go_enter func86,ntmps86;go_wp2_with fail;refine(HC.o _ bN.o.1).mono ?_;rintro e w1⟨⟨fa,fc,ca,cc,rfl,wU,iB⟩,aC⟩;have aO:=af (bN.o.below aC);have HCB:Hd (∀o,_):=λo=>DN.o (w1.alloc o) _ _ (aO.o.alloc o).1 (wU.below (aC.alloc aC.size o)) (iB.below (aC.alloc aC.size o));go_wp2_with fail;refine(HCB.o _).mono ?_;rintro e w2⟨_,rfl,⟨us,uv,rfl,DW,bo⟩,aY⟩;obtain⟨ya,yc,rfl,_⟩:=bo.open_;have aL:=af ((aO.o.alloc _).below aY);have Su:=af DW;have eE:=af bo;go_wp2;go_ret2;exact⟨_,rfl,⟨us,_,rfl,Su.o,eE.o⟩,aL.o.1⟩
theorem BZ(h:eI ls){l:aK}(hk:ls[k]? =some l):eI [l]:=by
 have hl:=h.lines l (Qaf hk);refine⟨by simp,?_,?_⟩;all_goals first
  |(intro x hx;rcases List.mem_singleton.1 hx with rfl;exact hl)
  |(intro i x hi;match i,hi with
     |0,hi=>simp at hi;subst hi;simp[eu,bV,idxOf]
     |i+1,hi=>simp at hi)
theorem MV {l:aK}(hk:ls[k]? =some l):(ls.drop k).take 1=[l]:=by
 rw[List.drop_eq_getElem?_toList_append,hk];simp
theorem Qe(ls:List aK)(k:Nat)(l:aK)(hk:ls[k]? =some l)(h8:ls.length<=8)(M:aS)(w:aj)(sv:an)(hs:ab M w sv ls):
 xG 87 #[.agg #[sv],xI k] w λv w'=>∃u,v= .agg #[u]/\ab M w' u [l]:=by
 have aX:=(Qad.1 hk).1;obtain⟨a,bQ,rfl,cK,qE,_⟩:=hs.open_;obtain⟨b,off,cap,fa,fc,ca,cc,hv,cw,_,_,_,_⟩:=eC hs hk;obtain⟨rfl,rfl⟩:=gY hv;have s2:=(hs.from_ rfl (k:=k) (by omega)).upto (by simp) (k:=1) (by omega);rw[MV hk,if_neg (by omega)]at s2;have eB:=af (show ab M w (xL (some ⟨b,off+k*3,none⟩) 1 (bQ-k)) [l]by
  have e:(⟨b,off,none⟩:Addr).add (k*3)=⟨b,off+k*3,none⟩:=by
   unfold Addr.add;by_cases hz:k=0
   .subst hz;simp
   .simp[show¬k*3=0 from by omega]
  simpa [e,show aA.size aK=3 from rfl]using s2);have bN:=af (Bx.dh w (fK (xL (some ⟨b,off,none⟩) ls.length bQ)) (fK (xL none 0 0)));have i6:IntKind.i64.wrap ((k:Int)+1)=(k:Int)+1:=Qbe _ (by omega);have i0:(0:Int)<=(k:Int):=Qba _;have i1:(k:Int)+1<=(bQ:Int):=by omega
 have i2:¬bQ=k:=by omega
 have i3:(k:Int)<=(k:Int)+1:=by omega
 have i4:((k:Int)+1).toNat=k+1:=by omega
 have i5:k+1-k=1:=by omega
 have i7:k+1<=bQ:=by omega
 have c0:=one_cell (bN.o.cE rfl);have f0:=ag (bN.o.cE rfl) 0;have d0:=one_cell (bN.o.bJ rfl);go_enter func87,ntmps87;go_wp2_with fail;refine Qae (v:= .agg #[xL (some ⟨b,off+k*3,none⟩) 1 (bQ-k)]) (by simp[results,results87,go_sem,c0]) rfl ⟨_,rfl,⟨_,rfl,?_⟩,?_⟩
 .exact eB.o.below (Bx.dh w (fK _) (fK _)).1
 .exact(Bx.dh w (fK _) (fK _)).1
theorem zI(ls:List aK)(h:eI ls)(k:Nat)(l:aK)(hk:ls[k]? =some l)(x:bH)(v:Nat)(many:Int)(hm:many<=100000)(hc:x.cls=k)(wX:x.ver=v)(Q8:v<=l.changes.length)(hx:SW many x)(hv:aW (aI l v).fields many x.aJ)(M:aS)(w:aj)(hM:Bd M w)(hG:Gd w)(sv vv:an)(hs:ab M w sv ls)(dt:ab M w vv x.aJ):
 xG 47 #[.agg #[sv], .agg #[xI x.id,xI x.cls,xI x.ver,vv]] w λr w'=>∃us uv,r= .tuple #[.agg #[xI x.id,xI x.cls,xI l.changes.length,uv],xI 0]/\gi (aI l v) (l.changes.drop v) many x.aJ us/\ab M w' uv us:=by
 have ug:=h.lines l (Qaf hk);have h1:=BZ h hk;have HL:=fV (w:=w) (λW hb=>FO ls h k l hk M W (hM.below hb) (hG.tb.below hb) sv (hs.below hb));have HCO:=fV (w:=w) (λW hb=>OR x many hm hx M W (hM.below hb) vv (dt.below hb) (hG.tb.below hb));have HA:=fV (w:=w) (λW hb=>Qe ls k l hk (by have:=h.len;omega) (dP M w 3) W sv (hs.ev (cW hb)));have DN:Hd (∀W u,aq w W->w.heap.size+3<=W.heap.size->ab (dP M w 3) W u [l]->_):=λW u hb h3 hu=>MU [l] h1 0 l rfl v Q8 many hm x.aJ hv (dP M w 3) W (dp hM h3) (hG.below hb) u vv hu (dt.ev (cW hb));obtain⟨a,bQ,rfl,cK,qE,_⟩:=hs.open_;obtain⟨va,vc,rfl,_⟩:=dt.open_;obtain⟨xi,xc,xv,xs⟩:=x;dsimp only at*;subst hc;subst wX;have bN:=af (Bx.gI w (fK (xL a ls.length bQ)) (eY ⟨xi,(k:Int),(v:Int),xs⟩ (xL va xs.length vc)) (eY ⟨0,0,0,[]⟩ (xL none 0 0)));have i0:(0:Int)<=(v:Int):=Qba _;have i1:(v:Int)<=(l.changes.length:Int):=by omega
 have c0:=one_cell (bN.o.bJ rfl);obtain⟨o0,o1,o2,o3⟩:=ae (bN.o.cE rfl);go_enter func47,ntmps47;go_wp2_with fail;refine cG (HL.o _ bN.o.1) λw1 aC=> ?_;have aO:=af (bN.o.below aC);have c0:=one_cell (aO.o.bJ rfl);obtain⟨o0,o1,o2,o3⟩:=ae (aO.o.cE rfl);go_wp2_with fail;refine cG (HCO.o _ aO.o.1) λw2 aY=> ?_;have aL:=af (aO.o.below aY);have c0:=one_cell (aL.o.bJ rfl);obtain⟨o0,o1,o2,o3⟩:=ae (aL.o.cE rfl);go_upto_region 6 with fail;have dn:Hd (∀W,aq w2 W->pd W w 0 (xL a ls.length bQ)/\DD W w 1 (xI k)/\DD W w 2 (xI v)/\DD W w 3 (xL va xs.length vc)):=λW hb=>by
  have h:=aL.o.below hb;have h4:=ae (h.cE rfl);exact⟨one_cell (h.bJ rfl),h4.2.1,h4.2.2.1,h4.2.2.2⟩
 have fQ:Hd (aq w w2):=aL.o.1;have Zi:Hd (w.heap.size+3<=w2.heap.size):=aL.o.bY;have HJ:Hd (aq w2 w2):=dK;go_cut [8,7](λs8 s7 wx=>s7=xI 0/\Hd (aq w2 wx)/\Hd (∃us,gi (aI l v) (l.changes.drop v) many xs us/\ab (dP M w 3) wx s8 us));case first=>
  go_region_held3(λw'=>w'.cell? ⟨w.heap.size,0,none⟩=some (xL a ls.length bQ)/\w'.cell? ⟨w.heap.size+1,1,none⟩=some (xI k)/\w'.cell? ⟨w.heap.size+1,2,none⟩=some (xI v)/\w'.cell? ⟨w.heap.size+1,3,none⟩=some (xL va xs.length vc))
   (with_reducible first|exact dn.o _ qN.o|exact dn.o _ cR.o|exact dn.o _ cR.o.drew|exact dn.o _ HJ.o|exact dn.o _ HJ.o.drew)
   (first
     |(go_at_call 87;refine(HA.o _ (by with_reducible first|exact fQ.o.drew|exact fQ.o)).mono ?_;rintro e w3⟨_,rfl,⟨u,rfl,hu⟩,bG⟩;obtain⟨a1,c1,rfl,_⟩:=hu.open_;have HU:=af hu;have cR:Hd (aq w2 w3):=(by with_reducible first|exact af (AK bG)|exact af bG);clear bG hu)
     |(go_at_call 86;refine(DN.o _ _ (fQ.o.trans (cR.o.mono fQ.o.size)) (Qcg Zi.o cR.o.size) HU.o).mono ?_;rintro e w4⟨_,rfl,⟨us,uv,rfl,DW,bo⟩,dT⟩;obtain⟨a2,c2,rfl,_⟩:=bo.open_;have Su:=af DW;have eE:=af bo;have qN:Hd (aq w2 w4):=cR.o.trans (dT.mono cR.o.size);clear dT DW bo));all_goals(go_wp2;go_meet)
  all_goals exact⟨rfl,qN,af ⟨_,Su.o,eE.o⟩⟩
 case rest=>
  obtain⟨rfl,HJ5,GO⟩:=hcut;have j7:=af (aL.o.below HJ5.o);obtain⟨us,DW,bo⟩:=GO.o;obtain⟨a2,c2,rfl,_⟩:=bo.open_;have Su:=af DW;have eE:=af bo;have c0:=one_cell (j7.o.bJ rfl);obtain⟨o0,o1,o2,o3⟩:=ae (j7.o.cE rfl);obtain⟨r0,r1,r2,r3⟩:=ae (j7.o.gy rfl);obtain⟨f0,f1,f2,f3⟩:=ic (j7.o.gy rfl);go_wp2_with fail;refine Qae (v:= .tuple #[.agg #[xI xi,xI k,xI l.changes.length,xL a2 us.length c2],xI 0]) (by simp[results,results47,go_sem,r0,r1,r2,r3]) rfl ⟨_,rfl,⟨_,_,rfl,Su.o,?_⟩,?_⟩
  .exact eE.o.ev (((((ep _).setCell (.inl (.inr ⟨by simp;omega,by simp⟩)) _).setCell (.inl (.inr ⟨by simp;omega,by simp⟩)) _).setCell (.inl (.inr ⟨by simp;omega,by simp⟩)) _).setCell (.inl (.inr ⟨by simp;omega,by simp⟩)) _)
  .exact da j7.o.1 (by omega)
abbrev Jl(p:Int×Int):an:= .agg #[xI p.1,xI p.2]
theorem C4(e:Bool)(x:Int×Int)(w:aj):(Instr.checkKey e 10000 264 (Jl x)).run prog w= .ok () w:=by
 kernel_rfl
theorem ZX(x y:Int×Int)(w:aj):(Op.equal 264 (Jl x) (Jl y)).run prog w= .ok (decide (x=y)) w:=by
 obtain⟨a,b⟩:=x;obtain⟨c,d⟩:=y;have p0:∀(x y:Int)(w:aj),(part 3 #[xI x,xI y] 0).run prog w= .ok (xI x) w:=λx y w=>by kernel_rfl
 have p1:∀(x y:Int)(w:aj),(part 3 #[xI x,xI y] 1).run prog w= .ok (xI y) w:=λx y w=>by kernel_rfl
 have pe:∀(x y:Int)(w:aj),(Op.equalIn 9999 3 (.int .i64 x) (.int .i64 y)).run prog w= .ok (x==y) w:=λx y w=>run_equalIn_int w 9998 _ _ _ x y underlying3;have h1:(Op.equal 264 (Jl (a,b)) (Jl (c,d))).run prog w= .ok ((a==c)&&(b==d)) w:=by
  show(Op.equalIn (9999+1) 264 (.agg #[xI a,xI b]) (.agg #[xI c,xI d])).run prog w=_;rw[run_equalIn_struct w 9999 264 #[.int .i64 a, .int .i64 b] #[.int .i64 c, .int .i64 d] (by simp[Program.fieldsOf,underlying264]) (by kernel_rfl)];simp only[Program.fieldsOf,underlying264,Op.eqFields,Sem.run_bind,p0,p1,pe,Result.andThen_ok];by_cases h:a=c<;>by_cases h2:b=d<;>simp[h,h2,Op.eqFields,p0,p1,pe]
 have h2:((a==c)&&(b==d))=decide ((a,b)=(c,d)):=by rw[Bool.eq_iff_iff];simp
 rw[h1,h2]
theorem tF:zE Jl prog 264:=MQ Jl _ (λ_ _=>rfl) underlying264 ZX
theorem row_one {l:aK}(hg:cI W g (xK #[xS l.first.name,fv,cv] t))(hM:¬M g)(h1:ab M W fv l.first.fields)(h2:ab M W cv l.changes)(hn:l.first.name.size<=maxLen):ab M W (xL (some ⟨g,0,none⟩) 1 1) [l]:=by
 refine⟨[[xS l.first.name,fv,cv]],⟨rfl,some ⟨g,0,none⟩,1,rfl,bq,by unfold maxLen;omega,λ_=>⟨g,0,rfl,hM,(Qaa.1 hg).1,λj u hu=> ?_⟩⟩,rfl,λi cs x hc hx=> ?_⟩
 .simp only[World.cell?,hg,Nat.zero_add];simpa using hu
 .match i,hc,hx with
  |0,hc,hx=>cases hc;cases hx;exact⟨fv,cv,rfl,h1,h2,hn⟩
  |i+1,hc,hx=>simp at hx
def Qf(s1 s2:an):an:= .agg #[xB true,s1,s2]
def AO(b:Bool)(s1 s2:an):Obj:=xK #[xB b,s1,s2] 222
def Tw(c v:Int):Obj:=xK #[xI c,xI v] 264
def Qg(sv:an)(b:Nat):Obj:=xK #[sv, .map (some b)] 220
structure rj(ls:List aK)(M:aS)(p b:Nat)(sv:an)(w:aj):Prop where
 cell:w.heap[p]? =some (Qg sv b)
 lines:ab M w sv ls
 mp:∃es clk,cg Jl w b es clk/\∀x val,bP es x=some val->∃(k v:Nat)(l:aK)(a1 a2:dC)(n1 c1 n2 c2:Nat),x=((k:Int),(v:Int))/\ls[k]? =some l/\v<=l.changes.length/\val=Qf (xL a1 n1 c1) (xL a2 n2 c2)/\ab M w (xL a2 n2 c2) [dW l v]
theorem rj.ev(h:rj ls M p b sv w)(hv:Ev M w M' w')(hp:w'.heap[p]? =w.heap[p]?)(hb:w'.heap[b]? =w.heap[b]?):rj ls M' p b sv w':=by
 obtain⟨h1,h2,es,clk,h3,h4⟩:=h;refine⟨hp.trans h1,h2.ev hv,es,clk,(show w'.heap[b]? =_ from hb.trans h3),λx val hx=> ?_⟩;obtain⟨k,v,l,a1,a2,n1,c1,n2,c2,e1,e2,e3,e4,e6⟩:=h4 x val hx;exact⟨k,v,l,a1,a2,n1,c1,n2,c2,e1,e2,e3,e4,e6.ev hv⟩
theorem Tx(ls:List aK)(M:aS)(w:aj)(hM:Bd M w)(sv:an)(hs:ab M w sv ls):
 xC 91 #[.agg #[sv]] w λe w'=>∃p b,e=xR (xP p)/\w.heap.size<=p/\w.heap.size<=b/\p≠b/\p<w'.heap.size/\b<w'.heap.size/\(∀N:aS,(∀i,N i->M i\/w.heap.size<=i)->rj ls N p b sv w')/\aq w w':=by
 obtain⟨a,bQ,rfl,cK,qE,_⟩:=hs.open_;have HS:=af hs;have Cb:=λw=>lg 218 w;have c0:=one_cell ((Bx.dR w (fK (xL a ls.length bQ))).bJ rfl);clear hs;go_enter func91,ntmps91;go_wp2;go_ret;have hX:=Bx.gI w (fK (xL a ls.length bQ)) (.map #[] 0) (Qg (xL a ls.length bQ) (w.heap.size+1));refine⟨w.heap.size+1+1,w.heap.size+1,rfl,by omega,by omega,by omega,by simp,by simp,λN hN=>⟨hX.gy rfl,HS.o.ev ⟨ai.ao hX.1,hN⟩,[],0,hX.cE rfl,λx val h=>by simp[bP]at h⟩,hX.1⟩
def Ao(M:aS)(w:aj)(T:Nat):Nat->Prop:=λi=>M i\/(w.heap.size<=i/\i<T)
theorem C5 {T:Nat}(hM:Bd M w)(hb:aq w W)(hT:T<=W.heap.size):Bd (Ao M w T) W:=λi hi=>by
 rcases hi with hi|hi
 .exact Qde (hM i hi) hb.size
 .omega
theorem rO(T:Nat)(hb:aq w W):Ev M w (Ao M w T) W:=⟨ai.ao hb,λi hi=>by
 rcases hi with hi|hi
 .exact .inl hi
 .exact .inr hi.1⟩
theorem Ty(ls:List aK)(h:eI ls)(k:Nat)(l:aK)(hk:ls[k]? =some l)(v:Nat)(hv:v<=l.changes.length)(M:Nat->Prop)(w:World)(hM:Bd M w)(hG:Gd w)(p b:Nat)(Gx:p≠b)(Dl:M b)(sv:Value)(hB:rj ls M p b sv w):
 xC 143 #[.pointer (some ⟨p,0,none⟩), .int .i64 k, .int .i64 v] w λe w'=>(∃a1 n1 c1 s2,e= .returned (Qf (.slice a1 n1 c1) s2)/\ab M w' s2 [dW l v])/\rj ls M p b sv w'/\ai (λi=>i=b) w w':=by
 have iA:=af hB;obtain⟨aG,hs,es,clk,DS,J7⟩:=hB;have hp:=(Qaa.1 aG).1;have HMB:=af (hM b Dl);have np:=af hM;have HP0:=af hp;have dn:Hd (∀W,aq w W->W.heap[p]? =some (Qg sv b)/\cg Jl W b es clk):=(show∀W,_->_ fromλW hb=>⟨(hb.block _ hp).trans aG,(hb.block _ (hM b Dl)).trans DS⟩);have HES:=af J7;have HS:=af hs;have NS:∀W val,aq w W->bP es ((k:Int),(v:Int))=some val->(Instr.lookup 218 (.map (some b)) (.agg #[.int .i64 k, .int .i64 v]) true).run prog W= .ok (.tuple #[val, .bool true]) W:=λW val hb hx=>cg.UN Jl underlying218 tF C4 (dn.o W hb).2 ((k:Int),(v:Int)) val hx;have hz:∀W,(zeroValue 222).run prog W= .ok (.agg #[.bool false, .slice none 0 0, .slice none 0 0]) W:=λW=>by kernel_rfl
 have Ns:∀W,aq w W->bP es ((k:Int),(v:Int))=none->(Instr.lookup 218 (.map (some b)) (.agg #[.int .i64 k, .int .i64 v]) true).run prog W= .ok (.tuple #[.agg #[.bool false, .slice none 0 0, .slice none 0 0], .bool false]) W:=λW hb hx=>cg.ZV Jl underlying218 tF C4 (dn.o W hb).2 ((k:Int),(v:Int)) _ (hz W) hx;obtain⟨ob,Uo,Up,Uq,Zj,Zk,Zl,oW,hob,qb0⟩:∃(ob:Bool)(Uo:Option Addr)(Up Uq:Nat)(Zj:Option Addr)(Zk Zl:Nat),(∀W,aq w W->(Instr.lookup 218 (.map (some b)) (.agg #[.int .i64 k, .int .i64 v]) true).run prog W= .ok (.tuple #[.agg #[.bool ob, .slice Uo Up Uq, .slice Zj Zk Zl], .bool ob]) W)/\(ob=true->ab M w (.slice Zj Zk Zl) [dW l v])/\(ob=false->bP es ((k:Int),(v:Int))=none):=by
  cases hq:bP es ((k:Int),(v:Int))with
  |none=>exact⟨false,none,0,0,none,0,0,λW hb=>Ns W hb hq,by simp,by simp⟩
  |some val=>
   obtain⟨k',v',l',a1,a2,n1,c1,n2,c2,e1,e2,e3,e4,e6⟩:=J7 _ _ hq;rw[Prod.mk.injEq,Int.natCast_inj,Int.natCast_inj]at e1;obtain⟨rfl,rfl⟩:=e1;obtain rfl:l=l':=by rw[hk]at e2;exact Option.some.inj e2
   subst e4;exact⟨true,a1,n1,c1,a2,n2,c2,λW hb=>NS W _ hb hq,λ_=>e6,by simp⟩
 obtain⟨lb,off,qaa,fa,fc,ca,cc,JU,qdu,wU,iB,lH,aw⟩:=eC hs hk;have lI:=af wU;have rA:=af iB;have oZ:=af lH;have tP:=af aw;have Q2:=af (iB.from_ rfl (k:=v) hv);have HLO:Hd (eh l):=(show eh l from h.lines l (Qaf hk));have Ap:Hd (∀T W u,aq w W->T<=W.heap.size->w.heap.size<=T->ab (Ao M w T) W u [l]->_):=(show∀T W u,_->_->_->_->_ fromλT W u hb h2 h3 hu=>Qb [l] (BZ h hk) 0 l rfl v hv (Ao M w T) W (C5 hM hb h2) (hG.tb.below hb) u hu);have DM:=af oW;have Vx:=af hob;have X3:=af qb0;obtain⟨a,bQ,rfl,cK,qE,_⟩:=hs.open_;obtain⟨rfl,rfl⟩:=gY JU;have rz:=(Qad.1 hk).1;have i0:(0:Int)<=(k:Int):=Qba _;have i1:(k:Int)<(ls.length:Int):=by omega
 clear JU wU iB aw lH;have bN:=af (Bx.dh w (AO false (.slice none 0 0) (.slice none 0 0)) (Tw k v));clear NS Ns J7 hs aG DS oW hob qb0;go_enter func143,ntmps143;go_upto_region 2 with fail;obtain⟨W,hW⟩:∃W:World,W=(w.alloc (AO false (.slice none 0 0) (.slice none 0 0))).alloc (Tw k v):=⟨_,rfl⟩;have aL:Hd (Bx w [AO false (.slice none 0 0) (.slice none 0 0),Tw k v] W):=(show Bx _ _ _ by rw[hW];exact bN.o);unfold AO Tw at hW;rw[<-hW];clear hW;have NN:=aL.o.bY;have c1:=(ah (dn.o W aL.o.1).1).2;have c1':=λo=>(ah (dn.o (W.alloc o) (aL.o.alloc o).1).1).2;obtain⟨d0,d1⟩:=ah (aL.o.cE rfl);have d0':=λo=>(ah ((aL.o.alloc o).cE rfl)).1;have d1':=λo=>(ah ((aL.o.alloc o).cE rfl)).2;have l0:=DM.o W aL.o.1;have l0':=λo=>DM.o (W.alloc o) (aL.o.alloc o).1;have l1:=DM.o W.drew aL.o.1.drew;have l1':=λo=>DM.o (W.alloc o).drew (aL.o.alloc o).1.drew;have l2':=λo=>DM.o (W.drew.alloc o) (aL.o.1.drew.alloc (Qcg aL.o.1.size bq) o);go_cut [8,9](λs8 s9 wx=>s8= .pointer (some ⟨W.heap.size,0,none⟩)/\s9= .bool ob/\Hd (aq W wx/\wx.heap[W.heap.size]? =some (AO ob (.slice Uo Up Uq) (.slice Zj Zk Zl))));case first=>
  go_region_law fail;all_goals(go_wp2;go_meet)
  all_goals refine⟨rfl,rfl,af ⟨?_,?_⟩⟩
  all_goals first
   |exact bO.drew
   |exact(Qbg _ W).drew.alloc bq _
   |exact Qbh W _
 case rest=>
  obtain⟨rfl,rfl,HX⟩:=hcut;clear c1 c1' d0 d1 d0' d1' l0 l0' l1 l1' l2';have bI:=af (aL.o.below HX.o.1);obtain⟨x0,x1,x2⟩:=aD HX.o.2;obtain⟨r0,r1,r2⟩:=aD (bI.o.bJ rfl);obtain⟨f0,f1⟩:=nu (bI.o.bJ rfl);have f2:=ag (bI.o.bJ rfl) 2;cases ob;rotate_left
  .go_wp2_with fail;refine Qae (v:=Qf (.slice Uo Up Uq) (.slice Zj Zk Zl)) (by simp[results,results143,go_sem,r0,r1,r2,Qf]) rfl ?_;have hb:=nW (a0:= .bool true) (a1:= .slice Uo Up Uq) (a2:= .slice Zj Zk Zl) bI.o.1 (Qab w.heap.size);exact⟨⟨_,_,_,_,rfl,(Vx.o (by first|trivial|rfl)).below hb⟩,iA.o.ev (Ev.ao hb) (hb.block _ HP0.o) (hb.block _ HMB.o),ai.ao hb⟩
  .clear x0 x1 x2 r0 r1 r2 f0 f1 f2;go_upto_region 6 with fail;obtain⟨W4,lR⟩:∃W4:World,W4=wc.alloc (AO false (.slice none 0 0) (.slice none 0 0)):=⟨_,rfl⟩;have eH:Hd (Bx w [AO false (.slice none 0 0) (.slice none 0 0),Tw k v] W4):=(show Bx _ _ _ by rw[lR];exact bI.o.alloc _);have Ss:Hd (W4.heap[wc.heap.size]? =some (AO false (.slice none 0 0) (.slice none 0 0))):=(show _=_ by rw[lR];exact Qbh wc _);have hz4:W4.heap.size=wc.heap.size+1:=by rw[lR];simp
   have xJ:w.heap.size+2<=wc.heap.size:=bI.o.bY;unfold AO at lR;rw[<-lR];clear lR HX;generalize wc.heap.size=V at*;have c0:=(ah (dn.o W4 eH.o.1).1).1;obtain⟨q0,q1,q2⟩:=tP.o W4 eH.o.1;have q0':=λo=>(tP.o (W4.alloc o) (eH.o.alloc o).1).1;have q1':=λo=>(tP.o (W4.alloc o) (eH.o.alloc o).1).2.1;have q2':=λo=>(tP.o (W4.alloc o) (eH.o.alloc o).1).2.2;have c0':=λo=>(ah (dn.o (W4.alloc o) (eH.o.alloc o).1).1).1;go_upto_region 8 with fail;clear q0' q1' q2' c0' q0 q1 q2 c0;obtain⟨W7,Au⟩:∃W7:World,W7=W4.alloc (cD l.first.name (.slice fa l.first.fields.length fc) (.slice ca l.changes.length cc)):=⟨_,rfl⟩;have rB:Hd (Bx w [AO false (.slice none 0 0) (.slice none 0 0),Tw k v] W7):=(show Bx _ _ _ by rw[Au];exact eH.o.alloc _);have HV7:Hd (W7.heap[V]? =some (AO false (.slice none 0 0) (.slice none 0 0))):=(show _=_ by rw[Au];exact(bO.block V (by omega)).trans Ss.o);have HL7:Hd (W7.heap[V+1]? =some (cD l.first.name (.slice fa l.first.fields.length fc) (.slice ca l.changes.length cc))):=(show _=_ by rw[Au,<-hz4];exact Qbh W4 _);have hz7:W7.heap.size=V+2:=by rw[Au];simp[hz4]
   unfold cD at Au;rw[<-Au];clear Au;obtain⟨y0,y1,y2⟩:=aD HL7.o;have Yw:Hd (∀t,ab (Ao M w (V+2)) (W7.alloc (.cells #[.string l.first.name, .slice fa l.first.fields.length fc, .slice ca l.changes.length cc] t)) (.slice (some ⟨V+2,0,none⟩) 1 1) [l]):=(show∀t,_ fromλt=>by
    have hb:aq w (W7.alloc (.cells #[.string l.first.name, .slice fa l.first.fields.length fc, .slice ca l.changes.length cc] t)):=(rB.o.alloc _).1;refine row_one (t:=t) (by rw[<-hz7];exact Qbh W7 _) (λh=> ?_) (lI.o.ev (rO _ hb)) (rA.o.ev (rO _ hb)) oZ.o;rcases h with h|h
    .have:=np.o _ h;omega
    .omega);have HA7:Hd (∀o,ab (Ao M w (V+2)) (W7.alloc o) (.slice (some ⟨V+2,0,none⟩) 1 1) [l]->_):=(show∀o,_->_ fromλo hu=>Ap.o (V+2) (W7.alloc o) _ (rB.o.alloc o).1 (by simp[hz7]) (by omega) hu);go_wp2_with fail;refine(HA7.o _ (Yw.o _)).mono ?_;rintro e w8⟨_,rfl,⟨fv,rfl,bo⟩,RE⟩;obtain⟨ga,gc,rfl,_⟩:=bo.open_;have Ur:aq W7 w8:=bO.trans (RE.mono (by simp));have N0:=af (rB.o.below (Ur.mono bq));have HV8:=af ((Ur.block V (by omega)).trans HV7.o);have HL8:=af ((Ur.block (V+1) (by omega)).trans HL7.o);have An:=af bo;have hz8:V+3<=w8.heap.size:=by have:=RE.size;simp[hz7]at this;omega
   clear RE bo Ur y0 y1 y2;have v0:=λo=>ag ((((Qbg _ w8).alloc bq o).block V (by omega)).trans HV8.o) 0;have v1:=λo=>ag ((((Qbg _ w8).alloc bq o).block V (by omega)).trans HV8.o) 1;have v2:=λo=>aD ((((Qbg _ w8).alloc bq o).block V (by omega)).trans HV8.o);have hVl:V<w8.heap.size:=by omega
   have qht:V+1<w8.heap.size:=by omega
   go_upto_region 11 with fail;clear v0 v1 v2;obtain⟨DX,J8⟩:∃DX:World,DX=(w8.setCell ⟨V,0,none⟩ (.bool true)).alloc (cS l.first.name (.slice ga (aI l v).fields.length gc)):=⟨_,rfl⟩;have hO8:ai (λi=>i=V) w8 DX:=by rw[J8];exact((ai.refl (λi=>i=V) w8).setCell (.inl rfl) _).alloc _
   have qe0:DX.heap.size=w8.heap.size+1:=by rw[J8];simp
   have A9:Hd (Bx w [AO false (.slice none 0 0) (.slice none 0 0),Tw k v] DX):=(show Bx _ _ _ from N0.o.only hO8 (by rintro i rfl;simp;omega));have Us:Hd (DX.heap[V]? =some (AO true (.slice none 0 0) (.slice none 0 0))):=(show _=_ by rw[J8];exact(((Qbg _ (w8.setCell ⟨V,0,none⟩ (.bool true))).alloc bq _).block V (by simp;omega)).trans (Qca w8 V 0 _ _ _ HV8.o));have qe1:Hd (DX.heap[V+1]? =some (cD l.first.name (.slice fa l.first.fields.length fc) (.slice ca l.changes.length cc))):=(show _=_ from hO8.at_ HL8.o (by omega));have Um:Hd (DX.heap[w8.heap.size]? =some (cS l.first.name (.slice ga (aI l v).fields.length gc))):=(show _=_ by
    rw[J8];have:=Qbh (w8.setCell ⟨V,0,none⟩ (.bool true)) (cS l.first.name (.slice ga (aI l v).fields.length gc));simpa using this);have RH:Hd (ab (Ao M w (V+2)) DX (.slice ga (aI l v).fields.length gc) (aI l v).fields):=(show ab _ _ _ _ from An.o.ev ⟨hO8.mono (λi hi=> .inr ⟨by omega,by omega⟩),λj hj=> .inl hj⟩);unfold cS at J8;rw[<-J8];clear J8 hO8;generalize w8.heap.size=C at*;obtain⟨y0,y1⟩:=ah Um.o;have v0:=λo=>ag ((((Qbg _ DX).alloc bq o).block V (by omega)).trans Us.o) 0;have v1:=λo=>ag ((((Qbg _ DX).alloc bq o).block V (by omega)).trans Us.o) 1;have v2:=λo=>aD ((((Qbg _ DX).alloc bq o).block V (by omega)).trans Us.o);have qhu:V<DX.heap.size:=by omega
   go_upto_region 12 with fail;clear v0 v1 v2 y0 y1;obtain⟨Cj,RI⟩:∃Cj:World,Cj=(DX.setCell ⟨V,1,none⟩ (.slice (some ⟨C+1,0,none⟩) 1 1)).alloc (.cells #[.string l.first.name, .slice ga (aI l v).fields.length gc, .slice none 0 0] 104):=⟨_,rfl⟩;have RJ:ai (λi=>i=V) DX Cj:=by rw[RI];exact((ai.refl (λi=>i=V) DX).setCell (.inl rfl) _).alloc _
   have qb1:Cj.heap.size=C+2:=by rw[RI];simp[qe0]
   have RG:Hd (Bx w [AO false (.slice none 0 0) (.slice none 0 0),Tw k v] Cj):=(show Bx _ _ _ from A9.o.only RJ (by rintro i rfl;simp;omega));have X4:Hd (Cj.heap[V]? =some (AO true (.slice (some ⟨C+1,0,none⟩) 1 1) (.slice none 0 0))):=(show _=_ by rw[RI];exact(((Qbg _ (DX.setCell ⟨V,1,none⟩ (.slice (some ⟨C+1,0,none⟩) 1 1))).alloc bq _).block V (by simp;omega)).trans (Qca DX V 1 _ _ _ Us.o));have qb2:Hd (Cj.heap[V+1]? =some (cD l.first.name (.slice fa l.first.fields.length fc) (.slice ca l.changes.length cc))):=(show _=_ from RJ.at_ qe1.o (by omega));have X5:Hd (Cj.heap[C]? =some (cS l.first.name (.slice ga (aI l v).fields.length gc))):=(show _=_ from RJ.at_ Um.o (by omega));have qe2:Hd (ab (Ao M w (V+2)) Cj (.slice ga (aI l v).fields.length gc) (aI l v).fields):=(show ab _ _ _ _ from RH.o.ev ⟨RJ.mono (λi hi=> .inr ⟨by omega,by omega⟩),λj hj=> .inl hj⟩);rw[<-RI];clear RI RJ;have qhv:V<Cj.heap.size:=by omega
   obtain⟨y0,y1⟩:=ah X5.o;have y0':=λo=>(ah ((((Qbg _ Cj).alloc bq o).block C (by omega)).trans X5.o)).1;have y1':=λo=>(ah ((((Qbg _ Cj).alloc bq o).block C (by omega)).trans X5.o)).2;have z2:=(aD qb2.o).2.2;have z2':=λo=>(aD ((((Qbg _ Cj).alloc bq o).block (V+1) (by omega)).trans qb2.o)).2.2;have v0:=λo=>ag ((((Qbg _ Cj).alloc bq o).block V (by omega)).trans X4.o) 2;have v2:=λo=>aD ((((Qbg _ Cj).alloc bq o).block V (by omega)).trans X4.o);obtain⟨_,_,ecc,AW,hmc,_⟩:=rA.o.open_;cases ecc;have j0:(0:Int)<=(v:Int):=Qba _;have j1:(v:Int)<=(l.changes.length:Int):=by omega
   have j2:v<=cc:=by omega
   go_cut [](λwx=>∃ap cp,Hd (ab M w (.slice ap (l.changes.length-v) cp) (l.changes.drop v))/\wx=((Cj.alloc (.cells #[.string l.first.name, .slice ga (aI l v).fields.length gc, .slice ap (l.changes.length-v) cp] 104)).setCell ⟨V,2,none⟩ (.slice (some ⟨C+2,0,none⟩) 1 1)).drew);case first=>
    go_region_law fail;all_goals go_wp2_with fail
    all_goals go_meet
    all_goals
     have oU:=Q2.o;rw[show aA.size aB=8 from rfl]at oU;by_cases wT:cc=v
     .rw[if_pos wT,show cc-v=0 from by omega]at oU;first
       |exact⟨_,_,af oU,rfl⟩
       |(exfalso;omega)
       |(exfalso;simp_all;done)
     .rw[if_neg wT]at oU;first
       |exact⟨_,_,af oU,rfl⟩
       |(exfalso;omega)
       |(exfalso;simp_all;done)
   case rest=>
    obtain⟨ap,cp,Yz,Gt⟩:=hcut;clear v0 v2 y0 y1 y0' y1' z2 z2';have hX:ai (λi=>i=V) Cj wc:=by rw[Gt];exact(((ai.refl (λi=>i=V) Cj).alloc _).setCell (.inl rfl) _).drewN 1
    have qhw:wc.heap.size=C+3:=by rw[Gt];show((Cj.alloc _).setCell _ _).heap.size=_;simp[qb1]
    have J9:Hd (Bx w [AO false (.slice none 0 0) (.slice none 0 0),Tw k v] wc):=(show Bx _ _ _ from RG.o.only hX (by rintro i rfl;simp;omega));have X6:Hd (wc.heap[V]? =some (AO true (.slice (some ⟨C+1,0,none⟩) 1 1) (.slice (some ⟨C+2,0,none⟩) 1 1))):=(show _=_ by
     rw[Gt];exact Qca _ V 2 _ _ _ ((bO.block V (by omega)).trans X4.o));have qe3:Hd (wc.heap[C+2]? =some (.cells #[.string l.first.name, .slice ga (aI l v).fields.length gc, .slice ap (l.changes.length-v) cp] 104 (0,0))):=(show _=_ by
     rw[Gt,<-qb1];exact(Qag _ _ _ _ (by simp;omega)).trans (Qbh Cj _));have qe4:Hd (ab (Ao M w (V+2)) wc (.slice ga (aI l v).fields.length gc) (aI l v).fields):=(show ab _ _ _ _ from qe2.o.ev ⟨hX.mono (λi hi=> .inr ⟨by omega,by omega⟩),λj hj=> .inl hj⟩);have qb3:Hd (ab (Ao M w (V+2)) wc (.slice (some ⟨C+2,0,none⟩) 1 1) [dW l v]):=(show ab _ _ _ _ from row_one (l:=dW l v) (t:=104) (by show wc.heap[C+2]? =some (.cells #[.string (aI l v).name,_,_] _ _);rw[HLO.o.name v];exact qe3.o) (λh=>by
     rcases h with h|h
     .have:=np.o _ h;omega
     .omega) qe4.o (by
     exact Yz.o.ev (rO _ J9.o.1)) (by show(aI l v).name.size<=_;rw[HLO.o.name v];exact oZ.o));have hMP:cg Jl wc b es clk:=(dn.o wc J9.o.1).2;obtain⟨wa,ea,ma,oa⟩:=cg.Wh Jl underlying218 tF C4 hMP ((k:Int),(v:Int)) (Qf (.slice (some ⟨C+1,0,none⟩) 1 1) (.slice (some ⟨C+2,0,none⟩) 1 1)) (X3.o (by first|trivial|rfl));obtain⟨wb,eb,mb,ob⟩:=cg.Wh (w:=wc.drew) Jl underlying218 tF C4 hMP ((k:Int),(v:Int)) (Qf (.slice (some ⟨C+1,0,none⟩) 1 1) (.slice (some ⟨C+2,0,none⟩) 1 1)) (X3.o (by first|trivial|rfl));have HMA:=af (And.intro ma oa);have QS:=af (And.intro mb (((ai.refl (λi=>i=b) wc).drewN 1).trans ob));unfold Qf at ea eb;clear Gt hX hMP ma mb oa ob;have g1:=(ah (dn.o wc J9.o.1).1).2;obtain⟨d0,d1⟩:=ah (J9.o.cE rfl);obtain⟨v0,v1,v2⟩:=aD X6.o;obtain⟨wr,hwr⟩:∃wr:World,wr=wc:=⟨_,rfl⟩;rw[<-hwr]at HMA QS J9 X6 qb3;have U6:=af hwr;clear hwr;go_upto_region 13 with fail;go_cut [](λwx=>Hd (cg Jl wx b (es++[(((k:Int),(v:Int)),Qf (.slice (some ⟨C+1,0,none⟩) 1 1) (.slice (some ⟨C+2,0,none⟩) 1 1),clk)]) (clk+1)/\ai (λi=>i=b) wr wx));case first=>
     go_region_law fail;all_goals go_wp2_with fail
     all_goals go_meet
     all_goals first|exact QS|exact HMA|trace_state
    case rest=>
     obtain⟨mp,ho⟩:=hcut.o;clear v0 v1 v2 d0 d1 g1 ea eb;have hMB:=HMB.o;have kD:aq w wr:=J9.o.1;have hO:ai (λi=>i=b) w wc:=(ai.ao kD).trans ho;obtain⟨v0,v1,v2⟩:=aD (ho.at_ X6.o (by omega));have h0:=ho.at_ (J9.o.bJ rfl) (by omega);obtain⟨r0,r1,r2⟩:=aD h0;obtain⟨f0,f1⟩:=nu h0;have f2:=ag h0 2;have HMP:=af mp;have HO:=af hO;have HOW:=af ho;clear mp hO ho hcut h0;go_wp2_with fail;have oz:ai (λi=>i=w.heap.size) wc (((wc.setCell ⟨w.heap.size,0,none⟩ (.bool true)).setCell ⟨w.heap.size,1,none⟩ (.slice (some ⟨C+1,0,none⟩) 1 1)).setCell ⟨w.heap.size,2,none⟩ (.slice (some ⟨C+2,0,none⟩) 1 1)):=(((ai.refl (λi=>i=w.heap.size) wc).setCell (.inl rfl) _).setCell (.inl rfl) _).setCell (.inl rfl) _;have ozw:ai (λi=>i=b) w (((wc.setCell ⟨w.heap.size,0,none⟩ (.bool true)).setCell ⟨w.heap.size,1,none⟩ (.slice (some ⟨C+1,0,none⟩) 1 1)).setCell ⟨w.heap.size,2,none⟩ (.slice (some ⟨C+2,0,none⟩) 1 1)):=((HO.o.setCell (.inr bq) _).setCell (.inr bq) _).setCell (.inr bq) _;have hbM:=Dl;have GG:=(qb3.o.ev ⟨(HOW.o.mono (T:=Ao M w (V+2)) (λi hi=> .inl (by subst hi;exact hbM))).trans (oz.mono (λi hi=> .inr (by omega))),λi hi=> .inl hi⟩).ev (Ev.eG (N:=M) _ λi hi=> .inl hi);refine Qae (v:=Qf (.slice (some ⟨C+1,0,none⟩) 1 1) (.slice (some ⟨C+2,0,none⟩) 1 1)) (by simp[results,results143,go_sem,r0,r1,r2,Qf]) rfl ⟨⟨_,_,_,_,rfl,GG⟩,?_,ozw⟩;refine⟨ozw.at_ iA.o.cell Gx,iA.o.lines.ev ⟨ozw.mono (λi hi=>by subst hi;exact hbM),λi hi=> .inl hi⟩,_,_,oz.at_ HMP.o (by omega),λx val hx=> ?_⟩;rw[BS _ (X3.o (by first|trivial|rfl))]at hx;by_cases hxe:x=((k:Int),(v:Int))
     .rw[if_pos hxe]at hx;cases hx;exact⟨k,v,l,_,_,_,_,_,_,hxe,hk,hv,rfl,GG⟩
     .rw[if_neg hxe]at hx;obtain⟨k',v',l',a1,a2,n1,c1,n2,c2,e1,e2,e3,e4,e6⟩:=HES.o _ _ hx;exact⟨k',v',l',a1,a2,n1,c1,n2,c2,e1,e2,e3,e4,e6.ev ⟨ozw.mono (λi hi=>by subst hi;exact hbM),λi hi=> .inl hi⟩⟩
theorem Qh {l:aK}(hl:eh l):eI [l]:=by
 refine⟨by simp,?_,?_⟩
 .intro x hx;rcases List.mem_singleton.1 hx with rfl;exact hl
 .intro i x hi;match i,hi with
  |0,hi=>simp at hi;subst hi;simp[eu,bV,idxOf]
  |i+1,hi=>simp at hi
theorem Jm(ls:List aK)(h:eI ls)(k:Nat)(l:aK)(hk:ls[k]? =some l)(x:bH)(v:Nat)(many:Int)(hm:many<=100000)(hc:x.cls=k)(wX:x.ver=v)(Q8:v<=l.changes.length)(hx:SW many x)(hv:aW (aI l v).fields many x.aJ)(M:aS)(w0 w:aj)(hM:Bd M w)(hG:Gd w0)(kD:aq w0 w)(p b:Nat)(Gx:p≠b)(Dl:M b)(hb:w0.heap.size<=b)(sv vv:an)(hB:rj ls M p b sv w)(dt:ab M w vv x.aJ):
 xC 92 #[xP p, .agg #[xI x.id,xI x.cls,xI x.ver,vv]] w λe w'=>(∃us uv,e=xR (.tuple #[.agg #[xI x.id,xI k,xI l.changes.length,uv],xB true])/\gi (aI l v) (l.changes.drop v) many x.aJ us/\ab M w' uv us)/\rj ls M p b sv w'/\ai (λi=>i=b) w w':=by
 have ug:=h.lines l (Qaf hk);have oU:=ug.from_ v;have HVW:Hd (∀W,aq w W->w.heap.size+2<=W.heap.size->_):=λW aC h2=>Ty ls h k l hk v Q8 (dP M w 2) W (dp hM h2) ((hG.below kD).below aC) p b Gx (.inl Dl) sv (hB.ev (cW aC) (aC.block _ (Qaa.1 hB.cell).1) (aC.block _ (hM b Dl)));have Uj:Hd (∀W u,aq w0 W->w.heap.size+2<=W.heap.size->ab (dP M w 2) W u [dW l v]->ab (dP M w 2) W vv x.aJ->xC 47 #[.agg #[u], .agg #[xI x.id,xI 0,xI 0,vv]] W (bW W λr w'=>∃us uv,r= .tuple #[.agg #[xI x.id,xI 0,xI ((l.changes.length-v:Nat):Int),uv],xI 0]/\gi (aI l v) (l.changes.drop v) many x.aJ us/\ab (dP M w 2) w' uv us)):=λW u h1 h2 h3 h4=>by
  have hh:=zI [dW l v] (Qh oU) 0 (dW l v) rfl ⟨x.id,0,0,x.aJ⟩ 0 many hm rfl rfl (Qbf _) ⟨hx.id1,hx.id2,Int.le_refl _,by show(0:Int)<8;omega,Int.le_refl _,by show(0:Int)<=12;omega,hx.aJ,hx.len⟩ (by rw[pG];exact hv) (dP M w 2) W (dp hM h2) (hG.below h1) u vv h3 h4;rw[pG,show v+0=v from rfl,show(dW l v).changes.drop 0=l.changes.drop v from rfl,show((dW l v).changes.length:Int)=((l.changes.length-v:Nat):Int)from by simp[dW]]at hh;exact hh
 obtain⟨xi,xc,xv,xs⟩:=x;dsimp only at*;subst hc;subst wX;obtain⟨va,vc,rfl,_⟩:=dt.open_;have AZ:=af dt;have iA:=af hB;have Ce:=af kD;have Gr:=af hb;have HMB:=af (hM b Dl);have i0:(0:Int)<=(v:Int):=Qba _;have i1:(v:Int)<=(l.changes.length:Int):=by omega
 have i2:(l.changes.length:Int)<=5:=by have:=ug.len;omega
 have i3:IntKind.i64.wrap (((l.changes.length-v:Nat):Int)+(v:Int))=(l.changes.length:Int):=by
  rw[show((l.changes.length-v:Nat):Int)+(v:Int)=(l.changes.length:Int)from by omega];exact Qbe _ (by omega)
 have bN:=af (Bx.dh w (eY ⟨xi,(k:Int),(v:Int),xs⟩ (xL va xs.length vc)) (eY ⟨0,0,0,[]⟩ (xL none 0 0)));obtain⟨o0,o1,o2,o3⟩:=ae (bN.o.bJ rfl);clear dt hB kD hb h hG ug oU hx hv;go_enter func92,ntmps92;go_wp2_with fail;refine(HVW.o _ bN.o.1 bN.o.bY).mono ?_;rintro e w1⟨⟨Uo,Up,Uq,s2,rfl,jC⟩,Lh,fJ⟩;obtain⟨a2,c2,rfl,_⟩:=jC.open_;unfold Qf;have hMB:=HMB.o;have cY:w.heap.size+2<=w1.heap.size:=Qcg (by simp) fJ.size;have XW:=af Lh;have eB:=af jC;have iM:ai (λi=>i=b) w w1:=(ai.ao bN.o.1).trans fJ;have oP:=af iM;have aO:Hd (aq w0 w1):=cX Ce.o Ce.o.size iM (λi hi=>by subst hi;exact Gr.o);have Zg:Hd (dY w1 w (eY ⟨xi,(k:Int),(v:Int),xs⟩ (xL va xs.length vc))):=fJ.at_ (bN.o.bJ rfl) (by omega);have rA:Hd (cI w1 (w.heap.size+1) (eY ⟨0,0,0,[]⟩ (xL none 0 0))):=fJ.at_ (bN.o.cE rfl) (by omega);have qe5:Hd (ab (dP M w 2) w1 (xL va xs.length vc) xs):=(AZ.o.ev (cW bN.o.1)).ev ⟨fJ.mono (λi hi=> .inl (by subst hi;exact Dl)),λi hi=> .inl hi⟩;clear o0 o1 o2 o3 Lh jC fJ iM;have aY:∀o i(h:i<w1.heap.size),(w1.alloc o).heap[i]? =w1.heap[i]? :=λo i h=>((Qbg _ w1).alloc bq o).block i h;have x0:=λo=>ae ((aY o w.heap.size (by omega)).trans Zg.o);have f1:=λo=>ag ((aY o w.heap.size (by omega)).trans Zg.o) 1;have f2:=λo=>ag ((aY o w.heap.size (by omega)).trans Zg.o) 2;have aX:w.heap.size<w1.heap.size:=by omega
 clear aY;go_upto_region 4 with fail;go_quiet(fail);go_upto_region 6 with fail;clear x0 f1 f2;obtain⟨W6,tQ⟩:=cM ((((w1.alloc (AO true (xL Uo Up Uq) (xL a2 1 c2))).drewN nq).setCell ⟨w.heap.size,1,none⟩ (xI 0)).setCell ⟨w.heap.size,2,none⟩ (xI 0));have O6:ai (λi=>i=w.heap.size) w1 W6:=by rw[tQ];exact((((ai.refl (λi=>i=w.heap.size) w1).alloc _).drewN nq).setCell (.inl rfl) _).setCell (.inl rfl) _
 have hz6:W6.heap.size=w1.heap.size+1:=by
  rw[tQ];have:((w1.alloc (AO true (xL Uo Up Uq) (xL a2 1 c2))).drewN nq).heap.size=w1.heap.size+1:=by show(w1.alloc _).heap.size=_;simp
  simp[this]
 have HD0:=af (show dY W6 w (eY ⟨xi,0,0,xs⟩ (xL va xs.length vc))by
  rw[tQ];exact Qca _ _ 2 _ _ _ (Qca _ _ 1 _ _ _ ((bO.block w.heap.size (by omega)).trans Zg.o)));have HV6:=af (show dY W6 w1 (AO true (xL Uo Up Uq) (xL a2 1 c2))by
  rw[tQ];exact(Qag _ _ _ _ (by simp;omega)).trans ((Qag _ _ _ _ (by simp;omega)).trans (Qbh w1 _)));have HD1:Hd (cI W6 (w.heap.size+1) (eY ⟨0,0,0,[]⟩ (xL none 0 0))):=O6.at_ rA.o (by omega);have nt:Hd (aq w0 W6):=cX aO.o aO.o.size O6 (λi hi=>by subst hi;exact Ce.o.size);have e6:Ev (dP M w 2) w1 (dP M w 2) W6:=⟨O6.mono (λi hi=> .inr ⟨by omega,by omega⟩),λi hi=> .inl hi⟩;have Gw:=af (eB.o.ev e6);have qe6:=af (qe5.o.ev e6);have UT:=af O6;have bt:=af (Uj.o W6 _ nt.o (by omega) Gw.o qe6.o);unfold AO at tQ;rw[<-tQ];clear tQ O6 e6;obtain⟨x0,x1,x2,x3⟩:=ae HD0.o;obtain⟨y0,y1,y2⟩:=aD HV6.o;go_wp2_with fail;refine(bt.o).mono ?_;rintro e w7⟨_,rfl,⟨us,uv,rfl,DW,bo⟩,iK⟩;obtain⟨ya,yc,rfl,_⟩:=bo.open_;have Su:=af DW;have eE:=af bo;have rB:=af iK;have hz7:w1.heap.size+1<=w7.heap.size:=by have:=iK.size;omega
 have HE1:=af ((iK.block _ (by omega)).trans HD1.o);clear x0 x1 x2 x3 y0 y1 y2 DW bo iK;have vi:w.heap.size+1<w7.heap.size:=by omega
 go_upto_region 11 with fail;obtain⟨WA,hWA⟩:=cM (w7.alloc (eY ⟨xi,(k:Int),(l.changes.length:Int),us⟩ (xL ya us.length yc)));have hba:aq w7 WA:=by rw[hWA];exact bO
 have Vy:=af (show dY WA w7 (eY ⟨xi,(k:Int),(l.changes.length:Int),us⟩ (xL ya us.length yc))by rw[hWA];exact Qbh w7 _);have hEA:=(hba.block _ vi).trans HE1.o;have DR:=af hba;unfold eY at hWA;rw[<-hWA];clear hWA hba;obtain⟨x0,x1,x2,x3⟩:=ae Vy.o;obtain⟨r0,r1,r2,r3⟩:=ae hEA;obtain⟨g0,g1,g2,g3⟩:=ic hEA;clear hEA;go_wp2_with fail;have hp:=(Qaa.1 iA.o.cell).1;have o0:ai (λi=>i=w.heap.size\/i=w.heap.size+1) w1 WA:=(UT.o.mono (λi hi=> .inl hi)).trans (ai.ao (rB.o.trans (DR.o.mono rB.o.size)));have o1:=(((o0.setCell (p:=⟨w.heap.size+1,0,none⟩) (.inl (.inr rfl)) (xI xi)).setCell (p:=⟨w.heap.size+1,1,none⟩) (.inl (.inr rfl)) (xI k)).setCell (p:=⟨w.heap.size+1,2,none⟩) (.inl (.inr rfl)) (xI l.changes.length)).setCell (p:=⟨w.heap.size+1,3,none⟩) (.inl (.inr rfl)) (xL ya us.length yc);have o7:=((((ai.ao (S:=dP M w 2) DR.o).setCell (p:=⟨w.heap.size+1,0,none⟩) (.inl (.inr ⟨by simp,by simp⟩)) (xI xi)).setCell (p:=⟨w.heap.size+1,1,none⟩) (.inl (.inr ⟨by simp,by simp⟩)) (xI k)).setCell (p:=⟨w.heap.size+1,2,none⟩) (.inl (.inr ⟨by simp,by simp⟩)) (xI l.changes.length)).setCell (p:=⟨w.heap.size+1,3,none⟩) (.inl (.inr ⟨by simp,by simp⟩)) (xL ya us.length yc);refine Qae (v:= .tuple #[.agg #[xI xi,xI k,xI l.changes.length,xL ya us.length yc],xB true]) (by simp[results,results92,go_sem,r0,r1,r2,r3]) rfl ⟨⟨_,_,rfl,Su.o,?_⟩,?_,?_⟩
 .exact(eE.o.ev ⟨o7,λi hi=> .inl hi⟩).ev (Ev.eG _ λi hi=> .inl hi)
 .exact(XW.o.ev ⟨o1.mono (λi hi=> .inr (by omega)),λi hi=> .inl hi⟩ (o1.block p (by omega) (by omega)) (o1.block b (by omega) (by omega))).ev (Ev.eG _ λi hi=> .inl hi) rfl rfl
 .exact oP.o.dc o1 (λi hi aX=>by omega)
theorem Jn {uv:an}{a b c:Int}(h1:aq w W1)(hz:W1.heap.size=w.heap.size+1)(hx:dY w3 W1 (xK #[c0,c1,c2,c3] 65))(hj:aq W1 w3)(hs:ab (Ao M w (w.heap.size+2)) w3 uv us):
 aq w ((((w3.setCell ⟨W1.heap.size,0,none⟩ (xI a)).setCell ⟨W1.heap.size,1,none⟩ (xI b)).setCell ⟨W1.heap.size,2,none⟩ (xI c)).setCell ⟨W1.heap.size,3,none⟩ uv)/\((((w3.setCell ⟨W1.heap.size,0,none⟩ (xI a)).setCell ⟨W1.heap.size,1,none⟩ (xI b)).setCell ⟨W1.heap.size,2,none⟩ (xI c)).setCell ⟨W1.heap.size,3,none⟩ uv).heap[W1.heap.size]? =some (eY ⟨a,b,c,us⟩ uv)/\ab M ((((w3.setCell ⟨W1.heap.size,0,none⟩ (xI a)).setCell ⟨W1.heap.size,1,none⟩ (xI b)).setCell ⟨W1.heap.size,2,none⟩ (xI c)).setCell ⟨W1.heap.size,3,none⟩ uv) uv us:=by
 refine⟨h1.trans (((((hj.setCell bq _).setCell bq _).setCell bq _).setCell bq _).mono h1.size),?_,?_⟩
 .have:=dM (o:=0) hx (xI a) (xI b) (xI c) uv;simpa [eY]using this
 .have hv:Ao M w (w.heap.size+2) W1.heap.size:= .inr ⟨by omega,by omega⟩;exact hs.ev (((((Ev.eG w3 λi hi=> .inl hi).setCell (.inl hv) _).setCell (.inl hv) _).setCell (.inl hv) _).setCell (.inl hv) _)
theorem zJ {uv:an}{a b c:Int}{T:Nat}(h1:aq w W1)(hj:aq W1 w3)(hs:ab (Ao M w T) w3 uv us):
 aq w (w3.alloc (xK #[xI a,xI b,xI c,uv] 65))/\(w3.alloc (xK #[xI a,xI b,xI c,uv] 65)).heap[w3.heap.size]? =some (eY ⟨a,b,c,us⟩ uv)/\ab M (w3.alloc (xK #[xI a,xI b,xI c,uv] 65)) uv us:=
 ⟨h1.trans ((hj.alloc hj.size _).mono h1.size),Qbh w3 _,(hs.below bO).ev (Ev.eG _ λi hi=> .inl hi)⟩
theorem Jo(x:bE)(h:fL x)(M:aS)(w:aj)(hM:Bd M w)(hG:Gd w)(lv ov:an)(ra:dC)(rn rc:Nat)(j8:ab M w lv x.lines)(kn:ab M w ov x.objs)(i:Nat)(hi:i<x.objs.length):
 xG 25 #[.agg #[lv,ov,xL ra rn rc,xI x.next],xI ((i:Int)+1)] w λu w'=>ab M w' u (cZ x ((i:Int)+1)):=by
 obtain⟨o,ho⟩:=dQ x.objs i hi;obtain⟨k,v,l,oS⟩:=(h.objs i o ho).2;have hoc:=h.ZP ho oS;have GY:=h.len;have hRF:cZ x ((i:Int)+1)=refsOf l v o.aJ:=by
  unfold cZ;rw[if_neg (by omega),show((i:Int)+1-1).toNat=i from by omega,ho];dsimp only;rw[oS.cls,oS.ver,show((k:Nat):Int).toNat=k from rfl,oS.line];rfl
 rw[hRF];have HP:=fV (w:=w) (λW hb=>OT M W ov x.objs (kn.below hb) (by omega) ((i:Int)+1));rw[h.place hi]at HP;obtain⟨b,off,cap,va,vc,rfl,cw,dt,aw⟩:=eD kn ho;have tP:=af aw;have Uj:Hd (∀T W,aq w W->T<=W.heap.size->_):=λT W hb hT=>zI x.lines h.sch k l oS.line o v x.objs.length (by omega) oS.cls oS.ver oS.le hoc oS.aJ (Ao M w T) W (C5 hM hb hT) (hG.below hb) lv _ (j8.ev (rO T hb)) (dt.ev (rO T hb));have HRE:Hd (∀W uv us,aq w W->gi (aI l v) (l.changes.drop v) x.objs.length o.aJ us->ab M W uv us->xC 48 #[.agg #[xI o.id,xI o.cls,xI l.changes.length,uv]] W (bW W λu w'=>ab M w' u (refsOf l v o.aJ))):=λW uv us hb DW hu=>by
  have hlen:=((bc (kb (aI l v) (l.changes.drop v))).1 (by
   have hc:=((h.sch.lines l (Qaf oS.line)).from_ v).oF (l.changes.drop v).length;have e:aI (dW l v) (l.changes.drop v).length=kb (aI l v) (l.changes.drop v):=by
    show kb (aI l v) ((l.changes.drop v).take _)=_;rw[List.take_length]
   rw[<-e];exact hc.right)).2.1;have hh:=CF ⟨o.id,o.cls,l.changes.length,us⟩ x.objs.length (by omega) _ DW.1 (by rw[DW.1.1];omega) M W (hM.below hb) uv hu (hG.tb.below hb);rw[<-DW.refs];exact hh
 obtain⟨la,lc,rfl,_⟩:=j8.open_;have wT:=oS.cls;obtain⟨oi,oc,ov,os⟩:=o;dsimp only at*;subst wT;have hii:(0:Int)<=(i:Int):=Qba _;have U5:(i:Int)<(x.objs.length:Int):=by omega
 have bN:=af (Bx.dR w (rN (xL la x.lines.length lc) (xL (some ⟨b,off,none⟩) x.objs.length cap) (xL ra rn rc) x.next));obtain⟨y0,y1,y2,y3⟩:=ae (bN.o.bJ rfl);clear aw j8 kn dt hM hG ho oS hoc hRF h;go_enter func25,ntmps25;go_wp2_with fail;refine(HP.o _ bN.o.1).mono ?_;rintro e w1⟨rfl,rfl⟩;go_upto_region 4 with fail;obtain⟨W1,dS⟩:=cM (w.alloc (rN (xL la x.lines.length lc) (xL (some ⟨b,off,none⟩) x.objs.length cap) (xL ra rn rc) x.next));rw[<-dS]at bN;have cY:W1.heap.size=w.heap.size+1:=by rw[dS];simp
 rw[<-dS];clear dS y0 y1 y2 y3;have jU:Hd (aq w W1):=bN.o.1;have dn:Hd (∀W,aq W1 W->pd W w 0 (xL la x.lines.length lc)/\pd W w 1 (xL (some ⟨b,off,none⟩) x.objs.length cap)/\aU W b (off+i*4) (xI oi)/\aU W b (off+i*4+1) (xI k)/\aU W b (off+i*4+2) (xI ov)/\aU W b (off+i*4+3) (xL va os.length vc)):=λW hb=>by
  have h4:=ae ((bN.o.below hb).bJ rfl);have h5:=tP.o W (bN.o.below hb).1;exact⟨h4.1,h4.2.1,h5.1,h5.2.1,h5.2.2.1,h5.2.2.2⟩
 have HJ:Hd (aq W1 W1):=dK;have rC:Hd (w.heap.size<=W1.drew.heap.size):=jU.o.size;have eB:Hd (∀o,w.heap.size+2<=(W1.alloc o).drew.heap.size):=λo=>by show w.heap.size+2<=(W1.alloc o).heap.size;simp[cY]
 have iq:Hd (∀o,w.heap.size+2<=(W1.drew.alloc o).heap.size):=λo=>by show w.heap.size+2<=(W1.alloc o).heap.size;simp[cY]
 have RL:=af cY;clear cY;go_cut [6,7](λs6 s7 wx=>∃K us uc ua,s6=xP K/\s7=xI 0/\Hd (aq w wx)/\Hd (cI wx K (eY ⟨oi,k,l.changes.length,us⟩ (xL ua us.length uc)))/\Hd (gi (aI l v) (l.changes.drop v) x.objs.length os us/\ab M wx (xL ua us.length uc) us));case first=>
  go_region_held3(λw'=>w'.cell? ⟨w.heap.size,0,none⟩=some (xL la x.lines.length lc)/\w'.cell? ⟨w.heap.size,1,none⟩=some (xL (some ⟨b,off,none⟩) x.objs.length cap)/\w'.cell? ⟨b,off+i*4,none⟩=some (xI oi)/\w'.cell? ⟨b,off+i*4+1,none⟩=some (xI k)/\w'.cell? ⟨b,off+i*4+2,none⟩=some (xI ov)/\w'.cell? ⟨b,off+i*4+3,none⟩=some (xL va os.length vc))
   (with_reducible first|exact dn.o _ HJ.o|exact dn.o _ HJ.o.drew|exact dn.o _ (HJ.o.alloc HJ.o.size _)|exact dn.o _ ((HJ.o.alloc HJ.o.size _).drew)|exact dn.o _ (HJ.o.drew.alloc HJ.o.size _)|exact dn.o _ cR.o|exact dn.o _ (cR.o.alloc cR.o.size _)|exact dn.o _ ((((cR.o.setCell bq _).setCell bq _).setCell bq _).setCell bq _))
   (first|(go_at_call 47;first
           |(with_reducible refine(Uj.o w.heap.size _ jU.o.drew rC.o).mono ?_)
           |(with_reducible refine(Uj.o (w.heap.size+2) _ (jU.o.alloc jU.o.size _).drew (eB.o _)).mono ?_)
           |(with_reducible refine(Uj.o (w.heap.size+2) _ (jU.o.drew.alloc jU.o.size _) (iq.o _)).mono ?_)
           |fail
           rintro e w3⟨_,rfl,⟨us,uv,rfl,DW,bo⟩,bG⟩;obtain⟨ua,uc,rfl,_⟩:=bo.open_;have Su:=af DW;have eE:=af bo;try(with_reducible(have HX:=af (Yq bG)))
           try(with_reducible(have HX:=af (Yr bG)))
           try(have g0:=ag HX.o 0)
           try(have g1:=ag HX.o 1)
           try(have g2:=ag HX.o 2)
           try(have g3:=ag HX.o 3)
           try(have hq:=ae HX.o)
           have cR:Hd (aq W1 w3):=(by with_reducible first|exact af (AK bG)|exact af (Tp bG)|exact af (Tq bG));clear DW bo bG));all_goals(go_wp2;go_meet)
  all_goals first
   |exact⟨_,us,uc,ua,rfl,rfl,af (Jn (us:=us) jU.o RL.o HX.o cR.o eE.o).1,af (Jn (us:=us) jU.o RL.o HX.o cR.o eE.o).2.1,af ⟨Su.o,(Jn (us:=us) jU.o RL.o HX.o cR.o eE.o).2.2⟩⟩
   |exact⟨_,us,uc,ua,rfl,rfl,af (zJ jU.o cR.o eE.o).1,af (zJ jU.o cR.o eE.o).2.1,af ⟨Su.o,(zJ jU.o cR.o eE.o).2.2⟩⟩
 case rest=>
  obtain⟨K,us,uc,ua,rfl,rfl,j7,uh,Xn⟩:=hcut;obtain⟨k0,k1,k2,k3⟩:=ae uh.o;have GO:=af (HRE.o _ _ _ j7.o Xn.o.1 (Xn.o.2));go_wp2_with fail;refine(GO.o).mono ?_;rintro e w6⟨_,rfl,bo,sj⟩;obtain⟨za,zc,rfl,_⟩:=bo.open_;have eE:=af bo;have nt:=af (j7.o.trans (sj.mono j7.o.size));clear bo sj;go_wp2;go_ret;exact⟨_,rfl,eE.o,nt.o⟩
theorem FT:(Tryz.prog.info? 65).map (λi=>(i.zero,i.size,i.bytes))=some (some (.agg #[xI 0,xI 0,xI 0,xL none 0 0]),4,48):=by kernel_rfl
def GL(M:aS)(w:aj)(b P:Nat):Nat->Prop:=λi=>M i\/i=w.heap.size+1\/i=b\/i=P\/i=P+1
structure NK(w:aj)(P p b:Nat):Prop where
 pb:p≠b
 p1:w.heap.size+2<=p
 p2:p<P
 b1:w.heap.size+2<=b
 b2:b<P
structure jg(x:bE)(M:aS)(w:aj)(P p b:Nat)(sv:an)(o0 o1:Obj)(W:aj)(i j:Nat)(v:an):Prop where
 bx:Bx w [o0,o1] W
 book:rj x.lines (bB v (GL M w b P)) p b sv W
 late:∃ls:List bH,aP (α:=bH) (GL M w b P) (P+2) 65 W v ls/\ls.length=i/\∀(k:Nat)o,ls[k]? =some o->jb x k o
 place:∃es clk,cg nU W P es clk/\∀n:Int,bP es n=if 1<=n/\n<=j then some (xI (n-1))else none
 g:W.heap[P+1]? =some (jS v P)
section
variable {x:bE}{M:aS}{w:aj}{P p b:Nat}{sv:an}{o0 o1:Obj}{W W' w4:aj}{i j:Nat}{v v2:an}
theorem jg.lt(h:jg x M w P p b sv o0 o1 W i j v):P+2<=W.heap.size:=(Qaa.1 h.g).1
theorem jg.below(h:jg x M w P p b sv o0 o1 W i j v)(c:NK w P p b)(hb:aq W W'):jg x M w P p b sv o0 o1 W' i j v:=by
 have hl:=h.lt;have:=c.p2;have:=c.b2;obtain⟨h1,h2,⟨ls,h3,h4⟩,⟨es,clk,h5,h6⟩,h7⟩:=h;exact⟨h1.below hb,h2.ev (Ev.ao hb) (hb.block _ (by omega)) (hb.block _ (by omega)),⟨ls,h3.below hb,h4⟩,⟨es,clk,(hb.block _ (by omega)).trans h5,h6⟩,(hb.block _ (by omega)).trans h7⟩
theorem jg.bd(h:jg x M w P p b sv o0 o1 W i j v)(c:NK w P p b)(hM:Bd M w):Bd (bB v (GL M w b P)) W:=λk hk=>by
 have hl:=h.lt;have:=c.p2;have:=c.b2;have:=c.p1;rcases hk with(hk|hk|hk|hk|hk)|hk
 .exact Qde (hM k hk) h.bx.1.size
 .omega
 .omega
 .omega
 .omega
 .obtain⟨ls,h3,_⟩:=h.late;exact(h3.dU k hk).2
theorem jg.ev(h:jg x M w P p b sv o0 o1 W i j v)(c:NK w P p b):Ev M w (bB v (GL M w b P)) W:=⟨ai.ao h.bx.1,λk hk=>by
 have:=c.p2;have:=c.b1;have:=c.p1;rcases hk with(hk|hk|hk|hk|hk)|hk
 .exact .inl hk
 .right;omega
 .right;omega
 .right;omega
 .right;omega
 .obtain⟨ls,h3,_⟩:=h.late;have:=(h3.dU k hk).1;right;omega⟩
theorem jg.IF(h:jg x M w P p b sv o0 o1 W i j v)(c:NK w P p b)(hB:rj x.lines (bB v (GL M w b P)) p b sv W')(ho:ai (λk=>k=b) W W'):jg x M w P p b sv o0 o1 W' i j v:=by
 have:=c.p2;have:=c.b2;have:=c.b1;obtain⟨h1,h2,⟨ls,h3,h4⟩,⟨es,clk,h5,h6⟩,h7⟩:=h;exact⟨h1.only ho (λk hk=>by subst hk;simp;omega),hB,⟨ls,h3.only ho (λk hk=>⟨.inr (.inr (.inl hk)),by have hh:k=b:=hk;omega⟩),h4⟩,⟨es,clk,ho.at_ h5 (by omega),h6⟩,ho.at_ h7 (by omega)⟩
theorem jg.next(h:jg x M w P p b sv o0 o1 W i j v)(c:NK w P p b){o:bH}(ho:jb x i o)(ob:Obj){ls:List bH}(h4:ls.length=i)(WO:∀(k:Nat)o,ls[k]? =some o->jb x k o)(hacc:aP (α:=bH) (GL M w b P) (P+2) 65 w4 v2 (ls++[o]))(A5:Ev (bB v (GL M w b P)) (W.alloc ob) (bB v2 (GL M w b P)) w4)(hb:Below (P+2) (W.alloc ob) w4):
 jg x M w P p b sv o0 o1 (w4.setCell ⟨P+1,0,none⟩ v2) (i+1) j v2:=by
 have hl:=h.lt;have c1:=c.p2;have c2:=c.b2;have c3:=c.p1;have e1:∀k,k<P+2->w4.heap[k]? =W.heap[k]? :=λk hk=>(hb.block k hk).trans (((Qbg _ W).alloc bq ob).block k (by omega));have e2:∀k,k≠P+1->k<P+2->(w4.setCell ⟨P+1,0,none⟩ v2).heap[k]? =W.heap[k]? :=λk hn hk=>(Qag _ _ _ _ hn).trans (e1 k hk);have hE:Ev (bB v (GL M w b P)) W (bB v2 (GL M w b P)) (w4.setCell ⟨P+1,0,none⟩ v2):=by
  refine⟨ai.setCell ((ai.refl _ W).alloc ob|>.trans A5.only) (p:=⟨P+1,0,none⟩) (.inl (.inl (.inr (.inr (.inr (.inr rfl)))))) _,λk hk=> ?_⟩;rcases A5.sub k hk with h1|h1
  .exact .inl h1
  .right;have:(W.alloc ob).heap.size=W.heap.size+1:=by simp
   omega
 obtain⟨h1,h2,_,⟨es,clk,h5,h6⟩,h7⟩:=h;refine⟨?_,h2.ev hE (e2 _ (by omega) (by omega)) (e2 _ (by omega) (by omega)),⟨ls++[o],?_,by simp[h4],λk y hy=> ?_⟩,⟨es,clk,(e2 _ (by omega) (by omega)).trans h5,h6⟩,?_⟩
 .exact((h1.alloc ob).cP hb (by simp;omega)).cP (B:=P+1) ((Qbg (P+1) w4).setCell (p:=⟨P+1,0,none⟩) (Qab (P+1)) v2) (by simp;omega)
 .exact hacc.uz (p:=⟨P+1,0,none⟩) (.inr (.inr (.inr (.inr rfl)))) (by show P+1<P+2;omega) _
 .by_cases hk:k<ls.length
  .rw[Qbc hk]at hy;exact WO k y hy
  .have:k=ls.length:=by
    have:=(Qad.1 hy).1;simp at this;omega
   subst this;simp at hy;subst hy;rw[h4];exact ho
 .have:=Qca w4 (P+1) 0 _ _ v2 ((e1 _ (by omega)).trans h7);simpa [jS]using this
theorem jg.put(h:jg x M w P p b sv o0 o1 W i j v)(c:NK w P p b):∃W',(Instr.mapUpdate 121 (.map (some P)) (xI ((j:Int)+1)) (xI (j:Int))).run prog W= .ok () W'/\jg x M w P p b sv o0 o1 W' i (j+1) v:=by
 have hl:=h.lt;have c1:=c.p2;have c2:=c.b2;have c3:=c.p1;obtain⟨h1,h2,⟨ls,h3,h4⟩,⟨es,clk,h5,h6⟩,h7⟩:=h;have qb5:bP es ((j:Int)+1)=none:=by rw[h6,if_neg (by omega)]
 obtain⟨W',oe,hm,ho⟩:=cg.Wh nU underlying121 uZ tt h5 ((j:Int)+1) (.int .i64 (j:Int)) qb5;refine⟨W',oe,⟨h1.only ho (λk hk=>by subst hk;simp;omega),h2.ev ⟨ho.mono (λk hk=> .inl (.inr (.inr (.inr (.inl hk))))),λk hk=> .inl hk⟩ (ho.block _ (by omega) (by omega)) (ho.block _ (by omega) (by omega)),⟨ls,h3.only ho (λk hk=>⟨.inr (.inr (.inr (.inl hk))),by have hh:k=P:=hk;omega⟩),h4⟩,⟨_,_,hm,λn=> ?_⟩,ho.at_ h7 (by omega)⟩⟩;rw[BS n qb5,h6];by_cases hn:n=(j:Int)+1
 .rw[if_pos hn,if_pos (by omega),hn];congr 2;omega
 .rw[if_neg hn];by_cases h8:1<=n/\n<=(j:Int)
  .rw[if_pos h8,if_pos (by omega)]
  .rw[if_neg h8,if_neg (by omega)]
theorem jg.fin(h:jg x M w P p b sv o0 o1 W x.objs.length x.objs.length v)(c:NK w P p b)(hM:Bd M w)(ho:ai (λk=>k=w.heap.size+1) W W'):KK x M W' v P:=by
 have hl:=h.lt;have c1:=c.p2;have c2:=c.b2;have c3:=c.p1;obtain⟨h1,h2,⟨ls,h3,h4,WO⟩,⟨es,clk,h5,h6⟩,h7⟩:=h;refine⟨⟨ls,?_,h4,WO⟩,es,clk,ho.at_ h5 (by omega),λk hk=> ?_⟩
 .have hs:=(h3.only ho (λk hk=>⟨.inr (.inl hk),by have hh:k=w.heap.size+1:=hk;omega⟩)).slice (λk hk=> ?_)
  .exact hs.ev (Ev.eG _ λk hk=> .inl hk)
  .rcases hk with hk|hk|hk|hk|hk
   .have:=hM k hk;omega
   .omega
   .omega
   .omega
   .omega
 .rw[h6,if_pos (by omega)];congr 2;omega
end
theorem MX(x:bE)(h:fL x){M:aS}{w:aj}(hM:Bd M w)(hG:Gd w){P p b:Nat}(c:NK w P p b){i:Nat}{o:bH}(ho:x.objs[i]? =some o):
 ∃(k ln:Nat),∀(W:aj)(sv v va:an)(o0 o1:Obj)(j:Nat),jg x M w P p b sv o0 o1 W i j v->ab M w va o.aJ->xC 92 #[xP p, .agg #[xI o.id,xI o.cls,xI o.ver,va]] W λe w'=>∃(us:List au)(uv:an),e=xR (.tuple #[.agg #[xI o.id,xI (k:Int),xI (ln:Int),uv],xB true])/\jb x i ⟨o.id,(k:Int),(ln:Int),us⟩/\ab (bB v (GL M w b P)) w' uv us/\jg x M w P p b sv o0 o1 w' i j v/\ai (λk=>k=b) W w':=by
 obtain⟨hid,k,v',l,hk⟩:=h.objs i o ho;refine⟨k,l.changes.length,λW sv v va o0 o1 j hs Uu=> ?_⟩;have aC:=c.b1;refine(Jm x.lines h.sch k l hk.line o v' x.objs.length (by have:=h.len;omega) hk.cls hk.ver hk.le (h.ZP ho hk) hk.aJ (bB v (GL M w b P)) w W (hs.bd c hM) hG hs.bx.1 p b c.pb (.inl (.inr (.inr (.inl rfl)))) (by omega) sv va hs.book (Uu.ev (hs.ev c))).mono ?_;rintro e w'⟨⟨us,uv,rfl,DW,bo⟩,Lh,kE⟩;exact⟨us,uv,rfl,⟨o,k,v',l,us,ho,hk,DW,rfl⟩,bo,hs.IF c Lh kE,kE⟩
theorem MY(x:bE)(h:fL x)(M:Nat->Prop)(w:World)(hM:Bd M w)(hG:Gd w)(lv ov rv:Value)(j8:ab M w lv x.lines)(kn:ab M w ov x.objs)(kN:ab M w rv x.roots):
 Calls prog 49 #[.agg #[lv,ov,rv, .int .i64 x.next]] w (bW w λu w'=>∃lt pm,u= .tuple #[.agg #[lt, .map (some pm)], .int .i64 0]/\KK x M w' lt pm):=by
 obtain⟨i0,dz,dX,cY,dA⟩:=info_parts FT;have QA:Hd (∀W,Below w.heap.size w W->_):=(show∀W,_->_ fromλW hb=>BX x.lines h.sch M W (hM.below hb) (hG.tb.below hb) lv (j8.below hb));have DG:Hd (∀W,Below w.heap.size w W->_):=(show∀W,_->_ fromλW hb=>Jp x h M W lv ov rv (j8.below hb) (kn.below hb) (kN.below hb));have Sk:Hd (∀W,Below w.heap.size w W->w.heap.size+2<=W.heap.size->_):=(show∀W,_->_->_ fromλW hb hz=>Tx x.lines (λi=>M i\/i=w.heap.size+1) W (λi hi=>by rcases hi with hi|hi;(have:=hM i hi;omega);omega) lv (j8.ev ⟨ai.ao hb,λi hi=>hi.imp_right λe=>by omega⟩));have Uj:Hd (∀(P p b:Nat),NK w P p b->∀(i:Nat)(o:bH),x.objs[i]? =some o->_):=(show∀(P p b:Nat),_->∀(i:Nat)(o:bH),_->_ fromλP p b c i o ho=>MX x h hM hG c ho);have HWH:Hd (∀W lt pm,Below w.heap.size w W->KK x M W lt pm->_):=(show∀W lt pm,_->_->_ fromλW lt pm hb hg=>MW x h M W (hM.below hb) (hG.tb.below hb) lt rv pm hg (kN.below hb));have HO:Hd (∀i o,x.objs[i]? =some o->_):=(show∀i o,_->_ fromλi o ho=>eD kn ho);have HOI:Hd (∀(i:Nat)o,x.objs[i]? =some o->o.id=(i:Int)+1):=(show∀(i:Nat)o,_->_ fromλi o ho=>(h.objs i o ho).1);have np:=af hM;have GY:=h.len;obtain⟨la,lc,rfl,_⟩:=j8.open_;obtain⟨oa,oc,rfl,hoc,hom,_⟩:=kn.open_;obtain⟨ra,rc,rfl,_⟩:=kN.open_;have GX:=af j8;clear j8 kn kN hM hG h;have HNN:Hd (∀W v P p b sv o0 o1 W',jg x M w P p b sv o0 o1 W x.objs.length x.objs.length v->NK w P p b->ai (λk=>k=w.heap.size+1) W W'->KK x M W' v P):=(show∀W v P p b sv o0 o1 W',_->_->_->_ fromλW v P p b sv o0 o1 W' h1 h2 h3=>h1.fin h2 np.o h3);generalize hn:x.objs.length=n at*;have HN:=af hn;clear hn;have Cb:=λw=>lg 121 w;obtain⟨q0,Y6⟩:∃q0,q0=rN (.slice la x.lines.length lc) (.slice oa n oc) (.slice ra x.roots.length rc) x.next:=⟨_,rfl⟩;obtain⟨q1,YQ⟩:∃q1:Obj,q1= .cells #[.slice none 0 0, .map none] 123 (0,0):=⟨_,rfl⟩;have HQ0:=af Y6;have HQ1:=af YQ;have qC:Hd (∀W,Bx w [q0,q1] W->W.heap[w.heap.size]? =some (rN (.slice la x.lines.length lc) (.slice oa n oc) (.slice ra x.roots.length rc) x.next)):=(show∀W,_->_ fromλW hb=>by rw[<-HQ0.o];exact hb.bJ rfl);have qD:Hd (∀W,Bx w [q0,q1] W->W.heap[w.heap.size+1]? =some (.cells #[.slice none 0 0, .map none] 123 (0,0))):=(show∀W,_->_ fromλW hb=>by rw[<-HQ1.o];exact hb.cE rfl);clear Y6 YQ;go_enter func49,ntmps49;go_upto_region 1 with fail;obtain⟨W0,Uv⟩:∃W0:World,W0=(w.alloc (rN (.slice la x.lines.length lc) (.slice oa n oc) (.slice ra x.roots.length rc) x.next)).alloc (.cells #[.slice none 0 0, .map none] 123):=⟨_,rfl⟩;have bN:Hd (Bx w [q0,q1] W0):=(show Bx _ _ _ from by rw[Uv,HQ0.o,HQ1.o];exact Bx.dh w _ _);unfold rN at Uv;rw[<-Uv];clear Uv;obtain⟨c0,c1,c2,c3⟩:=ae (qC.o _ bN.o);go_wp2_with fail;refine(QA.o _ bN.o.1).mono ?_;rintro e w1⟨rfl,aC⟩;have aO:=af (bN.o.below aC);clear aC c0 c1 c2 c3;obtain⟨c0,c1,c2,c3⟩:=ae (qC.o _ aO.o);go_wp2_with fail;refine(DG.o _ aO.o.1).mono ?_;rintro e w2⟨rfl,aY⟩;have aL:=af (aO.o.below aY);clear aY c0 c1 c2 c3;obtain⟨c0,c1,c2,c3⟩:=ae (qC.o _ aL.o);have jC:=aL.o.bY;simp only[Qcc,Qcd]at jC;go_wp2_with fail;refine(Sk.o _ aL.o.1 (by omega)).mono ?_;rintro e w3⟨p,b,rfl,vm,aC,Gx,Du,bG,Vz,Aa⟩;have bI:=af (aL.o.below Aa);have XW:=af Vz;have HC:Hd (NK w w3.heap.size p b):=(show NK _ _ _ _ from⟨Gx,by omega,Du,by omega,bG⟩);clear Vz Aa c0 c1 c2 c3;obtain⟨c0,c1,c2,c3⟩:=ae (qC.o _ bI.o);go_upto_region 8 with fail;obtain⟨W7,Au⟩:∃W7:World,W7=(w3.alloc (.map #[] 0)).alloc (jS (.slice none 0 0) w3.heap.size):=⟨_,rfl⟩;have fu:Hd (jg x M w w3.heap.size p b (.slice la x.lines.length lc) q0 q1 W7 0 0 (.slice none 0 0)):=(show jg _ _ _ _ _ _ _ _ _ _ _ _ _ from by
  have ub:Below w3.heap.size w3 W7:=by rw[Au];exact((Qbg _ _).alloc (Qab _) _).alloc (by simp) _
  refine⟨bI.o.below ub,(XW.o _ (λi hi=> ?_)).ev (Ev.ao ub) (ub.block _ Du) (ub.block _ bG),⟨[],aP.nil _ _ _ _,rfl,λk o h=>by simp at h⟩,⟨[],0,?_,λn=> ?_⟩,?_⟩
  .have iB:=HC.o.b1;rcases hi with(hi|hi|hi|hi|hi)|hi
   .exact .inl (.inl hi)
   .exact .inl (.inr hi)
   .right;omega
   .right;omega
   .right;omega
   .cases hi
  .show W7.heap[w3.heap.size]? =_;rw[Au];exact(((Qbg _ _).alloc (Qab _) _).block w3.heap.size (by simp)).trans (Qbh w3 _)
  .rw[if_neg (by omega)];rfl
  .rw[Au];have:=Qbh (w3.alloc (.map #[] 0)) (jS (.slice none 0 0) w3.heap.size);simpa using this);unfold jS at Au;rw[<-Au];clear Au vm aC Gx Du bG XW c0 c1 c2 c3;generalize w3.heap.size=P at*;obtain⟨c0,c1,c2,c3⟩:=ae (qC.o _ fu.o.bx);go_wp2_with fail;clear c0 c1 c2 c3;go_loopg [3,8,9,10,11,34]n(λg r3 _ _ _ _ iv wr=>∃(i:Nat)(v:Value),i<=n/\g=n-i/\iv= .int .i64 i/\r3= .int .i64 0/\Hd (jg x M w P p b (.slice la x.lines.length lc) q0 q1 wr i i v));case atStart=>exact⟨0,_,Qbf _,rfl,rfl,rfl,fu⟩
 case round=>
  obtain⟨i,v,hi,rfl,rfl,rfl,HS⟩:=hrel;have Uu:∃a c,v= .slice a i c:=by
   obtain⟨ls,h3,h4,_⟩:=HS.o.late;obtain⟨a,c,e,_⟩:=h3.open_;rw[h4]at e;exact⟨a,c,e⟩
  obtain⟨a,c,rfl⟩:=Uu;have hPl:=HS.o.lt;have Le:Hd (¬bB (.slice a i c) (GL M w b P) wr.heap.size):=(show¬_ fromλh=>Nat.lt_irrefl _ (HS.o.bd HC.o np.o _ h));have hbP:=HC.o.b2;by_cases aX:i<n
  .obtain⟨o,ho⟩:∃o,x.objs[i]? =some o:=⟨_,Qac (by rw[HN.o];exact aX)⟩;obtain⟨b',off,cap,va,vc,hv,cw,dt,aw⟩:=HO.o i o ho;obtain⟨rfl,rfl⟩:oa=some ⟨b',off,none⟩/\oc=cap:=by first|simpa using hv|(rw[HN.o]at hv;simpa using hv)
   obtain⟨g0,g1,g2,g3⟩:=aw wr HS.o.bx.1;have hoi:=HOI.o i o ho;obtain⟨k,ln,hl⟩:=Uj.o P p b HC.o i o ho;have HL:=af (λob=>hl (wr.alloc ob) (.slice la x.lines.length lc) (.slice a i c) (.slice va o.aJ.length vc) q0 q1 i (HS.o.below HC.o ((Qbg _ _).alloc (Qab _) ob)) dt);obtain⟨oi,occ,ov,os⟩:=o;dsimp only at*;subst hoi;clear aw hv ho hl dt;go_wp2_with fail;refine(HL.o _).mono ?_;rintro e w4⟨us,uv,rfl,je,bo,cm,kE⟩;have Dt:=bo;obtain⟨ua,uc,rfl,_⟩:=Dt.open_;have X7:w4.heap[wr.heap.size]? =some (eY ⟨(i:Int)+1,occ,ov,os⟩ (.slice va os.length vc)):=kE.at_ (Qbh wr _) (by omega);have hz4:wr.heap.size<w4.heap.size:=(Qaa.1 X7).1;have qe9:=af cm;have eE:=af bo;have oV:=af je;have Zo:=af X7;clear bo cm kE je X7 g0 g1 g2 g3;go_upto_region 14 with fail;obtain⟨W5,mD⟩:∃W5:World,W5=w4.alloc (eY ⟨(i:Int)+1,(k:Int),(ln:Int),us⟩ (.slice ua us.length uc)):=⟨_,rfl⟩;have hz5:w4.heap.size+1<=W5.heap.size:=by rw[mD];simp
   have wS:Hd (jg x M w P p b (.slice la x.lines.length lc) q0 q1 W5 i i (.slice a i c)):=(show jg _ _ _ _ _ _ _ _ _ _ _ _ _ from by rw[mD];exact qe9.o.below HC.o ((Qbg _ _).alloc (Qab _) _));have HN5:Hd (W5.heap[w4.heap.size]? =some (eY ⟨(i:Int)+1,(k:Int),(ln:Int),us⟩ (.slice ua us.length uc))):=(show _=_ from by rw[mD];exact Qbh w4 _);have qfa:Hd (W5.heap[wr.heap.size]? =some (eY ⟨(i:Int)+1,occ,ov,os⟩ (.slice va os.length vc))):=(show _=_ from by rw[mD];exact(Qcb w4 _ _ hz4).trans Zo.o);have X2:Hd (∀o',ab (bB (.slice a i c) (GL M w b P)) (W5.alloc o') (.slice ua us.length uc) us):=(show∀o',ab _ _ _ _ fromλo'=>by rw[mD];exact eE.o.below (((Qbg _ _).alloc (Qab _) _).alloc (by simp) o'));unfold eY at mD;rw[<-mD];clear mD;have qhx:=wS.o.lt;obtain⟨p0,p1⟩:=ah wS.o.g;obtain⟨n0,n1,n2,n3⟩:=ae HN5.o;obtain⟨ls,hacc,hlen,qb6⟩:=wS.o.late;have nj:=af hacc;have iJ:=af hlen;have qfb:=af qb6;clear hacc hlen qb6;have qb7:i<=10:=by omega
   have fH:Hd (∀o',aA.rep (α:=bH) (bB (.slice a i c) (GL M w b P)) (W5.alloc o') [.int .i64 ((i:Int)+1), .int .i64 (k:Int), .int .i64 (ln:Int), .slice ua us.length uc] ⟨(i:Int)+1,(k:Int),(ln:Int),us⟩):=(show∀o',_ fromλo'=>⟨_,rfl,X2.o o'⟩);go_upto_region 15 with(
    at_builtin;refine aZ (α:=bH) rfl _ _ _ rfl (GL M w b P) (P+2) 65 i0 _ 48 underlying37 dz dX cY dA rfl (by decide) (.slice a i c) ls rfl (nj.o.alloc _) (λ_=>True) _ _ ⟨(i:Int)+1,(k:Int),(ln:Int),us⟩ rfl (b9 _ _ _ _ rfl trivial) (fH.o _) (by rw[iJ.o];unfold maxLen;omega) (by rw[iJ.o];omega) (by simp;omega) ?_;rw[iJ.o];intro a2 c2 w6 bu dr aY;have DU:=af (wS.o.next HC.o (o:=⟨(i:Int)+1,(k:Int),(ln:Int),us⟩) oV.o _ iJ.o qfb.o bu dr aY);have hp6:w6.heap[P+1]? =some (jS (.slice a i c) P):=(aY.block _ (by omega)).trans ((Qcb W5 _ _ (by omega)).trans wS.o.g);have p6:=(ah hp6).1;have f6:=ag hp6 0;have hc6:w6.heap[wr.heap.size]? =some (eY ⟨(i:Int)+1,occ,ov,os⟩ (.slice va os.length vc)):=(dr.only.block _ (by simp;omega) Le.o).trans ((Qcb W5 _ _ (by omega)).trans qfa.o);have X8:Hd ((w6.setCell ⟨P+1,0,none⟩ (.slice a2 (i+1) c2)).heap[wr.heap.size]? =some (eY ⟨(i:Int)+1,occ,ov,os⟩ (.slice va os.length vc))):=(show _=_ from(Qag _ _ _ _ (by show wr.heap.size≠P+1;omega)).trans hc6);clear bu dr aY hp6 hc6);obtain⟨W7',qb8⟩:∃W7':World,W7'=w6.setCell ⟨P+1,0,none⟩ (.slice a2 (i+1) c2):=⟨_,rfl⟩;rw[<-qb8]at DU X8⊢;clear qb8 p6 f6 p0 p1 n0 n1 n2 n3;obtain⟨p0,p1⟩:=ah DU.o.g;obtain⟨n0,n1,n2,n3⟩:=ae X8.o;obtain⟨W8,oe,qb9⟩:=DU.o.put HC.o;have qfc:=af qb9;clear qb9;go_wp2_with fail;go_roundg(n-(i+1));case measure=>omega
   case rel=>exact⟨i+1,_,by omega,rfl,by go_num,rfl,qfc⟩
  .obtain rfl:i=n:=by omega
   obtain⟨p0,p1⟩:=ah HS.o.g;obtain⟨c0,c1,c2,c3⟩:=ae (qC.o _ HS.o.bx);have N3:=af (HNN.o wr _ P p b _ _ _ wr HS.o HC.o (ai.refl _ _));go_wp2_with fail;refine(HWH.o _ _ _ HS.o.bx.1 N3.o).mono ?_;rintro e w7⟨rfl,iK⟩;have tS:=af (HS.o.below HC.o iK);clear iK p0 p1 c0 c1 c2 c3;obtain⟨p0,p1⟩:=ah tS.o.g;obtain⟨r0,r1⟩:=ah (qD.o _ tS.o.bx);have f0:=ag (qD.o _ tS.o.bx) 0;have f1:=ag (qD.o _ tS.o.bx) 1;have qhy:P+1≠w.heap.size+1:=by have:=HC.o.b1;omega
   have mA:Hd (∀W',W'=(w7.setCell ⟨w.heap.size+1,0,none⟩ (.slice a i c)).setCell ⟨w.heap.size+1,1,none⟩ (.map (some P))->(∃lt pm,Value.tuple #[.agg #[.slice a i c, .map (some P)], .int .i64 0]= .tuple #[.agg #[lt, .map (some pm)], .int .i64 0]/\KK x M W' lt pm)/\Below w.heap.size w W'):=(show∀W',_->_ fromλW' iL=>by
    refine⟨⟨_,_,rfl,HNN.o w7 _ P p b _ _ _ W' tS.o HC.o ?_⟩,?_⟩
    .rw[iL];exact((ai.refl (λk=>k=w.heap.size+1) w7).setCell (p:=⟨w.heap.size+1,0,none⟩) (.inl rfl) _).setCell (p:=⟨w.heap.size+1,1,none⟩) (.inl rfl) _
    .rw[iL];exact(tS.o.bx.1.setCell (by simp) _).setCell (by simp) _);go_wp2_with fail;exact Qae (v:= .tuple #[.agg #[.slice a i c, .map (some P)], .int .i64 0]) (by simp[results,results49,go_sem,r0,r1,f0,f1]) rfl ⟨_,rfl,mA.o _ rfl⟩
end
section
open Go.RowKit Go.Shelf
open Go.ChangeMaps (setBlock heap_setBlock_same heap_setBlock_other)
theorem MZ(h:Mk.cu w b S)(x:Int)(hx:x∈S):∃w',(Instr.mapUpdate 91 (.map (some b)) (xI x) (xB true)).run prog w= .ok () w'/\Mk.cu w' b S/\ai (λi=>i=b) w w':=by
 have hs:Mk.cu w b S:=h;obtain⟨es,clk,h,rfl⟩:=h;have hi:=List.idxOf_lt_length_iff.2 hx;rw[Qdc]at hi;obtain⟨p,hp⟩:=dQ es ((es.map (·.1)).idxOf x) hi;have vm:p.1=x:=by
  have h1:(es.map (·.1))[(es.map (·.1)).idxOf x]? =some x:=by
   rw[Qac (List.idxOf_lt_length_iff.2 hx)];simp[List.getElem_idxOf]
  rw[List.getElem?_map,hp]at h1;simpa using h1
 have qca:(es.map Mk.rY).toArray[(es.map (·.1)).idxOf x]? =some (Mk.rY p):=by
  simp[hp]
 have WR:(es.map Mk.rY).toArray.modify ((es.map (·.1)).idxOf x) (λe=>{e with key:=xI x,val:=xB true})=(es.map Mk.rY).toArray:=by
  apply Array.ext_getElem?;intro j;rw[Array.getElem?_modify];split
  .rename_i hj;subst hj;rw[qca];simp[Mk.rY,vm]
  .rfl
 have hky:(Instr.keyThatStays (xI x) (xI x)).run prog w= .ok (xI x) w:=by
  have Zb:Instr.sameBits 10000 (xI x) (xI x)=true:=by
   show Instr.sameBits (9999+1) _ _=true;rw[Instr.sameBits]<;>simp
  simp[Instr.keyThatStays,Zb]
 refine⟨setBlock w b (.map (es.map Mk.rY).toArray clk),?_,⟨es,clk,⟨heap_setBlock_same h.1 _,h.2⟩,rfl⟩,⟨rfl,rfl,rfl,by simp[setBlock],λi _ hi=>heap_setBlock_other h.1 _ hi⟩⟩;have si:(Mk.rY p).key=xI x:=by simp[Mk.rY,vm]
 simp only[Instr.mapUpdate,Sem.run_bind,run_underlying underlying91,Result.andThen_ok,MapKept.run_getObj_map h.1,Mk.run_checkKey,Mk.run_findKey,hx,if_true,qca,Option.map_some,Option.getD_some,si,hky,WR,MapKept.run_setObj_map _ h.1];rfl
theorem Tz(h:Mk.cu w b S)(x:Int):∃w' S',(Instr.mapUpdate 91 (.map (some b)) (xI x) (xB true)).run prog w= .ok () w'/\Mk.cu w' b S'/\(∀n,n∈S'↔n∈S\/n=x)/\ai (λi=>i=b) w w':=by
 by_cases hx:x∈S
 .obtain⟨w',h1,h2,h3⟩:=MZ h x hx;exact⟨w',S,h1,h2,λn=>⟨.inl,λh=>h.elim id λe=>e▸hx⟩,h3⟩
 .obtain⟨w',h1,h2,h3⟩:=h.store x hx;exact⟨w',S++[x],h1,h2,λn=>by simp,h3⟩
theorem KA.open_(h:KA W l v w'):∃za,v=xL za l.length l.length:=by
 rcases h with⟨rfl,rfl⟩|⟨B,h0,hB,rfl,hr⟩<;>exact⟨_,rfl⟩
theorem KA.stay(h:KA W l v w1)(hw:w.heap.size<=W.heap.size)(hz:w1.heap.size<=w2.heap.size)(hk:∀k,W.heap.size<=k->k<w1.heap.size->w2.heap[k]? =w1.heap[k]?):KA w l v w2:=by
 rcases h with⟨rfl,rfl⟩|⟨B,h0,hB,rfl,hr⟩
 .exact .inl ⟨rfl,rfl⟩
 .exact .inr ⟨B,h0,by omega,rfl,hr.stay jx hz λk k1 k2=>hk k (by omega) k2⟩
theorem FU {fs:List ay}{x:bH}(h:aW fs many x.aJ)(hl:x.aJ.length<=12)(M:aS)(w:aj)(v:an)(hM:Bd M w)(hs:ab M w v x.aJ):
 xG 151 #[.agg #[xI x.id,xI x.cls,xI x.ver,v]] w λu w'=>∃za,u= .agg #[xI x.id,xI x.cls,xI x.ver,xL za x.aJ.length x.aJ.length]/\∀w0:aj,w0.heap.size<=w.heap.size+2->KA w0 x.aJ (xL za x.aJ.length x.aJ.length) w':=by
 have Ag:Hd (∀W,aq w W->w.heap.size+2<=W.heap.size->_):=λW hb hz=>vL h hl (dP M w 2) W v (dp hM hz) (hs.ev (cW hb));obtain⟨a,bQ,rfl,_⟩:=hs.open_;generalize hm:x.aJ.length=m at*;have Ro:=af hm;have bN:=af (Bx.dh w (xK #[xI x.id,xI x.cls,xI x.ver,xL a m bQ] 65) (xK #[xI 0,xI 0,xI 0,xL none 0 0] 65));go_enter func151,ntmps151;go_wp2_with fail;refine(Ag.o _ bN.o.1 (by simp)).mono ?_;rintro e w1⟨vx,rfl,dB,aC⟩;obtain⟨za,rfl⟩:=dB.open_;rw[Ro.o]at*;have HB:=af (bN.o.below aC);have Zo:=af dB;obtain⟨r0,r1,r2,r3⟩:=ae (HB.o.bJ rfl);obtain⟨e0,e1,e2,e3⟩:=ae (HB.o.cE rfl);have f3:=ag (HB.o.bJ rfl) 3;obtain⟨g0,g1,g2,g3⟩:=ic (HB.o.cE rfl);go_wp2_with fail;refine Qae (v:= .agg #[xI x.id,xI x.cls,xI x.ver,xL za m m]) (by simp[results,results151,go_sem,e0,e1,e2,e3]) rfl ⟨_,rfl,⟨za,rfl,λw0 Ds=> ?_⟩,?_⟩
 .refine Zo.o.stay (by simpa using Ds) (by simp[World.setCell]) λk k1 _=> ?_;have hk:w.heap.size+2<=k:=by simpa using k1
  rw[Qag _ _ _ _ (by simp;omega),Qag _ _ _ _ (by simp;omega),Qag _ _ _ _ (by simp;omega),Qag _ _ _ _ (by simp;omega),Qag _ _ _ _ (by simp;omega)]
 .exact((((HB.o.1.setCell (by simp) _).setCell (by simp) _).setCell (by simp) _).setCell (by simp) _).setCell (by simp) _
def u7(S:List Int)(k n:Int)(s:aT)(a:dC)(m c:Nat)(k' n':Int)(s':aT)(a':dC)(m' c':Nat):Prop:=
 ((k=4/\n∉S)/\k'=0/\n'=0/\s'=jN/\a'=none/\m'=0/\c'=0)\/(¬(k=4/\n∉S)/\k'=k/\n'=n/\s'=s/\a'=a/\m'=m/\c'=c)
theorem FV(k n:Int)(s:aT)(a:dC)(m c pl sb:Nat)(S:List Int)(w:aj)(hp:cI w pl (xK #[.map (some sb)] 91))(hS:Mk.cu w sb S):
 xC 150 #[.agg #[xI k,xI n,xS s,xL a m c],xP pl] w λe w'=>∃k' n' s' a' m' c',e=xR (.agg #[xI k',xI n',xS s',xL a' m' c'])/\u7 S k n s a m c k' n' s' a' m' c'/\aq w w':=by
 have gO:=(Qaa.1 hp).1;have bo:=hS.lt;obtain⟨W,hW⟩:=cM ((w.alloc (xK #[xI k,xI n,xS s,xL a m c] 30)).alloc (xK iN 30));have HB:=af (Bx.dh w (xK #[xI k,xI n,xS s,xL a m c] 30) (xK iN 30));rw[<-hW]at HB;have hc:=one_cell ((HB.o.1.block pl gO).trans hp);have oW:=(hS.same (HB.o.1.block sb bo)).lookup n;obtain⟨r0,r1,r2,r3⟩:=ae (HB.o.bJ rfl);obtain⟨e0,e1,e2,e3⟩:=ae (HB.o.cE rfl);obtain⟨g0,g1,g2,g3⟩:=ic (HB.o.cE rfl);have p8:Hd (∀a b c d,aq w ((((W.setCell ⟨w.heap.size+1,0,none⟩ a).setCell ⟨w.heap.size+1,1,none⟩ b).setCell ⟨w.heap.size+1,2,none⟩ c).setCell ⟨w.heap.size+1,3,none⟩ d)):=λa b c d=>(((HB.o.1.setCell (by simp) _).setCell (by simp) _).setCell (by simp) _).setCell (by simp) _;by_cases hk:k=4
 .by_cases hn:n∈S
  .have JM:Hd (u7 S k n s a m c k n s a m c):= .inr ⟨λh=>h.2 hn,rfl,rfl,rfl,rfl,rfl,rfl⟩;have hd:decide (n∈S)=true:=by simpa using hn
   rw[hd]at oW;subst hk;clear hd hn hS hp gO bo HB;go_enter func150,ntmps150;go_upto_region 1 with fail;rw[<-hW];clear hW;go_wp2_with fail;refine Qae (v:= .agg #[xI 4,xI n,xS s,xL a m c]) (by simp[results,results150,go_sem,e0,e1,e2,e3]) rfl ⟨_,_,_,_,_,_,rfl,JM.o,p8.o _ _ _ _⟩
  .have JM:Hd (u7 S k n s a m c 0 0 ⟨#[]⟩ none 0 0):= .inl ⟨⟨hk,hn⟩,rfl,rfl,rfl,rfl,rfl,rfl⟩;have hd:decide (n∈S)=false:=by simpa using hn
   rw[hd]at oW;subst hk;clear hd hn hS hp gO bo HB;go_enter func150,ntmps150;go_upto_region 1 with fail;rw[<-hW];clear hW;go_wp2_with fail;refine Qae (v:= .agg iN) (by simp[results,results150,go_sem,e0,e1,e2,e3]) rfl ⟨_,_,_,_,_,_,rfl,JM.o,p8.o _ _ _ _⟩
 .have JM:Hd (u7 S k n s a m c k n s a m c):= .inr ⟨λh=>hk h.1,rfl,rfl,rfl,rfl,rfl,rfl⟩;have Y3:(k==4)=false:=by simpa using hk
  clear hS hp gO bo HB hk oW;go_enter func150,ntmps150;go_upto_region 1 with fail;rw[<-hW];clear hW;go_wp2_with fail;refine Qae (v:= .agg #[xI k,xI n,xS s,xL a m c]) (by simp[results,results150,go_sem,e0,e1,e2,e3]) rfl ⟨_,_,_,_,_,_,rfl,JM.o,p8.o _ _ _ _⟩
theorem FW(k n:Int)(s:aT)(a:dC)(m c:Nat)(S:List Int):∃k' n' s' a' m' c',u7 S k n s a m c k' n' s' a' m' c'/\∀(pl sb:Nat)(w:aj),cI w pl (xK #[.map (some sb)] 91)->Mk.cu w sb S->
 xC 150 #[.agg #[xI k,xI n,xS s,xL a m c],xP pl] w (cN (.agg #[xI k',xI n',xS s',xL a' m' c']) w):=by
 by_cases h:k=4/\n∉S
 .refine⟨0,0,jN,none,0,0, .inl ⟨h,rfl,rfl,rfl,rfl,rfl,rfl⟩,λpl sb w h1 h2=>(FV k n s a m c pl sb S w h1 h2).mono ?_⟩;rintro e w'⟨_,_,_,_,_,_,rfl,⟨_,rfl,rfl,rfl,rfl,rfl,rfl⟩|⟨hn,_⟩,hb⟩
  .exact⟨rfl,hb⟩
  .exact absurd h hn
 .refine⟨k,n,s,a,m,c, .inr ⟨h,rfl,rfl,rfl,rfl,rfl,rfl⟩,λpl sb w h1 h2=>(FV k n s a m c pl sb S w h1 h2).mono ?_⟩;rintro e w'⟨_,_,_,_,_,_,rfl,⟨hy,_⟩|⟨_,rfl,rfl,rfl,rfl,rfl,rfl⟩,hb⟩
  .exact absurd hy h
  .exact⟨rfl,hb⟩
end
section
open Go.RowKit Go.Shelf
def tG(f:au->au)(l:List au)(i:Nat):List au:=(l.take i).map f++l.drop i
section
variable {f:au->au}{l:List au}{i:Nat}{x:au}
theorem FX:tG f l 0=l:=by simp[tG]
theorem KS:(tG f l i).length=l.length:=by simp[tG];omega
theorem KT(h:l.length<=i):tG f l i=l.map f:=by simp[tG,Qah h,List.drop_of_length_le h]
theorem FY(h:l[i]? =some x):l.drop i=x::l.drop (i+1):=by
 obtain⟨hi,e⟩:=Qad.1 h;rw[List.drop_eq_getElem_cons hi,e]
theorem Qi(h:l[i]? =some x):(tG f l i)[i]? =some x:=by
 have hi:=(Qad.1 h).1;unfold tG;rw[Qbd (by simp;omega),Qdc,Qdb,Nat.min_eq_left (by omega),Nat.sub_self,FY h];rfl
theorem KU(h:l[i]? =some x):(tG f l i).set i (f x)=tG f l (i+1):=by
 have hi:=(Qad.1 h).1;have ht:l.take (i+1)=l.take i++[x]:=by rw[Qbb,h];rfl
 unfold tG;rw[FY h,ht,List.map_append,List.set_append_right _ _ (by simp;omega),Qdc,Qdb,Nat.min_eq_left (by omega),Nat.sub_self];simp
end
theorem wi {S:List Int}(h:∀n,n∈S↔n∈al):cF S=cF al:=funext λx=>by unfold cF;simp only[h]
theorem FZ {S:List Int}(h:∀n,n∈S↔n∈al):dx S=dx al:=funext λ
 | .mk k n s l=>by
   show(if k=5 then _ else _)=(if k=5 then _ else _);rw[wi h]
theorem M0 {S:List Int}{lo hi:Nat}{w:aj}{k n:Int}{s:aT}{l:List au}{ad:dC}{k' n':Int}{s':aT}{a':dC}{m' c':Nat}(h:mS lo hi w [xI k,xI n,xS s,xL ad l.length l.length] (.mk k n s l))(hc:u7 S k n s ad l.length l.length k' n' s' a' m' c'):
 mS lo hi w [xI k',xI n',xS s',xL a' m' c'] (cF S (.mk k n s l)):=by
 have e:cF S (.mk k n s l)=if k=4/\n∉S then .mk 0 0 jN []else .mk k n s l:=rfl;rcases hc with⟨hc,rfl,rfl,rfl,rfl,rfl,rfl⟩|⟨hc,rfl,rfl,rfl,rfl,rfl,rfl⟩
 .rw[e,if_pos hc];exact⟨0,0,jN,[],none,rfl,fR,rfl,Qbf _, .inl ⟨rfl,rfl⟩⟩
 .rw[e,if_neg hc];exact h
section
variable {B:Nat}{w w':aj}{n i:Nat}{xs:List au}{s:Nat->Nat}{k m:Int}{t:aT}{l:List au}{a:dC}
theorem kz.own(h:kz mS B w n xs s)(hx:xs[i]? =some (.mk k m t l)):∃a,(aU w B (i*4) (xI k)/\aU w B (i*4+1) (xI m)/\aU w B (i*4+2) (xS t)/\aU w B (i*4+3) (xL a l.length l.length))/\
 (w.frozen? ⟨B,i*4,none⟩=false/\w.frozen? ⟨B,i*4+1,none⟩=false/\w.frozen? ⟨B,i*4+2,none⟩=false/\w.frozen? ⟨B,i*4+3,none⟩=false)/\mS (s i) (s (i+1)) w [xI k,xI m,xS t,xL a l.length l.length] (.mk k m t l):=by
 obtain⟨a0,a1,a2,a3,hc,hf,hr⟩:=h.at_ hx;have GN:=hr;obtain⟨k0,m0,t0,l0,ad,e0,_,e1,_,_⟩:=hr;cases e0;obtain⟨rfl,rfl,rfl,rfl⟩:a0=xI k/\a1=xI m/\a2=xS t/\a3=xL ad l.length l.length:=by simpa using e1
 exact⟨ad,hc,hf,GN⟩
theorem kz.inner(h:kz mS B w n xs s)(hx:xs[i]? =some (.mk k m t l))(hb:w.cell? ⟨B,i*4+3,none⟩=some (.slice a l.length l.length))(h0:0<l.length):∃b,a=some ⟨b,0,none⟩/\B<b/\pJ b w l:=by
 have h4:B<s 0/\∀i,s i<=s (i+1):=by obtain⟨_,_,_,_,h4,h5,_⟩:=h;exact⟨h4,h5⟩
 obtain⟨a',hc,_,hr⟩:=h.own hx;have Sb:=hb.symm.trans hc.2.2.2;obtain rfl:a=a':=by simpa using Sb
 obtain⟨k0,m0,t0,l0,ad,e0,_,e1,_,hor⟩:=hr;cases e0;obtain rfl:a=ad:=by simpa using e1
 rcases hor with⟨rfl,_⟩|⟨b,b0,b1,b2,rfl,hr0⟩
 .exact absurd h0 (by simp)
 .exact⟨b,rfl,by have:=iX h4.2 (Qbf i);omega,hr0⟩
end
theorem kz.qc6 {R:V5}{B:Nat}{w:aj}{n:Nat}{xs:List au}{s:Nat->Nat}(h:kz R B w n xs s){i:Nat}(hi:i<xs.length)(u0 u1 u2 u3:an):(gJ w B (i*4) u0 u1 u2 u3).cell? ⟨B,i*4+3,none⟩=some u3:=by
 obtain⟨cur,h1,h2,h3,_⟩:=h;refine cell_of_heap (dM h1 u0 u1 u2 u3) ?_;rw[dj (by omega),if_neg (by omega),if_neg (by omega),if_neg (by omega),if_pos rfl]
structure DE(x:bH)(S:List Int)(w:aj)(v:an)(wr:aj):Prop where
 low:aq w wr
 size:w.heap.size+4<=wr.heap.size
 obj:wr.heap[w.heap.size]? =some (xK #[xI x.id,xI x.cls,xI x.ver,v] 65)
 res:wr.heap[w.heap.size+1]? =some (xK #[xI 0,xI 0,xI 0,xL none 0 0] 65)
 cel:wr.heap[w.heap.size+1+1+1]? =some (xK #[.map (some (w.heap.size+1+1))] 91)
 set:Mk.cu wr (w.heap.size+1+1) S
section
variable {x:bH}{S:List Int}{w wr w':aj}{v:an}
theorem DE.same(h:DE x S w v wr)(hl:aq w w')(hz:wr.heap.size<=w'.heap.size)(hk:∀k,k<w.heap.size+4->w'.heap[k]? =wr.heap[k]?):DE x S w v w':=
 ⟨hl,Qcg h.size hz,(hk _ (by omega)).trans h.obj,(hk _ (by omega)).trans h.res,(hk _ (by omega)).trans h.cel,h.set.same (hk _ (by omega))⟩
theorem DE.below(h:DE x S w v wr)(hb:aq wr w'):DE x S w v w':=
 h.same (h.low.trans (hb.mono h.low.size)) hb.size λk hk=>hb.block k (by have:=h.size;omega)
theorem DE.add(h:DE x S w v wr){S':List Int}(hs:Mk.cu w' (w.heap.size+1+1) S')(ho:ai (λk=>k=w.heap.size+1+1) wr w'):DE x S' w v w':=by
 have hz:=h.size;have hk:∀k,k<w.heap.size+4->k≠w.heap.size+1+1->w'.heap[k]? =wr.heap[k]? :=λk hk hn=>ho.block k (by omega) hn;refine⟨⟨ho.os.trans h.low.os,ho.tape.trans h.low.tape,ho.output.trans h.low.output,Qcg h.low.size ho.size,λi hi=>(hk i (by omega) (by omega)).trans (h.low.block i hi)⟩,Qcg hz ho.size,(hk _ (by omega) (by omega)).trans h.obj,(hk _ (by omega) (by omega)).trans h.res,(hk _ (by omega) (by omega)).trans h.cel,hs⟩
theorem DE.put(h:DE x S w v wr)(v':an):DE x S w v' (gJ wr w.heap.size 0 (xI x.id) (xI x.cls) (xI x.ver) v'):=by
 have hk:∀k,k≠w.heap.size->(gJ wr w.heap.size 0 (xI x.id) (xI x.cls) (xI x.ver) v').heap[k]? =wr.heap[k]? :=λk hk=>gp hk;exact⟨(((h.low.setCell (p:=⟨w.heap.size,0,none⟩) bq _).setCell (p:=⟨w.heap.size,0+1,none⟩) bq _).setCell (p:=⟨w.heap.size,0+2,none⟩) bq _).setCell (p:=⟨w.heap.size,0+3,none⟩) bq _,by rw[kJ];exact h.size,dM (o:=0) h.obj _ _ _ _,(hk _ (by omega)).trans h.res,(hk _ (by omega)).trans h.cel,h.set.same (hk _ (by omega))⟩
end
structure C7(x:bH)(S:List Int)(w:aj)(B:Nat)(s:Nat->Nat)(m:Nat)(X:List au)(wr:aj):Prop where
 a:DE x S w (xL (some ⟨B,0,none⟩) m m) wr
 base:w.heap.size+4<=B
 row:kz mS B wr m X s
section
variable {x:bH}{S:List Int}{w wr w':aj}{B m:Nat}{s:Nat->Nat}{X:List au}
theorem C7.below(h:C7 x S w B s m X wr)(hb:aq wr w'):C7 x S w B s m X w':=⟨h.a.below hb,h.base,h.row.below jx hb⟩
theorem tH {o:Nat}{u0 u1 u2 u3:an}{N:Nat}(h:Below N w w')(hb:N<=b):Below N w (gJ w' b o u0 u1 u2 u3):=
 (((h.setCell (p:=⟨b,o,none⟩) hb _).setCell (p:=⟨b,o+1,none⟩) hb _).setCell (p:=⟨b,o+2,none⟩) hb _).setCell (p:=⟨b,o+3,none⟩) hb _
theorem C7.over(h:C7 x S w B s m X wr){i:Nat}{u0 u1 u2 u3:an}(hi:i<X.length)(hy:mS (s i) (s (i+1)) wr [u0,u1,u2,u3] y):C7 x S w B s m (X.set i y) (gJ wr B (i*4) u0 u1 u2 u3):=by
 have hB:=h.base;exact⟨h.a.same (tH h.a.low (by omega)) (by rw[kJ];exact bq) λk hk=>gp (by omega),hB,h.row.over jx hi hy⟩
theorem C7.nest(h:C7 x S w B s m X wr){i:Nat}{k n:Int}{t:aT}{l:List au}(hx:X[i]? =some (.mk k n t l))(hb:aU wr B (i*4+3) (xL (some ⟨b,0,none⟩) l.length l.length))(hBb:B<b)(hr:pJ b wr l)(hj:j<l.length)(k' n':Int)(t':aT)(ht:t'.size<=maxLen):
 C7 x S w B s m (X.set i (.mk k n t (l.set j (.mk k' n' t' [])))) (gJ wr b (j*4) (xI k') (xI n') (xS t') (xL none 0 0)):=by
 have hB:=h.base;exact⟨h.a.same (tH h.a.low (by omega)) (by rw[kJ];exact bq) λk hk=>gp (by omega),hB,h.row.nest hx hb (by simp) (hr.set hj k' n' t' ht) kJ λq hq=>gp hq⟩
end
theorem F1(n:Int)(ps sb:Nat)(S:List Int)(w:aj)(hp:cI w ps (xK #[.map (some sb)] 91))(hS:Mk.cu w sb S):
 xC 99 #[xI n,xP ps] w (gE (xB (!decide (n∈S))) w):=by
 have h0:=one_cell hp;have h1:=hS.lookup n;go_enter func99,ntmps99;go_wp2;go_ret;exact⟨rfl,rfl⟩
theorem M4(S:List Int)(ps sb:Nat)(l:List Int)(hl:l.length<=1000)(M:aS)(v:an)(w:aj)(h:ab (α:=Int) M w v l)(hp:cI w ps (xK #[.map (some sb)] 91))(hS:Mk.cu w sb S):
 xC 149 #[v, .func (.func 99) #[] #[xP ps]] w λe w'=>w=w'/\((e=xR (xI (-1))/\∀n∈l,n∈S)\/∃i:Nat,e=xR (xI i)/\i<l.length/\∀n∈l.take i,n∈S):=by
 have HC:Hd (∀(i:Nat)(x:Int),l[i]? =some x->_):=λi x hx=>iF h hx;have HT:=af (λn:Int=>F1 n ps sb S w hp hS);obtain⟨a,bQ,rfl,cK,qE,_⟩:=h.open_;generalize hn:l.length=n at*;have ek:=af hn;go_enter func149,ntmps149;go_wp2;go_loopg [5,8]n(λg _ iv wr=>∃k:Nat,k<=n/\g=n-k/\iv=xI k/\w=wr/\Hd (∀n∈l.take k,n∈S));case atStart=>exact⟨0,Qbf _,rfl,rfl,rfl,af λn hn=>by simp at hn⟩
 case round=>
  obtain⟨i,hi,rfl,rfl,rfl,HA⟩:=hrel;by_cases aX:i<n
  .obtain⟨x,hx⟩:=dQ l i (by rw[ek.o];exact aX);obtain⟨b,off,cap,hv,hb,aw⟩:=HC.o i x hx;obtain⟨rfl,rfl⟩:a=some ⟨b,off,none⟩/\bQ=cap:=by first|simpa using hv|simpa [ek.o]using hv
   have g0:=aw w dK;have HAN:Hd (x∈S->∀n∈l.take (i+1),n∈S):=λiO n hn=>by
    rw[Qbb,hx]at hn;rcases Qch.1 hn with hn|hn
    .exact HA.o n hn
    .simp at hn;rw[hn];exact iO
   by_cases iO:x∈S
   .have hd:decide (x∈S)=true:=by simpa using iO
    have tM:=af iO;have As:=af (HT.o x);rw[hd]at As;go_wp2_with fail;refine dJ (As.o) ?_;go_wp2;go_roundg(n-(i+1));case measure=>omega
    case rel=>exact⟨i+1,by omega,rfl,by go_num,rfl,af (HAN.o tM.o)⟩
   .have hd:decide (x∈S)=false:=by simpa using iO
    have As:=af (HT.o x);rw[hd]at As;go_wp2_with fail;refine dJ (As.o) ?_;go_wp2;go_ret;exact⟨rfl, .inr ⟨i,rfl,aX,HA.o⟩⟩
  .go_wp2;go_ret;refine⟨rfl, .inl ⟨rfl,?_⟩⟩;have h1:=HA.o;rwa [Qah (by rw[ek.o];omega)]at h1
def lD(w:aj)(g n c:Nat)(xs:List Int):Prop:=∃cur:Array an,w.heap[g]? =some (.cells cur 3 (0,0))/\cur.size=c/\xs.length=n/\n<=c/\∀(k:Nat)(x:Int),xs[k]? =some x->cur[k]? =some (xI x)
section
variable {w w':aj}{g n c k:Nat}{xs:List Int}{x:Int}
theorem lD.at_(h:lD w g n c xs)(hx:xs[k]? =some x):aU w g k (xI x):=by
 obtain⟨cur,h1,_,_,_,h5⟩:=h;exact cell_of_heap h1 (h5 k x hx)
theorem lD.free(h:lD w g n c xs)(k:Nat):w.frozen? ⟨g,k,none⟩=false:=by
 obtain⟨cur,h1,_⟩:=h;exact ag h1 k
theorem lD.set(h:lD w g n c xs)(hk:k<n)(v:Int):lD (w.setCell ⟨g,k,none⟩ (xI v)) g n c (xs.set k v):=by
 obtain⟨cur,h1,h2,h3,h4,h5⟩:=h;refine⟨cur.setIfInBounds k (xI v),Qca w g k _ _ _ h1,by simpa using h2,by simpa using h3,h4,λj y hy=> ?_⟩;by_cases e:k=j
 .subst e;rw[List.getElem?_set_self (by omega)]at hy;cases hy;simp[show k<cur.size by omega]
 .rw[List.getElem?_set_ne e]at hy;rw[Array.getElem?_setIfInBounds_ne e];exact h5 j y hy
theorem aP.row {l:List Int}(h:aP (α:=Int) xF B 3 w v l)(h0:0<l.length):∃g c,v=xL (some ⟨g,0,none⟩) l.length c/\B<=g/\c<=maxLen/\lD w g l.length c l:=by
 obtain⟨css,h1,h2,h3⟩:=h;have e:css=l.map (λx=>[Value.int .i64 x]):=by
  refine List.ext_getElem (by simpa using h2) (λi p q=> ?_);rw[List.getElem_map];exact h3 i _ _ (Qac p) (Qac (by simpa using q))
 subst e;have fl:∀l:List Int,(l.map (λx=>[Value.int .i64 x])).flatten=l.map (Value.int .i64):=λl=>by
  induction l with
  |nil=>rfl
  |cons a r ih=>simp only[List.map_cons,List.flatten_cons,ih];rfl
 rw[fl]at h1;obtain⟨_,⟨_,h0'⟩|⟨g,c,cur,rfl,k1,k2,k3,k4,k5,k6⟩⟩:=h1
 .omega
 have hs:aA.size Int=1:=rfl;rw[hs,Nat.mul_one]at k5 k6;refine⟨g,c,rfl,k1,k4,cur,k2,k5,rfl,k3,λj y hy=> ?_⟩;have hj:=(Qad.1 hy).1;have hh:(cur.toList.take l.length)[j]? =some (xI y):=by rw[k6,List.getElem?_map,hy];rfl
 rw[List.getElem?_take,if_pos hj]at hh;simpa using hh
theorem aP.qc7 {l:List Int}(h:aP (α:=Int) xF B 3 w v l)(hM:∀i,M i->i<B):ab (α:=Int) M w v l:=by
 obtain⟨css,k1,k2,k3⟩:=h;refine⟨css,(bj.um k1).mono λj hj _ hM'=> ?_,k2,k3⟩;have:=(k1.lt j hj).1;have:=hM j hM';omega
end
theorem mz {S:aS}(hK:S K):∀(vs:List an)(o:Nat){w W:aj},ai S w W->ai S w (W.setCells K o vs)
 |[],_,_,_,h=>h
 |v::r,o,_,_,h=>mz hK r (o+1) (h.setCell (p:=⟨K,o,none⟩) (.inl hK) v)
theorem M5(w:aj):(zeroValue 3).run prog w= .ok (xI 0) w:=by kernel_rfl
theorem M6 {n c:Nat}(h:lD W g n c xs)(hi:i<n)(c':Nat):∃zs:List an,zs.length=n-i/\(Builtin.clear_ #[27] 0 #[xL (some ⟨g,i,none⟩) (n-i) c']).run prog W= .ok (.tuple #[]) (W.setCells g i zs):=by
 obtain⟨cur,h1,h2,h3,h4,h5⟩:=h;have hz:∀q:Nat,(Builtin.zeroCells #[Value.int .i64 0] q).toList=List.replicate q (Value.int .i64 0):=λq=>by
  refine List.ext_getElem (by simp[Builtin.zeroCells]) λk p1 p2=> ?_;simp[Builtin.zeroCells,Nat.mod_one]
 have hs:=run_storeCells_cells (P:=prog) g i (List.replicate (n-i) (Value.int .i64 0)) 0 W (λj hj=>by
  have hj':j<n-i:=by simpa using hj
  rw[cell_of_heap (v:=cur[i+0+j]'(by omega)) h1 (by simp)];rfl) (λj _=>ag h1 _) (λv hv=>by rw[List.eq_of_mem_replicate hv];rfl);refine⟨List.replicate (n-i) (Value.int .i64 0),by simp,?_⟩;obtain⟨q,hq⟩:∃q,n-i=q+1:=⟨n-i-1,by omega⟩;rw[hq]at hs⊢;rw[Nat.add_zero]at hs;simp only[Builtin.clear_,List.getElem?_toArray,List.getElem?_cons_zero,Sem.run_bind,run_underlying underlying27,Result.andThen_ok,M5,Value.cells,hz,hs,Sem.run_pure,Nat.add_zero]
theorem Jt(S:List Int)(ps sb B0:Nat)(l:List Int)(hl:l.length<=1000)(v:an)(w:aj)(h:aP (α:=Int) xF B0 3 w v l)(hp:cI w ps (xK #[.map (some sb)] 91))(hS:Mk.cu w sb S)(ki:ps<B0)(Zb:sb<B0)(M:aS)(hM:∀i,M i->i<B0):
 xC 97 #[v, .func (.func 99) #[] #[xP ps]] w λe w'=>∃(v':an)(al:List Int),e=xR v'/\ab (α:=Int) M w' v' al/\(∀n∈al,n∈S)/\al.length<=l.length/\ai (λk=>B0<=k) w w':=by
 have bo:ab (α:=Int) M w v l:=h.qc7 hM;have Q3:=af (M4 S ps sb l hl M v w bo hp hS);have HT:Hd (∀W(n:Int),ai (λk=>B0<=k) w W->_):=λW n ho=>F1 n ps sb S W ((ho.block _ (Qaa.1 hp).1 (by omega)).trans hp) (hS.same (ho.block _ hS.lt (by omega)));have eE:=af bo;rcases Nat.eq_zero_or_pos l.length with h0|h0
 .have e:=Qdd h0;subst e;obtain⟨a,cap,rfl,_⟩:=bo.open_;clear h hp hS bo HT;go_enter func97,ntmps97;go_wp2_with fail;refine(Q3.o).mono ?_;rintro e w'⟨rfl,⟨rfl,GH⟩|⟨i,rfl,hi,_⟩⟩
  .have Nx:Hd (∀n∈([]:List Int),n∈S):=GH;clear GH;go_wp2;go_ret;exact⟨_,[],rfl,eE.o,Nx.o,bq,ai.refl _ _⟩
  .exact absurd hi (by simp)
 obtain⟨gb,c,rfl,Vk,wP,GG⟩:=h.row h0;have HR:=af GG;obtain⟨n,hn⟩:=fx (l.length);have HN:=af hn;rw[hn]at HR Q3 hl h0⊢;have Wt:n<=c:=by obtain⟨cur,_,_,_,h4,_⟩:=HR.o;exact h4
 clear h hp hS bo GG hn;go_enter func97,ntmps97;go_wp2_with fail;refine(Q3.o).mono ?_;rintro e w'⟨rfl,⟨rfl,GH⟩|⟨i0,rfl,dz,GH⟩⟩
 .have Nx:Hd (∀n∈l,n∈S):=GH;clear GH;go_wp2;go_ret;have dB:=eE.o;rw[HN.o]at dB;exact⟨_,l,rfl,dB,Nx.o,Nat.le_of_eq HN.o,ai.refl _ _⟩
 have Ac:((i0:Int)== -1)=false:=by simp
 have Nx:Hd (∀n∈l.take i0,n∈S):=GH;clear GH;go_wp2;go_loopg [5,6,7](n-(i0+1))(λg iv jv _ wr=>∃(i j:Nat)(xs:List Int),i<j/\j<=n/\g=n-j/\iv=xI i/\jv=xI j/\Hd (lD wr gb n c xs/\∀y∈xs.take i,y∈S)/\Hd (ai (λk=>B0<=k) w wr));case atStart=>exact⟨i0,i0+1,l,by omega,by omega,rfl,rfl,by go_num,af ⟨HR.o,Nx.o⟩,af (ai.refl _ _)⟩
 case round=>
  obtain⟨i,j,xs,hij,hj,rfl,rfl,rfl,HX,HO⟩:=hrel;by_cases aX:j<n
  .obtain⟨x,hx⟩:∃x,xs[j]? =some x:=by
    obtain⟨cur,_,_,h3,_⟩:=HX.o.1;exact⟨_,Qac (by omega)⟩
   have g0:=HX.o.1.at_ hx;obtain⟨z,hz⟩:∃z,xs[i]? =some z:=by
    obtain⟨cur,_,_,h3,_⟩:=HX.o.1;exact⟨_,Qac (by omega)⟩
   have g1:=HX.o.1.at_ hz;have g2:=HX.o.1.free i;have As:=af (HT.o wr x HO.o);have jn:i<n:=by omega
   by_cases iO:x∈S
   .have hd:decide (x∈S)=true:=by simpa using iO
    have rU:Hd (lD (wr.setCell ⟨gb,i,none⟩ (xI x)) gb n c (xs.set i x)/\∀y∈(xs.set i x).take (i+1),y∈S):=⟨HX.o.1.set jn x,λy hy=>by
     have Ad:i<xs.length:=(Qad.1 hz).1;rw[Qbb,List.getElem?_set_self Ad,List.take_set_of_le bq]at hy;rcases Qch.1 hy with hy|hy
     .exact HX.o.2 y hy
     .simp at hy;rw[hy];exact iO⟩;rw[hd]at As;clear hd iO hx hz;go_wp2_with fail;refine dJ (As.o) ?_;go_wp2;go_roundg(n-(j+1));case measure=>omega
    case rel=>exact⟨i+1,j+1,_,by omega,by omega,rfl,by go_num,by go_num,rU,af (HO.o.setCell (p:=⟨gb,i,none⟩) (.inl Vk) _)⟩
   .have hd:decide (x∈S)=false:=by simpa using iO
    rw[hd]at As;clear hd iO hx hz;go_wp2_with fail;refine dJ (As.o) ?_;go_wp2;go_roundg(n-(j+1));case measure=>omega
    case rel=>exact⟨i,j+1,xs,by omega,by omega,rfl,rfl,by go_num,HX,HO⟩
  .obtain rfl:j=n:=by omega
   have Za:¬c=i:=by omega
   obtain⟨zs,RN,gw⟩:=M6 HX.o.1 hij (c-i);have HZL:=af RN;clear RN;have QB:=af (show gb<(wr.setCells gb i zs).heap.size by
    obtain⟨cur,h1,_⟩:=HX.o.1;exact Qde (Qaa.1 h1).1 (mz (S:=λ_=>True) trivial zs i (ai.refl _ wr)).size);have HLE:=af (show(xs.take i).length=i by
    obtain⟨cur,_,_,h3,_⟩:=HX.o.1;rw[Qdb];omega);have Lf:=af (show ab (α:=Int) M (wr.setCells gb i zs) (xL (some ⟨gb,0,none⟩) i c) (xs.take i)by
    have hle:=HLE.o;have h1:=gn (α:=Int) (M:=M) (w:=wr.setCells gb i zs) (xs:=xs.take i) (b:=gb) (off:=0) (cap:=c) (by omega) wP (λh=>by have:=hM _ h;omega) QB.o (λk x hx=>⟨[xI x],rfl,λq u hu=>by
     have hk:=(Qad.1 hx).1;have hq:q=0:=by have:=(Qad.1 hu).1;simp at this;omega
     subst hq;have e:u=xI x:=by simpa using hu.symm
     subst e;have hs:aA.size Int=1:=rfl;unfold aU;rw[hs,Nat.zero_add,Nat.mul_one,Nat.add_zero,World.cell?_setCells_out gb zs i wr ⟨gb,k,none⟩ (λ_ _=> .inl (by show k<i;omega))];rw[List.getElem?_take,if_pos (by omega)]at hx;exact HX.o.1.at_ hx⟩);rw[hle]at h1;exact h1);have mi:=af (mz (S:=λk=>B0<=k) (K:=gb) Vk zs i HO.o);clear HR Q3 HT eE Nx;go_wp2;go_ret;exact⟨_,xs.take i,rfl,Lf.o,HX.o.2,by rw[HLE.o];omega,mi.o⟩
theorem zR(ls:List aK)(h:eI ls)(n:Nat)(l:aK)(hn:ls[n]? =some l)(M:aS)(w:aj)(hM:Bd M w)(hT:Tb w)(v:an)(hs:ab M w v ls):
 xG 59 #[.agg #[v],xI n] w λu w'=>∃fv,u= .tuple #[.agg #[xS l.first.name,fv],xI 0]/\ab M w' fv (aI l l.changes.length).fields:=by
 have HL:=fV (w:=w) (λW hb=>FO ls h n l hn M W (hM.below hb) (hT.below hb) v (hs.below hb));have HA:Hd (∀W,aq w W->w.heap.size+2<=W.heap.size->_):=λW hb hz=>Qb ls h n l hn l.changes.length bq (dP M w 2) W (dp hM hz) (hT.below hb) v (hs.ev (cW hb));obtain⟨a,cap,rfl,_⟩:=hs.open_;have bN:=af (Bx.dh w (fK (xL a ls.length cap)) (cS ⟨#[]⟩ (xL none 0 0)));generalize hvr:l.changes.length=vr at*;have HVR:=af hvr;go_enter func59,ntmps59;go_wp2_with fail;refine cG (HL.o _ bN.o.1) λw1 aC=> ?_;have aO:=af (bN.o.below aC);have s0:=one_cell (aO.o.bJ rfl);go_wp2_with fail;refine(HA.o _ aO.o.1 aO.o.bY).mono ?_;rintro e w2⟨_,rfl,⟨fv,rfl,bR⟩,aY⟩;have aL:=af (aO.o.below aY);obtain⟨fa,fc,rfl,_⟩:=bR.open_;have HF:=af bR;obtain⟨r0,r1⟩:=ah (aL.o.cE rfl);obtain⟨g0,g1⟩:=nu (aL.o.cE rfl);generalize Aj:(aI l vr).fields.length=fl at*;have Ar:=af Aj;go_wp2_with fail;refine Qae (v:= .tuple #[.agg #[xS l.first.name,xL fa fl fc],xI 0]) (by simp[results,results59,go_sem,r0,r1]) rfl ⟨_,rfl,⟨_,rfl,HF.o.ev ?_⟩,?_⟩
 .exact((ep w2).setCell (.inl (.inr ⟨by simp,by simp⟩)) _).setCell (.inl (.inr ⟨by simp,by simp⟩)) _
 .exact(aL.o.1.setCell (by simp) _).setCell (by simp) _
def UP(m:Nat)(e:Ending):Prop:=∃(n:Nat)(b:Bool),e=xR (.tuple #[xI n,xB b])/\(b=true->n<m)
theorem Nf(M:aS)(v:an)(w:aj)(ls:List aK)(name:aT)(hs:ab M w v ls)(h8:ls.length<=8):
 xC 56 #[.agg #[v],xS name] w λe w'=>UP ls.length e/\aq w w':=by
 have HL:Hd (∀k l,ls[k]? =some l->_):=λk l h=>eC hs h;obtain⟨a,bQ,rfl,cK,hm,_⟩:=hs.open_;go_enter func56,ntmps56;go_wp2;go_loopg [4,5,6,7,11]ls.length(λg r4 r5 _ _ iv wr=>∃k:Nat,k<=ls.length/\g=ls.length-k/\iv=xI k/\r4=xI 0/\r5=xB false/\Hd (Bx w [fK (xL a ls.length bQ)] wr));case atStart=>exact⟨0,Qbf _,rfl,rfl,rfl,rfl,(Bx.dR w _)⟩
 case round=>
  obtain⟨k,hk,rfl,rfl,rfl,rfl,HX⟩:=hrel;have tX:=one_cell (HX.o.bJ rfl);by_cases aX:k<ls.length
  .obtain⟨l,hl⟩:=dQ ls k aX;obtain⟨b,off,cap,fa,fc,ca,cc,hv,cw,_,_,_,aw⟩:=HL.o k l hl;obtain⟨rfl,rfl⟩:=gY hv;obtain⟨q0,q1,q2⟩:=aw wr HX.o.1;have jT:=af (HX.o.alloc (xK #[xS l.first.name,xL fa l.first.fields.length fc,xL ca l.changes.length cc] 104));by_cases hq:(l.first.name.toList==name.toList)=true
   .go_wp2;go_ret2;exact⟨⟨k,true,rfl,λ_=>aX⟩,jT.o.1⟩
   .go_wp2;go_roundg(ls.length-(k+1));case measure=>omega
    case rel=>exact⟨k+1,by omega,rfl,by go_num,rfl,rfl,jT⟩
  .go_wp2;go_ret2;exact⟨⟨0,false,rfl,λh=>by cases h⟩,HX.o.1⟩
structure TH(x:bE)(S:List Int)(ls:List bH):Prop where
 ok:fL x
 len:ls.length<=10
 live:∀o∈ls,rJ x S o
theorem Ng {t:aR}{v:au}(h:db t many v)(ht:t.kind≠5):v.list=[]/\v.kind≠5:=by
 rcases h with⟨h5,_⟩|⟨_,h1⟩
 .exact absurd h5 ht
 .exact⟨mP h1,kH h1⟩
section
variable {x:bE}{S:List Int}{ls:List bH}
theorem fL.right(h:fL x){n:Nat}{l:aK}(hn:x.lines[n]? =some l)(v:Nat):aM (aI l v)=true:=((h.sch.lines l (Qaf hn)).oF v).right
theorem TH.small(h:TH x S ls){o:bH}(ho:o∈ls):o.aJ.length<=8:=by
 obtain⟨k,l,_,hl,hv⟩:=(h.live o ho).cls;rw[hv.1];exact((bc _).1 (h.ok.right hl _)).2.1
theorem TH.flat(h:TH x S ls){n:Nat}{l:aK}(hn:x.lines[n]? =some l)(hf:(aI l l.changes.length).fields[k]? =some f)(ht:f.type.kind≠5){o:bH}(ho:o∈ls)(hc:o.cls=(n:Int)){v:au}(hv:o.aJ[k]? =some v):v.list=[]/\v.kind≠5:=by
 obtain⟨k',l',h1,hl,dt⟩:=(h.live o ho).cls;obtain rfl:k'=n:=by omega
 rw[hn]at hl;cases hl;exact Ng (dt.2 k f v hf hv) ht
end
theorem zS(M:aS)(fv:an)(w:aj)(nm name:aT)(fs:List ay)(h:ab M w fv fs)(hn:nm.size<=maxLen):
 xC 60 #[.agg #[xS nm,fv],xS name] w λe w'=>UP fs.length e/\aq w w':=by
 by_cases hf:fieldAt ⟨nm,fs⟩ name<0
 .refine cG (jJ M fv w ⟨nm,fs⟩ name 0 false h hn (by rw[if_pos hf]) (by simp[hf])) λw' hb=> ?_;exact⟨⟨0,false,rfl,λh=>by cases h⟩,hb⟩
 .have hl:=rE ⟨nm,fs⟩ name;refine cG (jJ M fv w ⟨nm,fs⟩ name _ true h hn (by rw[if_neg hf]) (by simp[hf])) λw' hb=> ?_;obtain⟨k,hk⟩:∃k:Nat,fieldAt ⟨nm,fs⟩ name=(k:Int):=⟨(fieldAt ⟨nm,fs⟩ name).toNat,by omega⟩;rw[hk]at hl⊢;exact⟨⟨k,true,rfl,λ_=>by simpa using hl⟩,hb⟩
def Da(M:aS)(ls:List bH)(u:an)(w':aj):Prop:=∃(e:Int)(wv:an)(vs:List au),u= .tuple #[wv,xI e]/\ab M w' wv vs/\rP ls vs/\(e≠0->vs=[])
theorem Db:∀args w,(callFunc 58 args).run prog w= .ok (.enter 58 args) w:=enters_of func58 (by kernel_rfl) rfl
theorem Dc:∀args w,(callFunc 63 args).run prog w= .ok (.enter 63 args) w:=enters_of func63 (by kernel_rfl) rfl
theorem Qx(x:bE)(S:List Int)(ls:List bH)(hL:TH x S ls)(q:rK)(hq:pP q)(M:aS)(w:aj)(hM:Bd M w)(hT:Tb w)(lv ov rv sv:an)(j8:ab M w lv x.lines)(kn:ab M w ov ls)(kN:ab M w rv x.roots)(JU:ab M w sv q.steps):
 xG 28 #[.agg #[lv,ov,rv,xI x.next],rL q sv] w (Da M ls):=by
 have ug:=ez j8;have hro:=ez kN;have HF:=fV (w:=w) (λW hb=>Nf M lv W x.lines q.cls (j8.below hb) (by have:=hL.ok.sch.len;omega));have As:Hd (∀W(num:Int),aq w W->_):=λW num hb=>Gb ls (by have:=hL.len;omega) M W lv ov rv x.next num ug hro (hM.below hb) (kn.below hb) 58 #[] Db (λW' o a c iI _ _ hs=>Nc o.id o.cls o.ver a o.aJ.length c W');have K4:Hd (∀W(num:Int)(k pa pq:Nat),aq w W->cI W pa (xK #[xI (k:Int)] 3)->cI W pq (pQ q sv)->(∀o∈ls,o.cls=num->∀v,o.aJ[k]? =some v->v.list=[]/\v.kind≠5)->_):=λW num k pa pq hb h1 h2 Aj=>Gb ls (by have:=hL.len;omega) M W lv ov rv x.next num ug hro (hM.below hb) (kn.below hb) 63 #[xP pa,xP pq] Dc (λW' o a c iI ho hc hs=>Nd q sv k pa pq o M W' a c ((iI.block _ (Qaa.1 h1).1).trans h1) ((iI.block _ (Qaa.1 h2).1).trans h2) hs (λv hv=>(Aj o ho hc v hv).1));have Q3:Hd (∀W(num:Int)(k:Nat),aq w W->(∀o∈ls,o.cls=num->∀v,o.aJ[k]? =some v->v.list=[]/\v.kind≠5)->_):=λW num k hb Aj=>JB ls (by have:=hL.len;omega) M W lv ov rv x.next num k q.k q.n q.s q.a q.c hq.kind hq.str ug hro (hM.below hb) (hT.below hb) (kn.below hb) Aj (λo ho=>hL.small ho);have Q7:Hd (∀W(n:Nat)l,x.lines[n]? =some l->aq w W->_):=λW n l hn hb=>zR x.lines hL.ok.sch n l hn M W (hM.below hb) (hT.below hb) lv (j8.below hb);have U3:Hd (∀W(t:aR),aF t=true->aq w W->_):=λW t ht hb=>Qw q.k q.n q.s q.a q.c hq.kind hq.str t.kind t.of ht W (hT.below hb);have Ar:Hd (∀(n:Nat)(l:aK),x.lines[n]? =some l->∀(k:Nat)(f:ay),(aI l l.changes.length).fields[k]? =some f->f.type.kind≠5->∀o∈ls,o.cls=(n:Int)->∀v,o.aJ[k]? =some v->v.list=[]/\v.kind≠5):=λn l hn k f hf ht o ho hc v hv=>hL.flat hn hf ht ho hc hv;have Nq:Hd (∀(n:Nat)(l:aK),x.lines[n]? =some l->l.first.name.size<=maxLen/\∀(k:Nat)(f:ay),(aI l l.changes.length).fields[k]? =some f->aF f.type=true):=λn l hn=>⟨by have:=(hL.ok.sch.lines l (Qaf hn)).first.small;unfold maxLen;omega,λk f hf=>vK (hL.ok.right hn _) hf⟩;have YE:Hd (∀n:Nat,n<x.lines.length->∃l,x.lines[n]? =some l):=λn h=>⟨_,Qac h⟩;obtain⟨la,lc,rfl,_⟩:=j8.open_;obtain⟨oa,oc,rfl,_⟩:=kn.open_;obtain⟨ra,rc,rfl,_⟩:=kN.open_;obtain⟨sa,sc,rfl,_⟩:=JU.open_;have iA:=af (Bx.dh w (xK #[xL la x.lines.length lc,xL oa ls.length oc,xL ra x.roots.length rc,xI x.next] 40) (pQ q (xL sa q.steps.length sc)));have N4:Hd (∀W,Bx w [xK #[xL la x.lines.length lc,xL oa ls.length oc,xL ra x.roots.length rc,xI x.next] 40,pQ q (xL sa q.steps.length sc)] W->_):=λW hb=>mY (hb.cE rfl);have DK:∀(fn:Fn)(first cap:Array an)(w:aj),(Instr.makeFunc fn first cap).run prog w= .ok (.func fn first cap) w:=λ_ _ _ _=>rfl;obtain⟨kd,root,steps,cls,field,op,k,n,s,a,c⟩:=q;unfold rL pQ at*;dsimp only at*;generalize x.lines.length=nl at*;generalize ls.length=no at*;generalize x.roots.length=nr at*;generalize steps.length=ns at*;clear j8 kn kN JU hL hq hM hT ug hro;go_enter func28,ntmps28;go_wp2_with fail;refine(HF.o _ iA.o.1).mono ?_;rintro e w1⟨⟨nn,b,rfl,NV⟩,aC⟩;have aO:=af (iA.o.below aC);obtain⟨c0,c1,c2,c3⟩:=ae (aO.o.bJ rfl);obtain⟨_,_,_,q3,q4,q5,q6,q7,q8,q9⟩:=N4.o _ aO.o;clear aC iA;cases b
 .go_wp2;go_ret2;exact⟨_,rfl,⟨40,_,[],rfl,ab.nil _ _,(λv hv=>by cases hv),λ_=>rfl⟩,aO.o.1⟩
 obtain⟨l,hl⟩:=YE.o nn (NV rfl);have ek:=af hl;clear NV hl;by_cases hf:(field.toList==[])=true
 .go_wp2_with fail;refine(As.o _ _ aO.o.1).mono ?_;rintro e w2⟨wv,rfl,⟨vs,hs,hr⟩,aY⟩;obtain⟨wa,wc,rfl,_⟩:=hs.open_;have HS:=af (And.intro hs (And.intro hr (aO.o.below aY).1));clear hs hr aY;go_wp2;go_ret2;exact⟨_,rfl,⟨0,_,vs,rfl,HS.o.1,HS.o.2.1,λh=>absurd rfl h⟩,HS.o.2.2⟩
 have vq:=af (Q7.o w1 nn l ek.o aO.o.1);go_wp2_with fail;refine(vq.o).mono ?_;rintro e w2⟨_,rfl,⟨fv,rfl,bR⟩,aY⟩;have aL:=af (aO.o.below aY);have im:Hd (ab M w2 fv (aI l l.changes.length).fields):=bR;have NX:=af (Nq.o nn l ek.o);have HFF:=af (Ar.o nn l ek.o);obtain⟨fs,hfe⟩:=fx ((aI l l.changes.length).fields);rw[hfe]at im NX HFF;obtain⟨fa,fc,rfl,_⟩:=im.o.open_;have HFG:Hd (∀k:Nat,k<fs.length->∃f,fs[k]? =some f):=λk h=>⟨_,Qac h⟩;have NR:Hd (∀(i:Nat)(f:ay),fs[i]? =some f->_):=λi f hx=>ky im.o hx;clear bR aY hfe c0 c1 c2 c3 q3 q4 q5 q6 q7 q8 q9 vq Nq Ar;go_upto_region 7 with fail;obtain⟨W3,lK⟩:=cM (w2.alloc (xK #[xS l.first.name,xL fa fs.length fc] 101));have bI:=af (aL.o.alloc (xK #[xS l.first.name,xL fa fs.length fc] 101));rw[<-lK]at bI;have lO:=af (show aq w2 W3/\dY W3 w2 (xK #[xS l.first.name,xL fa fs.length fc] 101)by rw[lK];exact⟨bO,Qbh w2 _⟩);rw[<-lK];clear lK;obtain⟨d0,d1⟩:=ah lO.o.2;obtain⟨_,_,_,q3,q4,q5,q6,q7,q8,q9⟩:=N4.o _ bI.o;have R9:=af (zS M (xL fa fs.length fc) W3 l.first.name field fs (im.o.below lO.o.1) NX.o.1);go_wp2_with fail;refine(R9.o).mono ?_;rintro e w4⟨⟨k4,b4,rfl,ni⟩,dT⟩;have eH:=af (bI.o.below dT);have NA:Hd (aq w2 w4/\dY w4 w2 (xK #[xS l.first.name,xL fa fs.length fc] 101)):=⟨lO.o.1.trans (dT.mono lO.o.1.size),(dT.block _ (Qaa.1 lO.o.2).1).trans lO.o.2⟩;clear dT d0 d1 q3 q4 q5 q6 q7 q8 q9 R9 lO bI;go_upto_region 10 with fail;obtain⟨W5,mD⟩:=cM (w4.alloc (xK #[xI (k4:Int)] 3));have j7:=af (eH.o.alloc (xK #[xI (k4:Int)] 3));rw[<-mD]at j7;have uh:=af (show aq w2 W5/\dY W5 w2 (xK #[xS l.first.name,xL fa fs.length fc] 101)/\dY W5 w4 (xK #[xI (k4:Int)] 3)by rw[mD];exact⟨NA.o.1.alloc NA.o.1.size _,(Qcb _ _ _ (Qaa.1 NA.o.2).1).trans NA.o.2,Qbh w4 _⟩);rw[<-mD];clear mD NA eH;cases b4
 .go_wp2;go_ret2;exact⟨_,rfl,⟨41,_,[],rfl,ab.nil _ _,(λv hv=>by cases hv),λ_=>rfl⟩,j7.o.1⟩
 have ni:=ni rfl;obtain⟨f,hff⟩:=HFG.o k4 ni;obtain⟨b5,qh4,qh5,hv5,_,_,hc5⟩:=NR.o k4 f hff;obtain⟨rfl,rfl⟩:=gY hv5;have Xn:=af hc5;have Yb:Hd (f.type.kind≠5->∀o∈ls,o.cls=(nn:Int)->∀v,o.aJ[k4]? =some v->v.list=[]/\v.kind≠5):=HFF.o k4 f hff;have qci:=af (U3.o W5.drew f.type (NX.o.2 k4 f hff) j7.o.1.drew);have cY:(0:Int)<=(k4:Int):=by omega
 have dA:(k4:Int)<(fs.length:Int):=by omega
 clear hv5 hc5 hff NR HFF NX HFG U3;obtain⟨d0,d1⟩:=ah uh.o.2.1;have a0:=one_cell uh.o.2.2;obtain⟨_,_,_,q3,q4,q5,q6,q7,q8,q9⟩:=N4.o _ j7.o;obtain⟨e0,e1,e2,e3⟩:=Xn.o _ uh.o.1;go_upto_region 12 with fail;go_cut [55](λv wx=>(∃bb,v=xB bb/\(bb=false->f.type.kind≠5))/\Hd (aq W5 wx));case first=>
  go_wp2_with fail;go_region_law(first
   |(go_simp;go_at_call 61;refine qci.o.mono ?_;rintro e wa⟨⟨bb,rfl,ub⟩,hb⟩;have DR:=af (And.intro ub hb);clear ub hb)
   |fail);all_goals
   go_wp2;go_meet;exact⟨⟨_,rfl,λh=>DR.o.1 (by simpa using h)⟩,((Qbg _ W5).drew.trans DR.o.2)⟩
 case rest=>
 obtain⟨⟨bb,rfl,ub⟩,bN⟩:=hcut;cases bb;rotate_left
 .go_wp2;go_ret2;exact⟨_,rfl,⟨42,_,[],rfl,ab.nil _ _,(λv hv=>by cases hv),λ_=>rfl⟩,(j7.o.below bN.o).1⟩
 have nt:=af (j7.o.below bN.o);have HF6:=af (Yb.o (ub rfl));have N1:=af (And.intro ((bN.o.block _ (Qaa.1 uh.o.2.1).1).trans uh.o.2.1) ((bN.o.block _ (Qaa.1 uh.o.2.2).1).trans uh.o.2.2));have HE6:=af (Xn.o _ (uh.o.1.trans (bN.o.mono uh.o.1.size)));clear ub d0 d1 a0 q3 q4 q5 q6 q7 q8 q9 e0 e1 e2 e3 qci Yb;obtain⟨d0,d1⟩:=ah N1.o.1;have a0:=one_cell N1.o.2;obtain⟨_,_,_,_,_,q5,q6,q7,q8,q9⟩:=N4.o _ nt.o;obtain⟨c0,c1,c2,c3⟩:=ae (nt.o.bJ rfl);obtain⟨_,_,_,e3⟩:=HE6.o;obtain⟨ix,QD⟩:=fx (f.indexed);rw[QD]at e3;have H2:=af (K4.o _ (nn:Int) k4 _ _ nt.o.1 N1.o.2 (nt.o.cE rfl) HF6.o);have HI:=af (Q3.o _ (nn:Int) k4 nt.o.1 HF6.o);clear QD bN uh K4 Q3 As Q7 HF N4 HE6;by_cases hop:(op.toList==[61])=true
 .cases ix
  .go_wp2_with fail;refine(H2.o).mono ?_;rintro e w7⟨wv,rfl,⟨vs,hs,hr⟩,iK⟩;obtain⟨wa,wc,rfl,_⟩:=hs.open_;have HS:=af (And.intro hs (And.intro hr (nt.o.below iK).1));clear hs hr iK;go_wp2;go_ret2;exact⟨_,rfl,⟨0,_,vs,rfl,HS.o.1,HS.o.2.1,λh=>absurd rfl h⟩,HS.o.2.2⟩
  .go_wp2_with fail;refine(HI.o).mono ?_;rintro e w7⟨wv,rfl,⟨vs,hs,hr⟩,iK⟩;obtain⟨wa,wc,rfl,_⟩:=hs.open_;have HS:=af (And.intro hs (And.intro hr (nt.o.below iK).1));clear hs hr iK;go_wp2;go_ret2;exact⟨_,rfl,⟨0,_,vs,rfl,HS.o.1,HS.o.2.1,λh=>absurd rfl h⟩,HS.o.2.2⟩
 .go_wp2_with fail;refine(H2.o).mono ?_;rintro e w7⟨wv,rfl,⟨vs,hs,hr⟩,iK⟩;obtain⟨wa,wc,rfl,_⟩:=hs.open_;have HS:=af (And.intro hs (And.intro hr (nt.o.below iK).1));clear hs hr iK;go_wp2;go_ret2;exact⟨_,rfl,⟨0,_,vs,rfl,HS.o.1,HS.o.2.1,λh=>absurd rfl h⟩,HS.o.2.2⟩
end
end Go.Proofs.YtccpcfcochffcaaGreatDoor
