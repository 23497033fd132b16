/- A part of MarkAsks's proof; no condition. -/
import Derived.Test.YtccpcfcochffcaaGreatDoorM33
import Derived.Test.YtccpcfcochffcaaGreatDoorM37
set_option linter.all false
set_option maxHeartbeats 8000000
set_option maxRecDepth 100000
namespace Go.Proofs.YtccpcfcochffcaaGreatDoor
open Go.Proofs.Tryz
variable{xs G S:List Int}{v lv:an}{M F:aS}{w w0 W wr:aj}{m:Nat}{id many:Int}{vs:List au}
namespace Mk
open Go.RowKit
theorem CZ {w:aj}(h:ab (α:=Int) M w v xs):ct (λi=>¬M i) w v xs:=by
 obtain⟨css,h1,h2,h3⟩:=h;have e:css=xs.map (λx=>[Value.int .i64 x]):=by
  refine List.ext_getElem (by simpa using h2) (λi p q=> ?_);rw[List.getElem_map];exact h3 i _ _ (Qac p) (Qac (by simpa using q))
 have e2:css.flatten=xs.map (Value.int .i64):=by
  rw[e];clear h1 h2 h3 e;induction xs with
  |nil=>rfl
  |cons a r ih=>simp only[List.map_cons,List.flatten_cons,ih];rfl
 unfold ct;rw[<-e2];exact h1
structure wG(w0 w:aj)(m n:Nat)(G B G2 B2:List Int):Prop where
 ex:∃F F2,cJ w m F G B/\cJ w n F2 G2 B2/\(∀i,F i->w0.heap.size<=i)/\(∀i,F2 i->w0.heap.size<=i)/\∀i,F i->¬F2 i
 bel:aq w0 w
section
variable {w0 w u:aj}{m n:Nat}{G B G2 B2 ids:List Int}{iv:an}
theorem nS(h:aq w0 w)(hF:∀i,F i->w0.heap.size<=i)(ho:ai F w u):aq w0 u:=
 ⟨ho.os.trans h.os,ho.tape.trans h.tape,ho.output.trans h.output,Qcg h.size ho.size,λi hi=>(ho.block i (Qde hi h.size) (λh1=>by have:=hF i h1;omega)).trans (h.block i hi)⟩
theorem wG.swap(h:wG w0 w m n G B G2 B2):wG w0 w n m G2 B2 G B:=by
 obtain⟨⟨F,F2,h1,h2,h3,h4,h5⟩,hb⟩:=h;exact⟨⟨F2,F,h2,h1,h4,h3,λi a b=>h5 i b a⟩,hb⟩
theorem wG.later(h:wG w0 w m n G B G2 B2)(hu:aq w u):wG w0 u m n G B G2 B2:=by
 obtain⟨⟨F,F2,h1,h2,h3,h4,h5⟩,hb⟩:=h;exact⟨⟨F,F2,h1.only (T:=λi=>w.heap.size<=i) (ai.ao hu) (λi hi=>by have:=h1.lt i hi;show¬_;omega),h2.only (T:=λi=>w.heap.size<=i) (ai.ao hu) (λi hi=>by have:=h2.lt i hi;show¬_;omega),h3,h4,h5⟩,eV hb hu⟩
theorem wG.IF {F2 F':aS}{G' B':List Int}(h1:cJ w m F G B)(h2:cJ w n F2 G2 B2)(h3:∀i,F i->w0.heap.size<=i)(h4:∀i,F2 i->w0.heap.size<=i)(h5:∀i,F i->¬F2 i)(hb:aq w0 w)(k1:cJ u m F' G' B')(k2:ai F w u)(k3:∀i,F' i->F i\/w.heap.size<=i):wG w0 u m n G' B' G2 B2:=
 ⟨⟨F',F2,k1,h2.only k2 (λi a b=>h5 i b a),λi hi=>(k3 i hi).elim (h3 i) (λhh=>Qcg hb.size hh),h4,λi hi ha=>(k3 i hi).elim (λhh=>h5 i hh ha) (λhh=>by have:=h2.lt i ha;omega)⟩,nS hb h3 k2⟩
theorem To(hb:aq w0 w)(hs:ab (α:=Int) xF w iv ids)(hr:dO ids=true):xC 12 #[iv] w λe w'=>∃n,e=xR (.tuple #[xP n,xI 0])/\St w0 w' n (gu [] [] ids) []:=by
 refine(KO _ ids iv w (CZ hs) hr).mono ?_;rintro e w'⟨n,F',rfl,h1,h2,h3⟩;exact⟨n,rfl,⟨⟨F',h1,λi hi=>Qcg hb.size (h3 i hi)⟩,eV hb h2⟩⟩
theorem wG.scan(h:wG w0 w m n G B G2 B2)(hu:aq w u)(hs:ab (α:=Int) (λi=>w0.heap.size<=i/\i<w.heap.size) u iv ids)(id:Int)(hg:id∈G)(hr:dO ids=true):
 xC 14 #[xP m,xI id,iv] u λe w'=>e=xR (xI 0)/\wG w0 w' m n (vX G B id ids) (fO B id) G2 B2:=by
 have aX:∀F,cJ w m F G B->∀i,F i->i<w.heap.size:=λF h=>h.lt;obtain⟨⟨F,F2,h1,h2,h3,h4,h5⟩,hb⟩:=h;have l1:=aX F h1;have h1':=h1.only (T:=λi=>w.heap.size<=i) (ai.ao hu) (λi hi=>by have:=h1.lt i hi;show¬_;omega);have h2':=h2.only (T:=λi=>w.heap.size<=i) (ai.ao hu) (λi hi=>by have:=h2.lt i hi;show¬_;omega);refine(zw m F _ G B id ids iv u h1' hg (CZ hs) (λi hi hf=>hi ⟨h3 i hf,l1 i hf⟩) hr).mono ?_;rintro e w'⟨rfl,F',k1,k2,k3⟩;exact⟨rfl,wG.IF h1' h2' h3 h4 h5 (eV hb hu) k1 k2 k3⟩
theorem wG.next(h:wG w0 w m n G B G2 B2)(i:Int)(b:Bool)(hi:zx G=i)(ub:zy G=b):
 xC 13 #[xP m] w λe w'=>e=xR (.tuple #[xI i,xB b])/\wG w0 w' m n G B G2 B2:=by
 subst hi ub;obtain⟨⟨F,F2,h1,h2,h3,h4,h5⟩,hb⟩:=h;refine(zz m F G B w h1).mono ?_;rintro e w'⟨rfl,F',k1,k2,k3⟩;exact⟨rfl,wG.IF h1 h2 h3 h4 h5 hb k1 k2 k3⟩
theorem wG.done(h:wG w0 w m n G B G2 B2)(b:Bool)(ub:G.isEmpty=b):xC 15 #[xP m] w (gE (xB b) w):=by
 subst ub;obtain⟨⟨F,F2,h1,h2,h3,h4,h5⟩,hb⟩:=h;exact Fy m F G B w h1
theorem wG.marked(h:wG w0 w m n G B G2 B2):xC 16 #[xP m] w λe w'=>∃v,e=xR v/\ct (λi=>w.heap.size<=i) w' v (jI G B)/\aq w w':=by
 obtain⟨⟨F,F2,h1,h2,h3,h4,h5⟩,hb⟩:=h;exact zC m F G B w h1
end
end Mk
section
open Go.RowKit Go.Shelf
theorem TK(h:ct F w v xs):ab (α:=Int) xF w v xs:=by
 obtain⟨a,cap,rfl,hc,hm,ho⟩:=h.open_;rcases Nat.eq_zero_or_pos xs.length with h0|h0
 .have e:=Qdd h0;subst e;exact⟨[],⟨rfl,a,cap,rfl,Qbf _,by unfold maxLen;omega,λh=>absurd h (by simp)⟩,rfl,λi cs x bD=>by simp at bD⟩
 .obtain⟨b,off,rfl,_,hb,aG⟩:=ho h0;refine gn (α:=Int) hc (by unfold maxLen;omega) (λh=>h) hb λi x hx=>⟨[xI x],rfl,λj u hu=> ?_⟩;have hj:j=0:=by have:=(Qad.1 hu).1;simp at this;omega
  subst hj;have e:u=xI x:=by simpa using hu.symm
  subst e;have hs:aA.size Int=1:=rfl;rw[hs,Nat.mul_one,Nat.add_zero];exact aG i x hx
theorem St.Z7 {u:aj}{B ids:List Int}{iv:an}(h:Mk.St w0 w m G B)(hu:aq w u)(hs:ab (α:=Int) (λi=>w0.heap.size<=i/\i<w.heap.size) u iv ids)(id:Int)(hg:id∈G)(hr:Mk.dO ids=true):
 xC 14 #[xP m,xI id,iv] u λe w'=>e=xR (xI 0)/\Mk.St w0 w' m (Mk.vX G B id ids) (Mk.fO B id):=by
 obtain⟨F,hm,hF⟩:=h.ex;have l1:=hm.lt;have Ac:=hm.only (T:=λi=>w.heap.size<=i) (ai.ao hu) (λi hi=>by have:=hm.lt i hi;show¬_;omega);refine(Mk.zw m F _ G B id ids iv u Ac hg (Mk.CZ hs) (λi hi hf=>hi ⟨hF i hf,l1 i hf⟩) hr).mono ?_;rintro e w'⟨rfl,F',h1,h2,h3⟩;exact⟨rfl,Mk.St.only (Mk.eV h.bel hu) hF h1 h2 h3⟩
structure Qz(x:bE)(w0:aj)(W:aj)(m:Nat)(G B:List Int):Prop where
 st:Mk.St w0 W m G B
 inv:Mk.lh (bM x) (cZ x) G B
theorem K3 {x:bE}(h:fL x){l:List Int}(hl:∀y∈l,1<=y/\y<=(x.objs.length:Int)):Mk.dO l=true:=by
 have GY:=h.len;unfold Mk.dO;rw[List.all_eq_true];intro y hy;have:=hl y hy;simp only[decide_eq_true_eq];omega
theorem Wr {roots:List Int}{R:Int->List Int}{B:List Int}(h:Mk.lh roots R [] B){n:Int}(hn:Mk.AG roots R n):n∈B:=by
 induction hn with
 |root y hy=>exact(h.all y hy).resolve_left (by simp)
 |step y z _ hz ih=>exact(h.closed y ih z hz).resolve_left (by simp)
theorem TL {x:bE}(h:fL x)(hG:Gd w0){ov:an}{ra:dC}{rn rc:Nat}(j8:ab xF w0 lv x.lines)(kn:ab xF w0 ov x.objs)(h1:1<=id)(h2:id<=x.objs.length)(hb:aq w0 W):
 xG 25 #[.agg #[lv,ov,xL ra rn rc,xI x.next],xI id] W λu w'=>ab (α:=Int) (λi=>w0.heap.size<=i/\i<W.heap.size) w' u (cZ x id):=by
 have A5:Ev xF w0 (λi=>w0.heap.size<=i/\i<W.heap.size) W:=⟨ai.ao hb,λi hi=> .inr hi.1⟩;have hh:=Jo x h (λi=>w0.heap.size<=i/\i<W.heap.size) W (λi hi=>hi.2) (hG.below hb) lv ov ra rn rc (j8.ev A5) (kn.ev A5) (id-1).toNat (by omega);rw[show(((id-1).toNat:Nat):Int)+1=id from by omega]at hh;exact hh
theorem Nh(x:bE)(h:fL x)(w:aj)(hG:Gd w)(lv ov rv:an)(j8:ab xF w lv x.lines)(kn:ab xF w ov x.objs)(kN:ab xF w rv x.roots):
 xG 6 #[.agg #[lv,ov,rv,xI x.next]] w λu w'=>∃(L:List Int)(v:an),u= .tuple #[v,xB true]/\ab (α:=Int) xF w' v L/\∀n,n∈L↔Mk.AG (bM x) (cZ x) n:=by
 have HX:=af h;obtain⟨la,lc,rfl,-⟩:=j8.open_;obtain⟨oa,oc,rfl,-⟩:=kn.open_;obtain⟨ra,rc,rfl,-⟩:=kN.open_;obtain⟨W1,dS⟩:=cM (w.alloc (xK #[xL la x.lines.length lc,xL oa x.objs.length oc,xL ra x.roots.length rc,xI x.next] 40));have HB:=af (Bx.dR w (xK #[xL la x.lines.length lc,xL oa x.objs.length oc,xL ra x.roots.length rc,xI x.next] 40));rw[<-dS]at HB;have Nr:=af (And.intro (j8.below HB.o.1) (And.intro (kn.below HB.o.1) (kN.below HB.o.1)));have DJ:=af (hG.below HB.o.1);have HK:=fV (w:=W1) (λW hb=>ae ((HB.o.below hb).bJ rfl));have Nq:=fV (w:=W1) (λW hb=>P2 xF W (λi hi=>hi.elim) la x.lines.length lc oa x.objs.length oc (xL ra x.roots.length rc) x.roots x.next (Nr.o.2.2.below hb) HX.o.rlen);have R4:Hd (Mk.dO (x.roots.map cT.id)=true):=K3 HX.o (HX.o.closed.roots);have qfs:Hd (∀(W:aj)(id:Int),aq W1 W->1<=id->id<=x.objs.length->_):=λW id hb h1 h2=>TL (W:=W) (ra:=ra) (rn:=x.roots.length) (rc:=rc) HX.o DJ.o Nr.o.1 Nr.o.2.1 h1 h2 hb;have HRG:Hd (∀id,Mk.AG (bM x) (cZ x) id->1<=id/\id<=x.objs.length):=λid hid=>HX.o.closed.range hid;have U0:Hd (∀G B,Mk.lh (bM x) (cZ x) G B->B.length<=10):=λG B h=>Qcg (h.short HX.o.closed) HX.o.len;clear j8 kn kN h hG;go_enter func6,ntmps6;go_upto_region 1 with fail;rw[<-dS];clear dS;obtain⟨c0,c1,c2,c3⟩:=HK.o W1 dK;go_wp2_with fail;refine(Nq.o _ dK).mono ?_;rintro e w4⟨u4,rfl,ui,dT⟩;obtain⟨ua,uc,rfl,-⟩:=ui.open_;rw[Qdc]at ui;have jV:=af ui;have eH:=af dT;clear ui dT c0 c1 c2 c3;go_wp2_with fail;refine(Mk.To eH.o jV.o R4.o).mono ?_;rintro e w5⟨m,rfl,cm⟩;have fu:Hd (Qz x W1 w5 m (Mk.gu [] [] (bM x)) []):=⟨cm,Mk.lh.start _ _⟩;clear cm;go_wp2;go_loopg [2,3,6,7,8,9]300(λg r2 r3 iv _ _ _ wr=>∃(i:Nat)(G B:List Int),i=B.length/\g=300-i/\iv=xI i/\r2=xL none 0 0/\r3=xB false/\Hd (Qz x W1 wr m G B));case atStart=>exact⟨0,_,[],rfl,rfl,rfl,rfl,rfl,fu⟩
 case round=>
  clear fu;obtain⟨i,G,B,hiB,rfl,rfl,rfl,rfl,HS⟩:=hrel;have qb7:=U0.o _ _ HS.o.inv;rw[<-hiB]at qb7;have HIB:=af hiB;have qf5:(i:Int)<300:=by omega
  clear hiB;rcases G with _|⟨id,G'⟩
  .go_wp2_with fail;refine cG (HS.o.st.tC 0 false rfl rfl) λw8 cm=> ?_;have An:Hd (Qz x W1 w8 m [] B):=⟨cm,HS.o.inv⟩;clear cm;go_wp2_with fail;refine(An.o.st.marked).mono ?_;rintro e w9⟨v,rfl,Ul,xQ⟩;have HV:=af (TK Ul);obtain⟨va,vc,rfl,-⟩:=HV.o.open_;have HB9:=af (HB.o.1.trans ((An.o.st.bel.trans (xQ.mono An.o.st.bel.size)).mono HB.o.1.size));clear Ul xQ;go_wp2;go_ret2;exact⟨_,rfl,⟨_,_,rfl,HV.o,λn=>(Mk.pR n [] B).trans ⟨λh=>An.o.inv.reached n h,λh=> .inr (Wr An.o.inv h)⟩⟩,HB9.o⟩
  .have hrg:=HRG.o id (HS.o.inv.reached id (.inl (by simp)));obtain⟨se,K7⟩:=hrg;go_wp2_with fail;refine cG (HS.o.st.tC id true rfl rfl) λw8 cm=> ?_;have An:Hd (Qz x W1 w8 m (id::G') B):=⟨cm,HS.o.inv⟩;clear cm;obtain⟨c0,c1,c2,c3⟩:=HK.o w8 An.o.st.bel;have QQ:=af (qfs.o w8 id An.o.st.bel se K7);have Zm:Hd (Mk.dO (cZ x id)=true):=K3 HX.o (HX.o.closed.refs id se K7);clear se K7;go_wp2_with fail;refine(QQ.o).mono ?_;rintro e w9⟨u9,rfl,Ul,xQ⟩;have Gz:=af (St.Z7 An.o.st xQ Ul id (by simp) Zm.o);obtain⟨ua9,uc9,rfl,-⟩:=Ul.open_;clear Ul xQ c0 c1 c2 c3;go_wp2_with fail;refine cG (Gz.o) λvu cm=> ?_;have RH:Hd (Qz x W1 vu m (Mk.vX (id::G') B id (cZ x id)) (Mk.fO B id)):=⟨cm,An.o.inv.scan (by simp)⟩;clear cm;go_wp2;go_roundg(300-(i+1));case measure=>omega
   case rel=>exact⟨i+1,_,_,(by rw[Mk.uV B id (An.o.inv.apart id (by simp)),HIB.o]),rfl,by go_num,rfl,rfl,RH⟩
theorem Z8(L:List Int)(n:Int)(hn:n∈L)(M:aS)(v:an)(w:aj)(h:ab (α:=Int) M w v L):xC 11 #[v,xI n] w (gE (xB true) w):=by
 have HC:Hd (∀(i:Nat)(x:Int),L[i]? =some x->_):=λi x hx=>iF h hx;obtain⟨a,bQ,rfl,cK,qE,-⟩:=h.open_;have HN:=af hn;generalize hl:L.length=l at*;have ek:=af hl;go_enter func11,ntmps11;go_wp2;go_loopg [4,5]l(λg r4 iv wr=>∃k:Nat,k<=l/\g=l-k/\iv=xI k/\r4=xB false/\w=wr/\Hd (n∉L.take k));case atStart=>exact⟨0,Qbf _,rfl,rfl,rfl,rfl,af (by simp)⟩
 case round=>
  obtain⟨i,hi,rfl,rfl,rfl,rfl,HA⟩:=hrel;by_cases aX:i<l
  .obtain⟨x,hx⟩:=dQ L i (by rw[ek.o];exact aX);obtain⟨b,off,cap,hv,hb,aw⟩:=HC.o i x hx;obtain⟨rfl,rfl⟩:=gY hv;have g0:=aw w dK;have HAN:Hd (x≠n->n∉L.take (i+1)):=λiO hn=>by
    rw[Qbb,hx]at hn;rcases Qch.1 hn with hn|hn
    .exact HA.o hn
    .simp at hn;exact iO hn.symm
   by_cases iO:x=n
   .subst iO;go_wp2;go_ret;exact⟨rfl,rfl⟩
   .have tM:=af (HAN.o iO);have qh7:(x==n)=false:=by simpa using iO
    go_wp2;go_roundg(l-(i+1));case measure=>omega
    case rel=>exact⟨i+1,by omega,rfl,by go_num,rfl,rfl,tM⟩
  .exfalso;have h1:=HA.o;rw[Qah (by rw[ek.o];omega)]at h1;exact h1 HN.o
theorem JG(x:UK)(w:aj)(v:an)(hq:CV w v x):
 xG 8 #[v] w λu w'=>∃(q:rK)(sv:an),u=rL q sv/\pP q/\ab xF w' sv q.steps:=by
 cases hf:x.find
 .exact Dg x hf w v hq
 .exact Dk x hf w v hq
structure zT(many:Nat)(L S:List Int)(w wr:aj)(lv av:an)(vs:List au):Prop where
 l:ab (α:=Int) xF wr lv L
 a:ab xF wr av vs
 now:∀v∈vs,lG S many v
 mem:∀n,n∈S->n∈L
 tb:Tb wr
 bel:aq w wr
theorem zT.below {many:Nat}{L:List Int}{av:an}(h:zT many L S w wr lv av vs)(hb:aq wr W):zT many L S w W lv av vs:=
 ⟨h.l.below hb,h.a.below hb,h.now,h.mem,h.tb.below hb,h.bel.trans (hb.mono h.bel.size)⟩
theorem Nj {v:au}(h:lG S many v):(∀r∈bw 3 v++bw 4 v,r∈S)/\(bw 3 v++bw 4 v).length<=24:=by
 obtain⟨t,ht⟩:=h.ok;refine⟨λr hr=>(Qch.1 hr).elim (h.ins.refs r) (h.ins.weaks r),?_⟩;have h1:=kI ht 3;have h2:=kI ht 4;rw[Qda];omega
theorem TN(w:aj)(hG:Gd w)(r0 r1 r2:dC)(n0 c0 n1 c1 n2 c2:Nat)(qv:an)(q:UK)(hq:CV w qv q)
 (Ug:∀W,aq w W->xC 5 #[.agg #[xL r0 n0 c0,xL r1 n1 c1,xL r2 n2 c2]] W (bW W λu w'=>∃(x:bE)(lv ov rv:an),fL x/\u= .agg #[lv,ov,rv,xI x.next]/\ab xF w' lv x.lines/\ab xF w' ov x.objs/\ab xF w' rv x.roots)):
 xC 3 #[.agg #[xL r0 n0 c0,xL r1 n1 c1,xL r2 n2 c2],qv] w (cN (xB true) w):=by
 obtain⟨i0,dz,dX,cY,dA⟩:=info_parts iU;have wY:=af Ug;have Sy:=af hG;have HQR:=af hq;obtain⟨⟨sa,va,sc,vc,rfl,-⟩,-⟩:=hq;have iA:=af (Bx.dh w (xK #[xL r0 n0 c0,xL r1 n1 c1,xL r2 n2 c2] 26) (NJ q.find q.name (xL sa q.steps.length sc) q.field q.op q.k q.n q.s (xL va q.l.length vc)));have N4:Hd (∀W,Bx w [xK #[xL r0 n0 c0,xL r1 n1 c1,xL r2 n2 c2] 26,NJ q.find q.name (xL sa q.steps.length sc) q.field q.op q.k q.n q.s (xL va q.l.length vc)] W->_):=λW hb=>mZ (hb.cE rfl);have HQF:=fV (w:=w) (λW hb=>JG q W _ (HQR.o.below hb));obtain⟨qf,qn,qs,qd,qo,qk,qm,qt,ql⟩:=q;dsimp only at*;generalize qs.length=ql1 at*;generalize ql.length=ql2 at*;clear Ug hG;go_enter func3,ntmps3;go_wp2_with fail;refine cG (Mk.MO _) λw1 aC=> ?_;have aO:=af (iA.o.below aC);obtain⟨y0,y1,y2⟩:=aD (aO.o.bJ rfl);clear aC iA;go_wp2_with fail;refine(wY.o _ aO.o.1).mono ?_;rintro e w2⟨_,rfl,⟨x,lv,ov,rv,hx,rfl,j8,kn,kN⟩,aY⟩;obtain⟨la,lc,rfl,-⟩:=j8.open_;obtain⟨oa,oc,rfl,-⟩:=kn.open_;obtain⟨ra,rc,rfl,-⟩:=kN.open_;have HX:=af hx;have aL:=af (aO.o.below aY);have wF:=af (And.intro j8 (And.intro kn kN));clear aY hx j8 kn kN y0 y1 y2 aO wY;go_upto_region 3 with fail;obtain⟨W2,fT⟩:=cM (w2.alloc (xK #[xL la x.lines.length lc,xL oa x.objs.length oc,xL ra x.roots.length rc,xI x.next] 40));have bI:=af (show Bx w _ W2 by rw[fT];exact aL.o.alloc _);have qB:=af (show aq w2 W2/\dY W2 w2 (xK #[xL la x.lines.length lc,xL oa x.objs.length oc,xL ra x.roots.length rc,xI x.next] 40)by rw[fT];exact⟨bO,Qbh w2 _⟩);rw[<-fT];clear fT aL;have HMK:=af (Nh x HX.o W2 (Sy.o.below bI.o.1) _ _ _ (wF.o.1.below qB.o.1) (wF.o.2.1.below qB.o.1) (wF.o.2.2.below qB.o.1));obtain⟨k0,k1,k2,k3⟩:=ae qB.o.2;go_wp2_with fail;refine(HMK.o).mono ?_;rintro e w3⟨_,rfl,⟨L,mv,rfl,hL,fG⟩,bG⟩;obtain⟨ma,mc,rfl,-⟩:=hL.open_;have eH:=af (bI.o.below bG);have lO:Hd (aq w2 w3/\w3.heap[w2.heap.size]? =_):=⟨qB.o.1.trans (bG.mono qB.o.1.size),(bG.block _ (Qaa.1 qB.o.2).1).trans qB.o.2⟩;have HL:=af hL;have HM:=af fG;generalize JX:L.length=ll at*;clear bG hL fG k0 k1 k2 k3 HMK qB bI JX;have qco:Hd (∀W q sv,aq w3 W->pP q->ab xF W sv q.steps->_):=λW q sv hb hq hs=>TJ x HX.o xF W (λi hi=>hi.elim) (Sy.o.below (eH.o.below hb).1) _ _ _ _ (wF.o.1.below (lO.o.1.trans (hb.mono lO.o.1.size))) (wF.o.2.1.below (lO.o.1.trans (hb.mono lO.o.1.size))) (wF.o.2.2.below (lO.o.1.trans (hb.mono lO.o.1.size))) q hq hs;have Nw:=fV (w:=w3) (λW hb=>ae ((hb.block _ (Qaa.1 lO.o.2).1).trans lO.o.2));have qcp:Hd (∀(W:aj)(S:List Int)(av:an)(vs:List au),aq w3 W->(∀n,n∈S↔Mk.AG (bM x) (cZ x) n)->ab xF W av vs->(∀v∈vs,lG S x.objs.length v)->zT x.objs.length L S w W (xL ma ll mc) av vs):=λW S av vs hb hS ha hn=>⟨HL.o.below hb,ha,hn,λn h=>(HM.o n).2 ((hS n).1 h),Sy.o.tb.below (eH.o.below hb).1,(eH.o.below hb).1⟩;have XO:x.objs.length<=10:=HX.o.len;obtain⟨k0,k1,k2,k3⟩:=Nw.o _ dK;obtain⟨d0,d1,d2,d3,d4,d5,d6,d7,d8⟩:=N4.o _ eH.o;go_upto_region 4 with fail;go_cut [9,10](λv9 v10 wx=>∃(ee:Int)(vs:List au)(S:List Int)(av:dC)(am ac:Nat),v9=xL av am ac/\v10=xI ee/\Hd (vs.length=am)/\Hd (ee≠0->vs=[])/\Hd (zT x.objs.length L S w wx (xL ma ll mc) (xL av am ac) vs));case first=>
  go_region_law(first
   |(go_simp;go_at_call 8;refine(HQF.o _ eH.o.1.drew).mono ?_;rintro e w4⟨_,rfl,⟨q4,sv4,rfl,hq4,ui⟩,dT⟩;have Ym:Hd (aq w3 w4):=(Qbg _ w3).drew.trans dT;have HQ4:=af hq4;have jV:=af ui;have k0:=(Nw.o _ Ym.o).1;have k1:=(Nw.o _ Ym.o).2.1;have k2:=(Nw.o _ Ym.o).2.2.1;have k3:=(Nw.o _ Ym.o).2.2.2;clear dT hq4 ui)
   |(go_simp;go_at_call 7;refine(qco.o _ _ _ Ym.o HQ4.o jV.o).mono ?_;rintro e w5⟨_,rfl,ho,lL⟩;obtain⟨ee,wv,vs,S,rfl,hS,bo,NB,qcq⟩:=ho;obtain⟨av,ac,rfl,-⟩:=bo.open_;have HA:=af (qcp.o w5 S _ vs (Ym.o.trans (lL.mono Ym.o.size)) hS bo NB);have HN:=af qcq;generalize ham:vs.length=am at*;have HAM:=af ham;clear hS bo NB qcq lL ham)
   |fail);all_goals(go_wp2;go_meet)
  all_goals exact⟨ee,vs,S,av,am,ac,rfl,rfl,HAM,HN,HA⟩
 case rest=>
  obtain⟨ee,vs,S,av,am,ac,rfl,rfl,HAM,HN,HA⟩:=hcut;obtain⟨w5,TT⟩:=cM (wc);subst TT;clear k0 k1 k2 k3 d0 d1 d2 d3 d4 d5 d6 d7 d8 qco Nw qcp HQF N4;have X7:am<=9223372036854775807:=by have h1:=HA.o.a.open_;obtain⟨_,_,e,h1,h2,_⟩:=h1;simp only[Value.slice.injEq]at e;have:=HAM.o;omega
  go_upto_region 5 with fail;go_cut [40](λv wx=>v=xB false/\w5=wx);case first=>
   by_cases he:ee=0
   .subst he;go_wp2;go_meet;exact⟨rfl,rfl⟩
   .have h0:am=0:=by rw[<-HAM.o,HN.o he];rfl
    have he':(ee !=0)=true:=by simpa using he
    have HZ:=af h0;clear he h0;go_wp2;go_meet;exact⟨by rw[HZ.o];rfl,rfl⟩
  case rest=>
  obtain⟨rfl,rfl⟩:=hcut;go_wp2;go_loopg [4,11,13,14,59]am(λg r4 iv _ _ _ wr=>∃i:Nat,i<=am/\g=am-i/\iv=xI i/\r4=xB false/\Hd (zT x.objs.length L S w wr (xL ma ll mc) (xL av am ac) vs));case atStart=>exact⟨0,Qbf _,rfl,rfl,rfl,HA⟩
  case round=>
   clear HA;obtain⟨i,hi,rfl,rfl,rfl,HA⟩:=hrel;rename World=>wr;by_cases aX:i<am
   .obtain⟨⟨k,n,s,l⟩,hv⟩:=dQ vs i (by rw[HAM.o];exact aX);obtain⟨b,off,cap,a,c,he,cw,-,-,aw⟩:=dZ HA.o.a hv;obtain⟨rfl,rfl⟩:=gY he;have NB:=HA.o.now _ (Qaf hv);have Q7:=af (Nj NB);obtain⟨t,ht⟩:=NB.ok;have tP:=af aw;have Zn:=fV (w:=wr) (λW hb=>En ht (by omega) (M:=λ_=>False) (λi hi=>hi.elim) (aw W hb).2 (HA.o.tb.below hb));have qcr:=(aw wr dK).2;have HWK:Hd (∀(N:aS)W,(∀i,N i->wr.heap.size<=i)->Bd N W->aq wr W->_):=λN W h1 h2 hb=>Bq ht (by omega) (M:=N) h2 (qcr.ev ⟨ai.ao hb,λi hi=> .inr (h1 i hi)⟩) (HA.o.tb.below hb);have HJ:Hd (aq wr wr):=dK;have sd:Hd (∀W,aq wr W->aU W b (off+i*4) (xI k)/\aU W b (off+i*4+1) (xI n)/\aU W b (off+i*4+2) (xS s)/\aU W b (off+i*4+3) (xL a l.length c)):=λW hb=>(aw W hb).1;obtain⟨g0,g1,g2,g3⟩:=sd.o wr dK;obtain⟨Zr,RV⟩:=cM (bw 3 (au.mk k n s l));obtain⟨xs4,hx4⟩:=cM (bw 4 (au.mk k n s l));rw[<-RV,<-hx4]at Q7;rw[<-RV]at Zn;rw[<-hx4]at HWK;have qfu:=Q7.o.2;rw[Qda]at qfu;generalize l.length=lm at*;clear he cw aw hv NB ht RV hx4 qcr;go_upto_region 10 with fail;go_cut [57,58,59](λu57 u58 u59 wx=>∃(a2:dC)(l2 c2:Nat)(xs:List Int),u57=xL a2 l2 c2/\u58=xI l2/\u59=xI 0/\Hd (xs.length=l2)/\Hd (ab (α:=Int) xF wx (xL a2 l2 c2) xs)/\Hd (∀r∈xs,r∈L)/\Hd (zT x.objs.length L S w wx (xL ma ll mc) (xL (some ⟨b,off,none⟩) am ac) vs));case first=>
     go_region_held3(λw'=>w'.cell? ⟨b,off+i*4,none⟩=some (xI k)/\w'.cell? ⟨b,off+i*4+1,none⟩=some (xI n)/\w'.cell? ⟨b,off+i*4+2,none⟩=some (xS s)/\w'.cell? ⟨b,off+i*4+3,none⟩=some (xL a lm c))
      (with_reducible first|exact sd.o _ HJ.o|exact sd.o _ HJ.o.drew|exact sd.o _ eM.o|exact sd.o _ eM.o.drew|exact sd.o _ cR.o|exact sd.o _ cR.o.drew|exact sd.o _ qN.o|exact sd.o _ qN.o.drew|fail)
      (first
        |(go_at_call 9;with_reducible refine(Zn.o _ (by with_reducible first|exact HJ.o|exact HJ.o.drew)).mono ?_
          rintro e wa⟨_,rfl,⟨B3,hB3,Yn⟩,hb⟩;obtain⟨a3,c3,rfl,_⟩:=Yn.open_;have eM:Hd (aq wr wa):=(by with_reducible first|exact af hb|exact af (AK hb));have Ld:=af (Yn.le (base':=wr.heap.size) hB3);have Sf:Hd (∀i,bB (xL a3 Zr.length c3) xF i->wr.heap.size<=i):=λi h=>h.elim (λh=>h.elim) λh=>(Ld.o.dU i h).1;have HD3:Hd (Bd (bB (xL a3 Zr.length c3) xF) wa):=λi h=>h.elim (λh=>h.elim) λh=>(Ld.o.dU i h).2;clear hb Yn hB3)
        |(go_at_call 10;with_reducible refine(HWK.o (bB (xL a3 Zr.length c3) xF) _ Sf.o HD3.o (by with_reducible first|exact eM.o|exact eM.o.drew)).mono ?_
          rintro e wb⟨_,rfl,⟨B4,hB4,Yo⟩,hb⟩;obtain⟨a4,c4,rfl,_⟩:=Yo.open_;have DV:Hd (aq wa wb):=(by with_reducible first|exact af hb|exact af (AK hb));have cR:Hd (aq wr wb):=eM.o.trans (DV.o.mono eM.o.size);have qfv:=af (Ld.o.below DV.o);have HA4:=af (Yo.anyM hB4 HD3.o);clear hb Yo hB4)
        |(refine mH (α:=Int) rfl _ _ _ rfl xF wr.heap.size 3 i0 _ 8 underlying27 dz dX cY dA rfl (by decide) (.slice a3 Zr.length c3) Zr rfl qfv.o _ xs4 rfl HA4.o (by unfold maxLen;omega) (by omega) cR.o.size ?_;intro a5 c5 w5 VD qfw lL;have qcs:=af VD;have qN:Hd (aq wr w5):=cR.o.trans lL;clear VD qfw lL)
        |fail);all_goals(go_wp2;go_meet)
     all_goals exact⟨a5,_,c5,Zr++xs4,rfl,rfl,rfl,af (by simp),af (qcs.o.slice λi hi=>hi.elim),af (λr hr=>HA.o.mem r (Q7.o.1 r hr)),af (HA.o.below qN.o)⟩
    case rest=>
     obtain⟨a2,l2,c2,xs,rfl,rfl,rfl,Lb,tM,HXM,HA6⟩:=hcut;obtain⟨w6,hw6⟩:=cM (wc);subst hw6;have zU:l2<=9223372036854775807:=by have h1:=tM.o.open_;obtain⟨_,_,e,h1,h2,_⟩:=h1;simp only[Value.slice.injEq]at e;omega
     clear g0 g1 g2 g3;go_wp2;go_loopg [4,13,14,59]l2(λg r4 _ _ jv Sl=>∃j:Nat,j<=l2/\g=l2-j/\jv=xI j/\r4=xB false/\w6=Sl);case atStart=>exact⟨0,Qbf _,rfl,rfl,rfl,rfl⟩
     case round=>
      obtain⟨j,hj,rfl,rfl,rfl,rfl⟩:=hrel;by_cases xE:j<l2
      .obtain⟨r,hr⟩:=dQ xs j (by rw[Lb.o];exact xE);obtain⟨b2,of2,cp2,he2,-,jh⟩:=iF tM.o hr;obtain⟨rfl,rfl⟩:=gY he2;have g0:=jh _ dK;have Ag:=af (Z8 L r (HXM.o r (Qaf hr)) _ _ _ HA6.o.l);clear he2 jh hr;go_wp2_with fail;refine dJ (Ag.o) ?_;go_wp2;go_roundg(l2-(j+1));case measure=>omega
       case rel=>exact⟨j+1,by omega,rfl,by go_num,rfl,rfl⟩
      .obtain rfl:j=l2:=by omega
       go_wp2;go_roundg(am-(i+1));case measure=>omega
       case rel=>exact⟨i+1,by omega,rfl,by go_num,rfl,HA6⟩
   .obtain rfl:i=am:=by omega
    go_wp2;go_ret;exact⟨rfl,HA.o.bel⟩
end
end Go.Proofs.YtccpcfcochffcaaGreatDoor
