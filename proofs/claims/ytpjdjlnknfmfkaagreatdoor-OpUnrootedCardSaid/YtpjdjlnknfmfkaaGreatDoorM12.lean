/- A part; no condition. -/
import Derived.Test.YtpjdjlnknfmfkaaGreatDoorM07
import Derived.Test.YtpjdjlnknfmfkaaGreatDoorM10
import Derived.BigGuardPart
import Derived.Shelf.Spec.SlicesGrow
import Derived.Laws.EntriesVeiled
set_option linter.all false
set_option maxHeartbeats 8000000
set_option maxRecDepth 100000
namespace Go.Proofs.YtpjdjlnknfmfkaaGreatDoor
open Go.Proofs.Tryz
variable{s nm:bS}{t e:TypeId}{c0 c1 c2 c3 a0 a1 a2 a3 v fv lv v1 v2 v3:bt}{g i B K base b j cap p clk k:Nat}{W w w' W' w0:bq}{o:Obj}{M N F:bY}{br id:Int}{c:bI}{cur:Array bt}{x:bK}{f:bJ}{a:fM}{vs us l:List bE}{ls:List bQ}{S:List Int}
section
open Go.RowKit
def Pw {x:bG}(h:fj s.data.toList=some x):∃T,mM s 0 T/\rr T/\(∀t∈T,1<=t.bg/\t.bg<=4)/\T.length<=200/\ke 60 1 T=some (x,[])/\s.size<=200/\XOk x:=by
 unfold fj at h;cases hL:fN 200 s.data.toList 0 with
 |none=>rw[hL]at h;cases h
 |some T=>
  rw[hL]at h;simp only at h;split at h
  .rename_i e hq;split at h
   .rename_i hc;cases h;obtain⟨h1,h2,h3,h4⟩:=hc;have⟨k1,k2,k3⟩:=lB 200 _ 0 T h1 hL;exact⟨T,⟨200,by simpa using hL⟩,k1,k2,by omega,hq,by rw[cH]at h1;exact h1,h2,h3,h4⟩
   cases h
  cases h
def AP(s:bS)(x:bG)(h:fj s.data.toList=some x)(w:bq)(hT:Tb w):xG 267 #[s] w (Pm w x):=by
 have⟨T,h1,h2,h3,h4,h5,h6,h7⟩:=Pw h;exact L7 s x T h6 h1 h2 h3 h4 h5 h7.nodes h7.deep h7.size w hT
def vo {x:bG}(h:fj s.data.toList=some x):(s.toList==[])=false:=by
 rw[ByteArray.toList_eq];cases hq:s.data.toList with
 |nil=>rw[hq,rL]at h;cases h
 |cons a r=>rfl
def iP(s:bS)(h:bF s=true)(hs:s.size<=maxLen)(w:bq):xC 197 #[s,true] w (di true w):=by
 have HR:=aV (show xC 50 #[.agg #[s,()]] w (di true w)by
  have h1:=iA xF () w ⟨s,[]⟩ (aS.nil _ _) hs;rw[yf h]at h1;exact h1);clear h;delta xC;go_in;go_wp2_with fail;refine dx (HR.o) λw1 hb1=> ?_;have HB:=aV hb1;clear hb1;go_wp2;go_ret;exact⟨rfl,HB.o⟩
def jV(w:bq):xC 197 #["",false] w (di true w):=by
 delta xC;go_in;go_wp2;go_ret;exact⟨rfl,eH⟩
def eJ(b:Bool)(w:bq):xC 198 #["",b] w (di true w):=by
 delta xC;go_in;go_wp2;go_ret;exact⟨rfl,eH⟩
def Ci(s:bS)(x:bG)(h:fj s.data.toList=some x)(w:bq)(hT:Tb w):xC 198 #[s,true] w (di true w):=by
 have hz:=vo h;have HP:=aV (AP s x h w hT);obtain⟨xk,xn,xs,xl⟩:=x;clear h hT;delta xC;go_in;go_wp2_with fail;refine(HP.o).mono ?_;rintro e w1⟨_,rfl,⟨u,rfl,hag⟩,hb1⟩;obtain⟨a,cap,rfl,_⟩:=fF hag;have HB:=aV hb1;clear hb1 hag;go_wp2;go_ret;exact⟨rfl,HB.o.alloc HB.o.size _⟩
def Zm(k:Int):Array bt:=
 if k=1 then#[false,true,false,true,true,false]
 else if k=2\/k=6 then#[true,false,false,false,false,false]
 else if k=3 then#[true,true,false,false,false,false]
 else if k=4 then#[true,false,false,true,true,false]
 else#[true,true,true,true,true,true]
def lN(k:Int)(h:k=1\/k=2\/k=3\/k=4\/k=5\/k=6)(w:bq):xC 196 #[k] w (di (.tuple #[.agg (Zm k),true]) w):=by
 rcases h with rfl|rfl|rfl|rfl|rfl|rfl;all_goals
  delta xC;go_in;go_wp2_with fail;refine ah (v:= .tuple #[.agg _,true]) (by simp[results,results196,go_sem];rfl) rfl ⟨rfl,?_⟩;exact cU
structure Zn(x:bK):Prop where
 sh:ow x
 field:x.bg≠1->bF x.field=true
 aX:(x.bg=1\/x.bg=3\/x.bg=5)->bF x.aX=true
 more:x.bg=5->bF x.more=true
 type:(x.bg=1\/x.bg=4\/x.bg=5)->bO x.type=true
 dO:x.dO=⟨#[]⟩\/∃e,fj x.dO.data.toList=some e
 cW:x.cW=⟨#[]⟩\/∃e,fj x.cW.data.toList=some e
 s1:x.field.size<=maxLen
 s2:x.aX.size<=maxLen
 s3:x.more.size<=maxLen
def nH(a b c d e f:Bool):Obj:=xK #[a,b,c,d,e,f] 273
def gI {c4 c5:Value}(h:W.heap[g]? =some (xK #[c0,c1,c2,c3,c4,c5] t)):
 W.cell? (g,0)=some c0/\W.cell? (g,1)=some c1/\W.cell? (g,2)=some c2/\W.cell? (g,3)=some c3/\W.cell? (g,4)=some c4/\W.cell? (g,5)=some c5:=by simp[World.cell?,h]
def AQ(k:Int)(f n m:bS)(tk tf:Int)(e o:bS)(b1 b2 b3 b4 b5 b6:Bool)(w:bq)
 (hn:∀W,xC 196 #[k] W (di (.tuple #[.agg #[b1,b2,b3,b4,b5,b6],true]) W))
 (h1:∀W,xC 197 #[f,b1] W (di true W))
 (h2:∀W,xC 197 #[n,b2] W (di true W))
 (h3:∀W,xC 197 #[m,b3] W (di true W))
 (h4:∀W,xC 195 #[.agg #[tk,tf]] W (di b4 W))
 (h5:∀W,bC w W->xC 198 #[e,b5] W (di true W))
 (h6:∀W,bC w W->xC 198 #[o,b6] W (di true W))(h0:b4=false->tk=0/\tf=0):
 xC 125 #[.agg #[k,f,n,m,tk,tf,e,o]] w (di true w):=by
 have H1:=aV h1;have H2:=aV h2;have H3:=aV h3;have H4:=aV h4;have H5:=aV h5;have H6:=aV h6;have HN:=aV hn;have H0:=aV h0;clear h1 h2 h3 h4 h5 h6 hn h0;delta xC;go_in;go_wp2_with fail;refine dx (HN.o _) λw1 hb1=> ?_;have cu:=aV (((Bx.fm w (tQ ⟨k,f,n,m,⟨tk,tf⟩,e,o⟩)).aT hb1).alloc (nH b1 b2 b3 b4 b5 b6));have gy:Hd ((w1.alloc (nH b1 b2 b3 b4 b5 b6)).heap[w1.heap.size]? =some (nH b1 b2 b3 b4 b5 b6)):=az w1 _;clear hb1;have⟨p0,p1,p2,p3,p4,p5,p6,p7⟩:=bz (cu.o.cP rfl);have⟨q0,q1,q2,q3,q4,q5⟩:=gI gy.o;unfold nH at p0 p1 p2 p3 p4 p5 p6 p7 q0 q1 q2 q3 q4 q5;go_wp2_with fail;refine dx (H1.o _) λw2 hb=> ?_;have gz:Hd (ed w2 w1 (nH b1 b2 b3 b4 b5 b6)):=(hb.block _ (ab.1 gy.o).1).trans gy.o;have bZ:=aV (cu.o.aT hb);clear hb p0 p1 p2 p3 p4 p5 p6 p7 q0 q1 q2 q3 q4 q5;have⟨p0,p1,p2,p3,p4,p5,p6,p7⟩:=bz (bZ.o.cP rfl);have⟨q0,q1,q2,q3,q4,q5⟩:=gI gz.o;go_wp2_with fail;refine dx (H2.o _) λw3 hb=> ?_;have mn:Hd (ed w3 w1 (nH b1 b2 b3 b4 b5 b6)):=(hb.block _ (ab.1 gz.o).1).trans gz.o;have cR:=aV (bZ.o.aT hb);clear hb p0 p1 p2 p3 p4 p5 p6 p7 q0 q1 q2 q3 q4 q5;have⟨p0,p1,p2,p3,p4,p5,p6,p7⟩:=bz (cR.o.cP rfl);have⟨q0,q1,q2,q3,q4,q5⟩:=gI mn.o;go_wp2_with fail;refine dx (H3.o _) λw4 hb=> ?_;have nX:Hd (ed w4 w1 (nH b1 b2 b3 b4 b5 b6)):=(hb.block _ (ab.1 mn.o).1).trans mn.o;have fh:=aV (cR.o.aT hb);clear hb p0 p1 p2 p3 p4 p5 p6 p7 q0 q1 q2 q3 q4 q5;have⟨p0,p1,p2,p3,p4,p5,p6,p7⟩:=bz (fh.o.cP rfl);have⟨q0,q1,q2,q3,q4,q5⟩:=gI nX.o;have H00:Hd (b4=false->tk=0/\tf=0):=H0.o;go_upto_region 4 with fail;cases b4
 .obtain⟨rfl,rfl⟩:=H00.o rfl;have H4D:=aV (H4.o w4.drew);go_region_law(first
   |(go_simp;go_at_call 195;refine dx (H4D.o) λw5 hb=> ?_;have od:Hd (ed w5 w1 (nH b1 b2 b3 false b5 b6)):=(hb.block _ (ab.1 nX.o).1).trans nX.o;have jF:=aV (fh.o.drew.aT hb);clear hb;have p4:=(bz (jF.o.cP rfl)).2.2.2.2.1;have p5:=(bz (jF.o.cP rfl)).2.2.2.2.2.1;have p6:=(bz (jF.o.cP rfl)).2.2.2.2.2.2.1;have p7:=(bz (jF.o.cP rfl)).2.2.2.2.2.2.2;have q3:=(gI od.o).2.2.2.1;have q4:=(gI od.o).2.2.2.2.1;have q5:=(gI od.o).2.2.2.2.2));all_goals
   go_wp2_with fail;refine dx (H5.o _ jF.o.1) λw6 hb=> ?_;have Db:Hd (ed w6 w1 (nH b1 b2 b3 false b5 b6)):=(hb.block _ (ab.1 od.o).1).trans od.o;have ph:=aV (jF.o.aT hb);clear hb p4 p5 p6 p7 q3 q4 q5;have⟨p0,p1,p2,p3,p4,p5,p6,p7⟩:=bz (ph.o.cP rfl);have⟨q0,q1,q2,q3,q4,q5⟩:=gI Db.o;go_wp2_with fail;refine dx (H6.o _ ph.o.1) λw7 hb=> ?_;have og:=aV (ph.o.aT hb);clear hb;go_wp2;go_ret;exact⟨rfl,og.o.1⟩
 go_cut [53](λs53 wx=>s53=xB false/\Hd (Bx w [tQ ⟨k,f,n,m,⟨tk,tf⟩,e,o⟩] wx/\ed wx w1 (nH b1 b2 b3 true b5 b6)))
 .first
   |(go_region_law(first
      |(go_simp;go_at_call 195;refine dx (H4.o _) λw5 hb=> ?_;have od:Hd (ed w5 w1 (nH b1 b2 b3 true b5 b6)):=(hb.block _ (ab.1 nX.o).1).trans nX.o;have jF:=aV (fh.o.drew.aT hb);have p4:=(bz (jF.o.cP rfl)).2.2.2.2.1;have p5:=(bz (jF.o.cP rfl)).2.2.2.2.2.1;have q3:=(gI od.o).2.2.2.1;clear hb)))
   |fail
  all_goals(go_wp2;go_meet)
  all_goals exact⟨rfl,(show _/\_ from⟨jF.o,od.o⟩)⟩
 obtain⟨rfl,HR⟩:=hcut;have⟨w5,hw5⟩:=dd (wc);subst hw5;have jF:Hd (Bx w [tQ ⟨k,f,n,m,⟨tk,tf⟩,e,o⟩] w5):=HR.o.1;have od:Hd (ed w5 w1 (nH b1 b2 b3 true b5 b6)):=HR.o.2;clear HR p0 p1 p2 p3 p4 p5 p6 p7 q0 q1 q2 q3 q4 q5;have⟨p0,p1,p2,p3,p4,p5,p6,p7⟩:=bz (jF.o.cP rfl);have⟨q0,q1,q2,q3,q4,q5⟩:=gI od.o;go_wp2_with fail;refine dx (H5.o _ jF.o.1) λw6 hb=> ?_;have Db:Hd (ed w6 w1 (nH b1 b2 b3 true b5 b6)):=(hb.block _ (ab.1 od.o).1).trans od.o;have ph:=aV (jF.o.aT hb);clear hb p0 p1 p2 p3 p4 p5 p6 p7 q0 q1 q2 q3 q4 q5;have⟨p0,p1,p2,p3,p4,p5,p6,p7⟩:=bz (ph.o.cP rfl);have⟨q0,q1,q2,q3,q4,q5⟩:=gI Db.o;go_wp2_with fail;refine dx (H6.o _ ph.o.1) λw7 hb=> ?_;have og:=aV (ph.o.aT hb);clear hb;go_wp2;go_ret;exact⟨rfl,og.o.1⟩
def zK(x:bK)(h:Zn x)(w:bq)(hT:Tb w):
 xC 125 #[.agg #[x.bg,x.field,x.aX,x.more,x.type.bg,x.type.of,x.dO,x.cW]] w (di true w):=by
 have hk:x.bg=1\/x.bg=2\/x.bg=3\/x.bg=4\/x.bg=5\/x.bg=6:=by have:=h.sh;simp only[ow]at this;omega
 have hF:∀(s:bS),(s=⟨#[]⟩\/∃e,fj s.data.toList=some e)->∀W,bC w W->xC 198 #[xS s,true] W (di true W):=λs hs W hb=>by
  rcases hs with rfl|⟨e,he⟩
  .exact eJ true W
  exact Ci s e he W (hT.aT hb)
 have hR:=λW=>rh x.type W;have hsh:=h.sh;obtain⟨k,f,n,m,⟨tk,tf⟩,e,o⟩:=x;have hfd:=h.field;have hnm:=h.aX;have hmr:=h.more;have Gp:=h.type;have s1:=h.s1;have s2:=h.s2;have s3:=h.s3;have hex:=h.dO;have hot:=h.cW;dsimp only at*;have t0:bO ⟨0,0⟩=false:=by decide
 simp only[ow,cq.mk.injEq]at hsh;rcases hsh with⟨rfl,rfl,rfl,rfl⟩|⟨rfl,rfl,rfl,⟨rfl,rfl⟩,rfl,rfl⟩|⟨rfl,rfl,⟨rfl,rfl⟩,rfl,rfl⟩|⟨rfl,rfl,rfl,rfl⟩|rfl|⟨rfl,rfl,rfl,⟨rfl,rfl⟩,rfl,rfl⟩
 .exact AQ _ _ _ _ _ _ _ _ false true false true true false w (lN 1 (by simp)) jV (iP _ (hnm (by simp)) s2) jV (by rw[Gp (by simp)]at hR;exact hR) (hF _ hex) (λW _=>eJ _ W) (by simp)
 .exact AQ _ _ _ _ _ _ _ _ true false false false false false w (lN 2 (by simp)) (iP _ (hfd (by simp)) s1) jV jV (by rw[t0]at hR;exact hR) (λW _=>eJ _ W) (λW _=>eJ _ W) (by simp)
 .exact AQ _ _ _ _ _ _ _ _ true true false false false false w (lN 3 (by simp)) (iP _ (hfd (by simp)) s1) (iP _ (hnm (by simp)) s2) jV (by rw[t0]at hR;exact hR) (λW _=>eJ _ W) (λW _=>eJ _ W) (by simp)
 .exact AQ _ _ _ _ _ _ _ _ true false false true true false w (lN 4 (by simp)) (iP _ (hfd (by simp)) s1) jV jV (by rw[Gp (by simp)]at hR;exact hR) (hF _ hex) (λW _=>eJ _ W) (by simp)
 .exact AQ _ _ _ _ _ _ _ _ true true true true true true w (lN 5 (by simp)) (iP _ (hfd (by simp)) s1) (iP _ (hnm (by simp)) s2) (iP _ (hmr (by simp)) s3) (by rw[Gp (by simp)]at hR;exact hR) (hF _ hex) (hF _ hot) (by simp)
 exact AQ _ _ _ _ _ _ _ _ true false false false false false w (lN 6 (by simp)) (iP _ (hfd (by simp)) s1) jV jV (by rw[t0]at hR;exact hR) (λW _=>eJ _ W) (λW _=>eJ _ W) (by simp)
def atA(h:cX w i o)(x:Obj):(w.alloc x).heap[i]? =some o:=(Array.getElem?_push_lt (ab.1 h).1).trans ((Array.getElem?_eq_getElem _).symm.trans h)
def jW(M:bY)(c:bI)(br:Int)(t:cq)(s:bS)(w:bq)(v:bt):Prop:=
 ∃gf lb,v= .func (.func gf) #[] lb/\(∀args w,(callFunc gf args).run prog w= .ok (.enter gf args) w)/\
  (bO t=true->∀N:bY,(∀i,M i->N i)->(∀i,N i->M i\/w.heap.size<=i)->∀W,bh N w W->∀vv vs,aS N W vv vs->cD c.aW br vs->Bd N W->Gd W->xC gf (#[vv]++lb) W (de W λu w'=>∃x,mJ c t br s vs x/\dq N w' u x))
def bh.down(h:bh N w W)(k:∀i,N i->M i\/w.heap.size<=i):bh M w W:=⟨h.os,h.tape,h.output,h.size,λi hi hM=>h.block i hi λhN=>(k i hN).elim hM (by omega)⟩
def Io(h:Below B w W)(hK:B<=K)(hB:B<=W):Below B w (((((W.setCell (K,0) a0).setCell (K,1) a1).setCell (K,2) a2).setCell (K,3) a3).alloc o):=by
 exact(dS h hK).alloc (by simpa [World.setCell]using hB) o
def jW.only {t:cq}(h:jW M c br t s w v)(ho:bh M w w'):jW M c br t s w' v:=by
 obtain⟨gf,lb,h1,h2,h3⟩:=h;exact⟨gf,lb,h1,h2,λht N Ro NV W hW=>h3 ht N Ro (λi hi=>(NV i hi).imp_right λh=>aH ho.size h) W ((ho.mono Ro).trans hW)⟩
def Ip(t:cq)(ht:bO t=true)(M:bY)(W:bq)(vv:bt)(hM:Bd M W)(p:Nat)(hp:cX W p (Ga t.bg t.of)):
 xG 315 #[vv,xP p] W λu w'=>dq M w' u (lq t):=by
 have iJ:p<W:=(ab.1 hp).1;have hne:p≠W:=by omega
 have⟨p0,p1⟩:=aZ hp;obtain⟨⟨yk,yn,ys,yl⟩,hz⟩:∃z,z=lq t:=⟨_,rfl⟩;have HZ:Hd (∀w,xC 316 #[.agg #[t.bg,t.of]] w (de w λv w'=>dq (eo M W 1) w' v (bE.mk yk yn ys yl))):=λw=>by rw[hz];exact OJ t ht (eo M W 1) w
 rw[<-hz];have dp:=aV (Bx.fm W (fT 0 0 () ()));delta xG;go_in;go_wp2_with fail;refine(HZ.o _).mono ?_;rintro e w1⟨_,rfl,hya,hb1⟩;obtain⟨ua,uc,rfl,Gr⟩:=ec hya;have HY:=aV Gr;have HY2:Hd (ys.size<=maxLen):=sZ hya;have cu:=aV (dp.o.aT hb1);have⟨c0,c1,c2,c3⟩:=aU (cu.o.cP rfl);have⟨f0,f1,f2,f3⟩:=iS (cu.o.cP rfl);go_wp2_with fail;refine ah (v:= .agg #[yk,yn,ys,xL ua yl.length uc]) (by simp[results,results315,go_sem,c0,c1,c2,c3]) rfl ⟨_,rfl,⟨_,rfl,lE (HY.o.ev ?_) HY2.o⟩,dS cu.o.1 cN⟩;exact((((fx w1).setCell (.inl (.inr ⟨by simp,by simp⟩)) _).setCell (.inl (.inr ⟨by simp,by simp⟩)) _).setCell (.inl (.inr ⟨by simp,by simp⟩)) _).setCell (.inl (.inr ⟨by simp,by simp⟩)) _
def Iq(c:bI)(hc:dE c)(br:Int)(hm:br<=100000)(e:bG)(t:cq)(hx:XOk e)(ht:my c e t)(M:bY)(W:bq)(vv fv:bt)(vs:List bE)(hM:Bd M W)(hfs:aS M W fv c.aW)(hvs:aS M W vv vs)(hv:cD c.aW br vs)(hg:Gd W)
 (p q:Nat)(k n:Int)(s:bS)(l:List bG)(lv:bt)(he:e= .mk k n s l)(hl:aS M W lv l)(hs:s.size<=maxLen)(hp:cX W p (Ep k n s lv))(hq:cX W q (dP c.aX fv)):
 xG 318 #[vv,xP p,xP q] W λu w'=>∃x,oF c t br e vs x/\dq M w' u x:=by
 have iJ:p<W:=(ab.1 hp).1;have hql:q<W:=(ab.1 hq).1;have hne:p≠W:=by omega
 have ZW:q≠W:=by omega
 have⟨p0,p1,p2,p3⟩:=aU hp;have⟨q0,q1⟩:=aZ hq;have hag:dq M W (.agg #[k,n,s,lv]) e:=⟨_,rfl,by rw[he];exact dF.iff.2 ⟨_,rfl,hl,hs⟩⟩;have HE:Hd (∀w,bC W w->W.heap.size+1<=w->_):=λw hb h1=>Pv c hc br hm e t hx ht (eo M W 1) w _ fv vv vs (dZ hM h1) (hag.ev (dH hb)) (hfs.ev (dH hb)) (hvs.ev (dH hb)) hv (hg.aT hb);have dp:=aV (Bx.fm W (fT 0 0 () ()));obtain⟨la,lc,rfl,_⟩:=hl.bj;obtain⟨fa,fc,rfl,_⟩:=hfs.bj;obtain⟨va,vc,rfl,_⟩:=hvs.bj;delta xG;go_in;go_wp2_with fail;refine(HE.o _ cU (by simp)).mono ?_;rintro e1 w1⟨_,rfl,⟨_,⟨yk,yn,ys,yl⟩,rfl,YC,hya⟩,hb1⟩;obtain⟨ua,uc,rfl,Gr⟩:=ec hya;have HY:=aV Gr;have BF:=aV YC;have HY2:Hd (ys.size<=maxLen):=sZ hya;have cu:=aV (dp.o.aT hb1);have hl1:W.heap.size<w1:=(ab.1 (cu.o.cP rfl)).1;have⟨c0,c1,c2,c3⟩:=aU (cu.o.cP rfl);have⟨f0,f1,f2,f3⟩:=iS (cu.o.cP rfl);go_wp2_with fail;refine ah (v:= .agg #[yk,yn,ys,xL ua yl.length uc]) (by simp[results,results318,go_sem,c0,c1,c2,c3,hl1]) rfl ⟨_,rfl,⟨_,BF.o,⟨_,rfl,lE (HY.o.ev ?_) HY2.o⟩⟩,Io cu.o.1 cN (by omega)⟩;exact(((((fx w1).setCell (.inl (.inr ⟨by simp,by simp⟩)) _).setCell (.inl (.inr ⟨by simp,by simp⟩)) _).setCell (.inl (.inr ⟨by simp,by simp⟩)) _).setCell (.inl (.inr ⟨by simp,by simp⟩)) _).alloc _
def AR(c:bI)(hc:dE c)(br:Int)(hm:br<=100000)(t:cq)(s:bS)(ht:pL c t s)(M:bY)(w:bq)(fv:bt)(hM:Bd M w)(hfs:aS M w fv c.aW)(hT:Tb w):
 xG 284 #[.agg #[c.aX,fv],s, .agg #[t.bg,t.of]] w λv w'=>jW M c br t s w' v:=by
 have BC:∀(fn:Fn)(bu cap:Array bt)(w:bq),(Instr.makeFunc fn bu cap).run prog w= .ok (.func fn bu cap) w:=λ_ _ _ _=>rfl;have jL:=aV hfs;have HM:=aV hM;rcases ht with hs|⟨x,hx⟩
 .obtain rfl:=gD hs;obtain⟨fa,fc,rfl,_⟩:=hfs.bj;have dp:=aV (Bx.ei w (dP c.aX (xL fa c.aW.length fc)) (Ga t.bg t.of));go_enter func284,ntmps284;go_wp2;go_ret;refine⟨_,rfl,⟨315,#[xP [w]],rfl,enters_of func315 (by kernel_rfl) rfl,λGp N Ro NV W hW vv vs hvv hvs hMW hgW=> ?_⟩,dp.o.1⟩;have hp:=hW.at_ (dp.o.cZ rfl) (λh=>by
   have hl:=(ab.1 (dp.o.cZ rfl)).1;rcases NV _ h with h|h
   .have:=HM.o _ h;omega
   exact absurd h (by simp));refine(Ip t Gp N W vv hMW [w] hp).mono ?_;rintro e w1⟨u,rfl,hu,hb⟩;exact⟨u,rfl,⟨_,OE rfl Gp,hu⟩,hb⟩
 have hz:=vo hx.parse;have HPT:=aV hx;have⟨T,h1,h2,h3,h4,h5,h6,h7⟩:=Pw hx.parse;have HP:Hd (∀W,bC w W->xC 267 #[s] W (de W (Pm W x))):=λW hb=>AP s x HPT.o.parse W (hT.aT hb);have WY:Hd (∀W v,bC w W->dq M W v x->xC 317 #[v, .agg #[c.aX,fv]] W λε w'=>ε=xR (.tuple #[.agg #[t.bg,t.of],xI 0])/\bC W w'):=λW v hb ha=>Ew c hc x t h7 HPT.o.ty M W v fv (HM.o.aT hb) ha (jL.o.aT hb) (hT.aT hb);have Nx:=aV h7;obtain⟨fa,fc,rfl,_⟩:=hfs.bj;have dp:=aV (Bx.ei w (dP c.aX (xL fa c.aW.length fc)) (Ga t.bg t.of));obtain⟨xk,xn,xs,xl⟩:=x;go_enter func284,ntmps284;go_wp2_with fail;refine(HP.o _ dp.o.1).mono ?_;rintro e w1⟨_,rfl,⟨u,rfl,hag⟩,hb1⟩;obtain⟨cs,rfl,hrep⟩:=hag;obtain⟨av,rfl,hsl,hss⟩:=dF.iff.1 hrep;obtain⟨xa,xc,rfl,_⟩:=hsl.bj;have cu:=aV (dp.o.aT hb1);have gS:Hd (aS M w1 (xL xa xl.length xc) xl):=hsl.ev (Ev.eO w1 λi hi=>by
  have h1:=HM.o _ hi;show i<_;simp;omega);have tU:Hd (dq M w1 (.agg #[xk,xn,xs,xL xa xl.length xc]) (bG.mk xk xn xs xl)):=⟨_,rfl,dF.iff.2 ⟨_,rfl,gS.o,hss⟩⟩;have uP:w.heap.size<w1:=(ab.1 (cu.o.cP rfl)).1;have hl1:w.heap.size+1<w1:=(ab.1 (cu.o.cZ rfl)).1;have⟨a0,a1⟩:=aZ (cu.o.cP rfl);go_wp2_with fail;refine dx (WY.o _ _ (cu.o.1.alloc cu.o.1.size _) (tU.o.ev ((Ev.refl _ _).alloc _))) λw2 cJ=> ?_;have gz:=aV (boxed cJ);have bZ:=aV (cu.o.aT (ct cJ));have Rp:=aV (gS.o.aT (ct cJ));have qd6:=aV (jL.o.aT bZ.o.1);have⟨b0,b1⟩:=aZ (bZ.o.cZ rfl);have hl2:w.heap.size+1<w2:=(ab.1 (bZ.o.cZ rfl)).1;go_wp2;go_ret;refine⟨_,rfl,⟨318,#[xP w1,xP w.heap.size],rfl,enters_of func318 (by kernel_rfl) rfl,λGp N Ro NV W hW vv vs hvv hvs hMW hgW=> ?_⟩,(bZ.o.alloc _).1⟩;have hx1:=(ab.1 gz.o).1;have hN3:∀i,N i->M i\/w2.heap.size+1<=i:=λi hi=>by simpa using NV i hi
 have hp:=hW.at_ (atA gz.o _) (λh=>by
  rcases hN3 _ h with h|h
  .have:=HM.o _ h;omega
  omega);have hq:=hW.at_ (atA (bZ.o.cP rfl) _) (λh=>by
  rcases hN3 _ h with h|h
  .have:=HM.o _ h;omega
  omega);have hWM:=hW.down NV;have Ny:∀i,N i->M i\/w2.heap.size<=i:=λi hi=>(hN3 i hi).imp_right λh=>by omega
 refine(Iq c hc br hm _ t Nx.o HPT.o.ty N W vv _ vs hMW (qd6.o.ev ⟨((bh.refl _ _).alloc _).trans hWM,Ny⟩) hvv hvs hgW _ _ _ _ _ _ _ rfl (Rp.o.ev ⟨((bh.refl _ _).alloc _).trans hWM,Ny⟩) ?_ hp hq).mono ?_
 .exact hss
 rintro e w3⟨u,rfl,⟨x,hx,hu⟩,hb⟩;exact⟨u,rfl,⟨x,Lt HPT.o.parse HPT.o.ty hx,hu⟩,hb⟩
end
section
open Go.RowKit Go.Shelf
def vp {α:Type}(ls:List (List α))(i:Nat):(ls.take i).flatten.length<=ls.flatten.length:=by
 conv=>rhs;rw[<-List.take_append_drop i ls,List.flatten_append,aJ]
 omega
def iQ {α:Type}{ls:List (List α)}{l:List α}(h:ls[i]? =some l):(ls.take (i+1)).flatten=(ls.take i).flatten++l:=by
 rw[ao,h];simp
def tg {α:Type} [bD α]{xs:List α}(h:bP M base e W v xs)(hbs:base=w)(hb:bC w W):Ev M w (cz v M) W:=
 ⟨bh.bA hb,λi hi=>by
   rcases hi with hi|hi
   .exact .inl hi
   exact .inr (by rw[<-hbs];exact(h.dC i hi).1)⟩
def uC {α:Type} [bD α](M:bY)(w:bq)(b:Nat)(rows:List bt)(ls:List (List α)):Prop:=
 rows.length=ls.length/\b<w/\(∀i v,rows[i]? =some v->w.cell? ⟨b,i,none⟩=some v)/\∀(i:Nat)(v:bt)(l:List α),rows[i]? =some v->ls[i]? =some l->aS M w v l
def uC.get {α:Type} [bD α]{rows:List Value}{ls:List (List α)}(h:uC M w b rows ls)(hi:i<ls.length):
 ∃a c,∃l:List α,ls[i]? =some l/\aS M w (xL a l.length c) l/\∀W,bC w W->W.cell? (b,i)=some (xL a l.length c):=by
 obtain⟨h1,h2,h3,h4⟩:=h;have⟨l,hl⟩:=fg ls i hi;have⟨v,hv⟩:=fg rows i (by omega);have hs:=h4 i v l hv hl;obtain⟨a,c,rfl,_⟩:=hs.bj;refine⟨a,c,l,hl,hs,λW hb=> ?_⟩;rw[hb.cell h2];exact h3 i _ hv
def jX:Go.Shelf.Ren:=⟨λ|4=>408|n=>n,λ|22=>51|25=>78|3=>3|4=>4|9=>9|20=>20|0=>0|n=>n,λ|n=>n⟩
def rC:Go.Proofs.Lays8.n4 prog jX:={
 mixed:=by kernel_rfl
 f4:=⟨Tryz.f408.name,by decide,Tryz.func408.trans (by kernel_rfl)⟩
 t0:=underlying0
 a0:=isAgg0
 z0:=sizeOf0
 v0:=zeroValue0
 t3:=underlying3
 a3:=isAgg3
 z3:=sizeOf3
 v3:=zeroValue3
 t4:=underlying4
 a4:=isAgg4
 z4:=sizeOf4
 v4:=zeroValue4
 t9:=underlying9
 a9:=isAgg9
 z9:=sizeOf9
 v9:=zeroValue9
 t20:=underlying20
 a20:=isAgg20
 z20:=sizeOf20
 v20:=zeroValue20
 t22:=underlying51
 a22:=isAgg51
 z22:=sizeOf51
 v22:=zeroValue51}
def Ir:jX.f 4=408:=by kernel_rfl
def yA:jX.t 25=78:=by kernel_rfl
def Cj(M:bY)(n:Nat)(hn:n<=1000)(w:bq):xG 408 #[(),n] w λv w'=>bP (α:=bJ) M w 78 w' v []:=by
 have⟨i0,hi0,hz0,hz1,hz2⟩:=info_parts jx;rw[<-Ir];by_cases h0:n=0
 .subst h0;refine(Any8.slices_Grow_room rC none 0 0 0 w cN (by decide) (by decide) cN).mono ?_;rintro e w1⟨rfl,rfl⟩;exact⟨_,rfl,bP.nil _ _ _ _,eH⟩
 refine(Any8.slices_Grow_grow rC i0 _ (by rw[yA];exact hi0) hz0 (by rw[hz1];decide) none 0 0 n [] w cN (by omega) (by rw[hz2];omega) (by omega) (by simp) (λ_=>rfl) (λa h=>by cases h)).mono ?_;rintro e w1⟨rfl,rfl⟩;rw[yA];refine⟨_,rfl,bP.made (w:=w.drew) M _ _ cN (grownCap_le_maxLen w _ _ _ (by unfold maxLen;omega)) ?_,eH.drew.alloc cN _⟩;have hge:=grownCap_ge w (0+n) 0 78;simp only[Array.size_append,size_zeroCells];show 0+(0+n-0)*4+(grownCap w (0+n) 0 78-(0+n))*4=grownCap w (0+n) 0 78*4;omega
def pX(M:bY)(w:bq)(hM:Bd M w)(b n:Nat)(rows:List bt)(ls:List (List bJ))(h:uC M w b rows ls)(hn:ls.length=n)(hl:ls.flatten.length<=40)(h3:n<=3):
 xG 367 #[xL (b,0) n n] w λv w'=>aS M w' v ls.flatten:=by
 have⟨i0,hi0,hz0,hz1,hz2⟩:=info_parts jx;have HG:=aV (Cj M ls.flatten.length (by omega) w);have HR:=aV h;have hbl:b<w:=h.2.1;have Gs:=aV (λi=>vp ls i);have fB:=aV hn;clear hn;clear h;delta xG;go_in;go_wp2_with fail;obtain⟨LL,Xg⟩:∃L,L=ls.flatten.length:=⟨_,rfl⟩;rw[<-Xg]at hl HG;have JC:=aV Xg;clear Xg;go_loopg [3,5,11]n(λg r3 r5 iv wr=>∃i L:Nat,i<=n/\g=n-i/\iv=xI i/\r3=xI (L:Int)/\Hd (L=(ls.take i).flatten.length)/\w=wr);exact⟨0,0,ax _,rfl,rfl,rfl,(show _=_ by simp),rfl⟩;obtain⟨i,L,hi,rfl,rfl,rfl,HL,rfl⟩:=hrel;by_cases cE:i<n
 .have⟨a,c,l,hx,hsl,hcell⟩:=HR.o.get (i:=i) (by rw[fB.o];exact cE);have q0:=hcell w eH;have⟨m,hm⟩:=dd (l.length);have hk:L+m=(ls.take (i+1)).flatten.length:=by rw[iQ hx,aJ,<-HL.o,hm]
  have hk1:L+m<=40:=by have:=Gs.o (i+1);have:=JC.o;omega
  have HK:=aV hk;rw[<-hm]at q0;clear hx hsl hcell hk hm;go_wp2;go_roundg(n-(i+1));exact⟨i+1,L+m,by omega,rfl,by go_num,by go_num,HK,rfl⟩;omega
 have hii:i=n:=by omega
 subst hii;obtain rfl:L=LL:=by rw[HL.o,JC.o,ak (by rw[fB.o];exact cN)]
 go_wp2_with fail;refine(HG.o).mono ?_;rintro e w1⟨_,rfl,hacc,hb1⟩;obtain⟨a0,c0,rfl,_⟩:=hacc.bj;have YD:=aV hacc;have ik:=aV hb1;clear hacc hb1;go_wp2;go_loopg [6,8,27]i(λg r6 r8 iv wr2=>∃(k c1 K:Nat)(a1:fM),k<=i/\g=i-k/\iv=xI k/\r6=xL a1 K c1/\Hd (K=(ls.take k).flatten.length)/\Hd (bP M w 78 wr2 (xL a1 K c1) (ls.take k).flatten)/\Hd (bC w wr2));exact⟨0,c0,0,a0,ax _,rfl,rfl,rfl,(show _=_ by simp),YD,ik⟩;obtain⟨k,c1,K,a1,hk,rfl,rfl,rfl,HK,HA,HB⟩:=hrel;by_cases Rl:k<i
 .have⟨a,c,l,hx,hsl,hcell⟩:=HR.o.get (i:=k) (by rw[fB.o];exact Rl);have⟨m,hm⟩:=dd (l.length);have hk2:K+m=(ls.take (k+1)).flatten.length:=by rw[iQ hx,aJ,<-HK.o,hm]
  have hk1:K+m<=40:=by have:=Gs.o (k+1);have:=JC.o;omega
  have oQ:=aV (iQ hx);have q0:=hcell _ HB.o;have gS:=aV hsl;have nh:=aV hk2;have zW:=aV hm;rw[<-hm]at q0;clear hx hsl hcell hk2 hm;have Xh:Hd ((ls.take k).flatten.length=K):=HK.o.symm;have vM:Hd (l.length=m):=zW.o.symm;go_wp2_with(at_builtin;go_loud(refine dM (α:=bJ) rfl _ _ _ rfl M w 78 i0 _ 40 underlying51 hi0 hz0 hz1 hz2 rfl (by decide) (.slice a1 K c1) (ls.take k).flatten rfl HA.o (.slice a m c) l rfl (by rw[zW.o];exact gS.o.ev (tg HA.o rfl HB.o)) (by rw[Xh.o,vM.o];unfold maxLen;omega) (by rw[Xh.o,vM.o];omega) HB.o.size ?_);rw[Xh.o,vM.o,<-oQ.o];intro a2 c2 w2 cF eD cJ;have dR:=aV cF;have cR:=aV (HB.o.trans cJ);clear cF eD cJ);go_roundg(i-(k+1));exact⟨k+1,c2,K+m,a2,by omega,rfl,by go_num,rfl,nh,dR,cR⟩;omega
 go_wp2;go_ret;refine⟨_,rfl,?_,HB.o⟩;have h1:=HA.o.slice hM;rwa [ak (by rw[fB.o];omega)]at h1
def lg:Go.Shelf.Ren:=⟨λ|4=>409|n=>n,λ|22=>39|25=>50|3=>3|4=>4|9=>9|20=>20|0=>0|n=>n,λ|n=>n⟩
def vq:Go.Proofs.Lays8.n4 prog lg:={
 mixed:=by kernel_rfl
 f4:=⟨Tryz.f409.name,by decide,Tryz.func409.trans (by kernel_rfl)⟩
 t0:=underlying0
 a0:=isAgg0
 z0:=sizeOf0
 v0:=zeroValue0
 t3:=underlying3
 a3:=isAgg3
 z3:=sizeOf3
 v3:=zeroValue3
 t4:=underlying4
 a4:=isAgg4
 z4:=sizeOf4
 v4:=zeroValue4
 t9:=underlying9
 a9:=isAgg9
 z9:=sizeOf9
 v9:=zeroValue9
 t20:=underlying20
 a20:=isAgg20
 z20:=sizeOf20
 v20:=zeroValue20
 t22:=underlying39
 a22:=isAgg39
 z22:=sizeOf39
 v22:=zeroValue39}
def Px:lg.f 4=409:=by kernel_rfl
def Ex:lg.t 25=50:=by kernel_rfl
def Is(M:bY)(n:Nat)(hn:n<=1000)(w:bq):xG 409 #[(),n] w λv w'=>bP (α:=bE) M w 50 w' v []:=by
 have⟨i0,hi0,hz0,hz1,hz2⟩:=info_parts iD;rw[<-Px];by_cases h0:n=0
 .subst h0;refine(Any8.slices_Grow_room vq none 0 0 0 w cN (by decide) (by decide) cN).mono ?_;rintro e w1⟨rfl,rfl⟩;exact⟨_,rfl,bP.nil _ _ _ _,eH⟩
 refine(Any8.slices_Grow_grow vq i0 _ (by rw[Ex];exact hi0) hz0 (by rw[hz1];decide) none 0 0 n [] w cN (by omega) (by rw[hz2];omega) (by omega) (by simp) (λ_=>rfl) (λa h=>by cases h)).mono ?_;rintro e w1⟨rfl,rfl⟩;rw[Ex];refine⟨_,rfl,bP.made (w:=w.drew) M _ _ cN (grownCap_le_maxLen w _ _ _ (by unfold maxLen;omega)) ?_,eH.drew.alloc cN _⟩;have hge:=grownCap_ge w (0+n) 0 50;simp only[Array.size_append,size_zeroCells];show 0+(0+n-0)*4+(grownCap w (0+n) 0 50-(0+n))*4=grownCap w (0+n) 0 50*4;omega
def th(M:bY)(w:bq)(hM:Bd M w)(b n:Nat)(rows:List bt)(ls:List (List bE))(h:uC M w b rows ls)(hn:ls.length=n)(hl:ls.flatten.length<=40)(h3:n<=3):
 xG 368 #[xL (b,0) n n] w λv w'=>aS M w' v ls.flatten:=by
 have⟨i0,hi0,hz0,hz1,hz2⟩:=info_parts iD;have HG:=aV (Is M ls.flatten.length (by omega) w);have HR:=aV h;have hbl:b<w:=h.2.1;have Gs:=aV (λi=>vp ls i);have fB:=aV hn;clear hn;clear h;delta xG;go_in;go_wp2_with fail;obtain⟨LL,Xg⟩:∃L,L=ls.flatten.length:=⟨_,rfl⟩;rw[<-Xg]at hl HG;have JC:=aV Xg;clear Xg;go_loopg [3,5,11]n(λg r3 r5 iv wr=>∃i L:Nat,i<=n/\g=n-i/\iv=xI i/\r3=xI (L:Int)/\Hd (L=(ls.take i).flatten.length)/\w=wr);exact⟨0,0,ax _,rfl,rfl,rfl,(show _=_ by simp),rfl⟩;obtain⟨i,L,hi,rfl,rfl,rfl,HL,rfl⟩:=hrel;by_cases cE:i<n
 .have⟨a,c,l,hx,hsl,hcell⟩:=HR.o.get (i:=i) (by rw[fB.o];exact cE);have q0:=hcell w eH;have⟨m,hm⟩:=dd (l.length);have hk:L+m=(ls.take (i+1)).flatten.length:=by rw[iQ hx,aJ,<-HL.o,hm]
  have hk1:L+m<=40:=by have:=Gs.o (i+1);have:=JC.o;omega
  have HK:=aV hk;rw[<-hm]at q0;clear hx hsl hcell hk hm;go_wp2;go_roundg(n-(i+1));exact⟨i+1,L+m,by omega,rfl,by go_num,by go_num,HK,rfl⟩;omega
 have hii:i=n:=by omega
 subst hii;obtain rfl:L=LL:=by rw[HL.o,JC.o,ak (by rw[fB.o];exact cN)]
 go_wp2_with fail;refine(HG.o).mono ?_;rintro e w1⟨_,rfl,hacc,hb1⟩;obtain⟨a0,c0,rfl,_⟩:=hacc.bj;have YD:=aV hacc;have ik:=aV hb1;clear hacc hb1;go_wp2;go_loopg [6,8,27]i(λg r6 r8 iv wr2=>∃(k c1 K:Nat)(a1:fM),k<=i/\g=i-k/\iv=xI k/\r6=xL a1 K c1/\Hd (K=(ls.take k).flatten.length)/\Hd (bP M w 50 wr2 (xL a1 K c1) (ls.take k).flatten)/\Hd (bC w wr2));exact⟨0,c0,0,a0,ax _,rfl,rfl,rfl,(show _=_ by simp),YD,ik⟩;obtain⟨k,c1,K,a1,hk,rfl,rfl,rfl,HK,HA,HB⟩:=hrel;by_cases Rl:k<i
 .have⟨a,c,l,hx,hsl,hcell⟩:=HR.o.get (i:=k) (by rw[fB.o];exact Rl);have⟨m,hm⟩:=dd (l.length);have hk2:K+m=(ls.take (k+1)).flatten.length:=by rw[iQ hx,aJ,<-HK.o,hm]
  have hk1:K+m<=40:=by have:=Gs.o (k+1);have:=JC.o;omega
  have oQ:=aV (iQ hx);have q0:=hcell _ HB.o;have gS:=aV hsl;have nh:=aV hk2;have zW:=aV hm;rw[<-hm]at q0;clear hx hsl hcell hk2 hm;have Xh:Hd ((ls.take k).flatten.length=K):=HK.o.symm;have vM:Hd (l.length=m):=zW.o.symm;go_wp2_with(at_builtin;go_loud(refine dM (α:=bE) rfl _ _ _ rfl M w 50 i0 _ 56 underlying39 hi0 hz0 hz1 hz2 rfl (by decide) (.slice a1 K c1) (ls.take k).flatten rfl HA.o (.slice a m c) l rfl (by rw[zW.o];exact gS.o.ev (tg HA.o rfl HB.o)) (by rw[Xh.o,vM.o];unfold maxLen;omega) (by rw[Xh.o,vM.o];omega) HB.o.size ?_);rw[Xh.o,vM.o,<-oQ.o];intro a2 c2 w2 cF eD cJ;have dR:=aV cF;have cR:=aV (HB.o.trans cJ);clear cF eD cJ);go_roundg(i-(k+1));exact⟨k+1,c2,K+m,a2,by omega,rfl,by go_num,rfl,nh,dR,cR⟩;omega
 go_wp2;go_ret;refine⟨_,rfl,?_,HB.o⟩;have h1:=HA.o.slice hM;rwa [ak (by rw[fB.o];omega)]at h1
def zL {fr:Nat×Nat}(u:bt)(h:cX w g (.cells cur t fr)):(w.setCell (g,j) u).heap[g]? =some (.cells (cur.setIfInBounds j u) t fr):=by
 have⟨hl,h'⟩:=ab.1 h;show(w.heap.modify g _)[g]? =_;rw[Array.getElem?_eq_getElem (by simpa using hl),Array.getElem_modify_self,h'];rfl
def Ey {size n:Nat}{xs:List bt}(h:w.ownsRow base e size (xL (g,0) n cap) n xs)(u:bt):
 (w.setCell (g,j) u).ownsRow base e size (xL (g,0) n cap) n (xs.set j u):=by
 obtain⟨h1,h2|⟨g',cap',cur,hv,hg,hh,hn,hm,hs,hx⟩⟩:=h
 .cases h2.1
 obtain⟨rfl,rfl⟩:g=g'/\cap=cap':=by simpa using hv
 refine⟨by simpa using h1, .inr ⟨g,cap,_,rfl,hg,zL u hh,hn,hm,by simpa using hs,?_⟩⟩;rw[<-hx];simp[List.take_set]
def Ez {css:List (List bt)}{size:Nat}(hs:∀(i:Nat)(cs:List bt),css[i]? =some cs->cs.length=size):∀(i j:Nat)(cs:List bt)(u:bt),css[i]? =some cs->j<size->css.flatten.set (i*size+j) u=(css.set i (cs.set j u)).flatten:=by
 induction css with
 |nil=>intro i j cs u h;simp at h
 |cons a r ih=>
  intro i j cs u hi hj;have ha:a.length=size:=hs 0 a rfl;cases i with
  |zero=>
   simp at hi;subst hi;simp only[Nat.zero_mul,Nat.zero_add,List.flatten_cons,List.set_cons_zero];rw[List.set_append_left _ _ (by omega)]
  |succ i=>
   have ZN:r[i]? =some cs:=by simpa using hi
   have:=ih (λk c hk=>hs (k+1) c (by simpa using hk)) i j cs u ZN hj;simp only[List.flatten_cons,List.set_cons_succ];rw[List.set_append_right _ _ (by rw[ha,Nat.succ_mul];omega),ha,<-this];congr 2;rw[Nat.succ_mul];omega
def bP.cell {α:Type} [bD α]{n:Nat}{xs:List α}(h:bP M base e w (xL (g,0) n cap) xs){x y:α}(hx:xs[i]? =some x)(hj:j<bD.size α)(u:bt)
 (hr:∀cs W,bD.rep (cz (xL (g,0) n cap) M) W cs x->Ev (cz (xL (g,0) n cap) M) w (cz (xL (g,0) n cap) M) W->bD.rep (cz (xL (g,0) n cap) M) W (cs.set j u) y):
 bP M base e (w.setCell (g,i*bD.size α+j) u) (xL (g,0) n cap) (xs.set i y):=by
 have hn:=h.bj;obtain⟨_,_,hn,_⟩:=hn;injection hn with _ hn _;subst hn;have hE:Ev (cz (xL (g,0) xs.length cap) M) w (cz (xL (g,0) xs.length cap) M) (w.setCell (g,i*bD.size α+j) u):=(Ev.refl _ _).setCell (.inl (.inr rfl)) u;obtain⟨css,h1,h2,h3⟩:=h;have wJ:=(ag.1 hx).1;have⟨cs,hcs⟩:=fg css i (by omega);have hlen:∀(k:Nat)(c:List bt),css[k]? =some c->c.length=bD.size α:=λk c hc=>by
  have⟨z,hz⟩:=fg xs k (by rw[<-h2];exact(ag.1 hc).1);exact bD.len (h3 k c z hc hz)
 refine⟨css.set i (cs.set j u),?_,by simpa using h2,λk c z hc hz=> ?_⟩
 .rw[<-Ez hlen i j cs u hcs hj,List.length_set];exact Ey h1 u
 by_cases hki:k=i
 .subst hki;rw[List.getElem?_set_self (by omega)]at hc hz;obtain rfl:=Option.some.inj hc;obtain rfl:=Option.some.inj hz;exact hr _ _ (bD.ev (h3 k cs x hcs hx) hE) hE
 rw[List.getElem?_set_ne (by omega)]at hc hz;exact bD.ev (h3 k c z hc hz) hE
def kJ(M:bY)(w:bq)(v:bt)(l:List bJ)(h:aS M w v l)(hl:l.length<=40):
 xG 365 #[v] w λv w'=>bP M w 78 w' v l:=by
 have⟨i0,hi0,hz0,hz1,hz2⟩:=info_parts jx;have HS:=aV h;obtain⟨a,c,rfl,dN,hmx,ho⟩:=h.bj;have HE:Hd (bP (α:=bJ) M w 78 (w.alloc (xK #[] 78)) (xL (w,0) 0 0) []):=bP.made M #[] 0 cN (by unfold maxLen;omega) rfl;have q89:∀(w:bq)(a:fM)(n c n' c':Nat),(binOp .eql 51 (.slice a n c) (.slice none n' c')).run prog w= .ok (.bool a.isNone) w:=λw a n c n' c'=>Lib.run_eql_slice_nil w _ _ a n c n' c' underlying51;have⟨n,hn⟩:=js (l.length);have HO:Hd (a=none->l=[]):=λha=>by
  by_cases hp:0<l.length
  .have⟨b,off,h1,_⟩:=ho hp;rw[ha]at h1;cases h1
  exact List.length_eq_zero_iff.1 (by omega)
 rw[hn]at hl dN⊢;have iy:=aV (show aS M w (xL a n c) l by rw[<-hn];exact HS.o);have HN:=aV hn;cases a with
 |none=>
  obtain rfl:=HO.o rfl;go_enter func365,ntmps365;go_wp2;go_ret;exact⟨_,rfl,bP.nil _ _ _ _,eH⟩
 |some adr=>
 go_enter func365,ntmps365;go_wp2_with(at_builtin;go_loud(refine dM (α:=bJ) rfl _ _ _ rfl M w 78 i0 _ 40 underlying51 hi0 hz0 hz1 hz2 rfl (by decide) (.slice (w,0) 0 0) [] rfl HE.o (.slice (some adr) n c) l rfl (iy.o.ev (tg HE.o rfl cU)) (by rw[HN.o];simp;unfold maxLen;omega) (by rw[HN.o];simp;omega) (by simp) ?_);rw[HN.o];simp only[aD,Nat.zero_add,List.nil_append];intro a2 c2 w2 cF eD cJ;have dR:=aV cF;have cR:Hd (bC w w2):=cU.trans cJ;clear cF eD cJ);go_ret;exact⟨_,rfl,dR.o,cR.o⟩
def rE(nm:bS)(fv:bt)(x:bK)(a:Int)(b:Bool)(g1 g2:bt):Obj:=
 xK #[nm,fv,x.bg,x.field,x.aX,x.more,x.type.bg,x.type.of,x.dO,x.cW,a,b,g1,g2] 368
structure WkC(W:bq)(p:Nat)(nm:bS)(fv:bt)(x:bK)(a:Int)(b:Bool)(g1 g2:bt):Prop where
 c0:W.cell? (p,0)=some (xS nm)
 c1:W.cell? (p,1)=some fv
 c2:W.cell? (p,2)=some (xI x.bg)
 c3:W.cell? (p,3)=some (xS x.field)
 c4:W.cell? (p,4)=some (xS x.aX)
 c5:W.cell? (p,5)=some (xS x.more)
 c6:W.cell? (p,6)=some (xI x.type.bg)
 c7:W.cell? (p,7)=some (xI x.type.of)
 c8:W.cell? (p,8)=some (xS x.dO)
 c9:W.cell? (p,9)=some (xS x.cW)
 ca:W.cell? (p,10)=some (xI a)
 cb:W.cell? (p,11)=some (xB b)
 cc:W.cell? (p,12)=some g1
 cd:W.cell? (p,13)=some g2
def dK {a:Int}{b:Bool}{g1 g2:Value}(h:W.heap[p]? =some (rE nm fv x a b g1 g2)):WkC W p nm fv x a b g1 g2:=by
 have g:∀(j:Nat)(u:Value),(#[nm,fv,x.bg,x.field,x.aX,x.more,x.type.bg,x.type.of,x.dO,x.cW,a,b,g1,g2]:Array Value)[j]? =some u->W.cell? ⟨p,j,none⟩=some u:=λj u hj=>by
  simp only[World.cell?,h,rE];exact hj
 exact⟨g 0 _ rfl,g 1 _ rfl,g 2 _ rfl,g 3 _ rfl,g 4 _ rfl,g 5 _ rfl,g 6 _ rfl,g 7 _ rfl,g 8 _ rfl,g 9 _ rfl,g 10 _ rfl,g 11 _ rfl,g 12 _ rfl,g 13 _ rfl⟩
def WkC.aT {a:Int}{b:Bool}{g1 g2:bt}(h:WkC W p nm fv x a b g1 g2)(hp:p<W)(hb:bC W W'):WkC W' p nm fv x a b g1 g2:=by
 have e:∀j,W'.cell? ⟨p,j,none⟩=W.cell? ⟨p,j,none⟩:=λj=>hb.cell hp;exact⟨(e _).trans h.c0,(e _).trans h.c1,(e _).trans h.c2,(e _).trans h.c3,(e _).trans h.c4,(e _).trans h.c5,(e _).trans h.c6,(e _).trans h.c7,(e _).trans h.c8,(e _).trans h.c9,(e _).trans h.ca,(e _).trans h.cb,(e _).trans h.cc,(e _).trans h.cd⟩
def uD {n:Nat}{xs:List bJ}(h:bP M base e w (xL a n cap) xs)(hx:xs[i]? =some f):
 ∃g,a=some ⟨g,0,none⟩/\base<=g/\g<w.heap.size/\(w.cell? (g,i*4)=some (xS f.aX)/\w.cell? (g,i*4+1)=some (xI f.type.bg)/\w.cell? (g,i*4+2)=some (xI f.type.of)/\w.cell? (g,i*4+3)=some (xB f.indexed))/\∀j,w.frozen? ⟨g,j,none⟩=false:=by
 obtain⟨css,h1,h2,h3⟩:=h;have wJ:=(ag.1 hx).1;have⟨cs,hcs⟩:=fg css i (by omega);have hlen:∀(k:Nat)(c:List Value),css[k]? =some c->c.length=4:=λk c hc=>by
  have⟨z,hz⟩:=fg xs k (by rw[<-h2];exact(ag.1 hc).1);exact bD.len (h3 k c z hc hz)
 obtain⟨hl,hv|⟨g,cap',cur,hv,hg,hh,hn,hm,hs,JH⟩⟩:=h1
 .have:=hv.2;omega
 injection hv with ha hn' hc';have hgl:=(ab.1 hh).1;have G:∀(j:Nat)(u:Value),cs[j]? =some u->w.cell? (g,i*4+j)=some u:=λj u hj=>by
  have h4:=jt hlen i cs j u hcs hj;rw[<-JH]at h4;have h5:cur.toList[i*4+j]? =some u:=by
   rw[List.getElem?_take]at h4;split at h4
   .exact h4
   cases h4
  simp only[World.cell?,hh];simpa using h5
 have hr:=(h3 i cs f hcs hx).1;subst hr;refine⟨g,ha,hg,hgl,⟨G 0 _ rfl,G 1 _ rfl,G 2 _ rfl,G 3 _ rfl⟩,λj=>aY hh j⟩
def aS.Py {α:Type} [bD α]{xs:List α}(h:aS M w v xs):aS M w.drew v xs:=h.aT eH.drew
def Mc(M:Nat->Prop)(w:World)(hM:Bd M w)(c:bI)(fv:Value)(x:bK)(b:Bool)(g1 g2:Value)(p:Nat)(pre post:List bJ)(f:bJ)(ha:jy c x.field pre f post)(hk:x.bg=3)(No:x.aX.size<=maxLen)(h8:c.aW.length<=8)
 (hp:cX w p (rE c.aX fv x pre.length b g1 g2))(hfs:aS M w fv c.aW):
 xG 327 #[xP p] w λv w'=>aS M w' v (dk c x).aW:=by
 have iJ:p<w:=(ab.1 hp).1;have HW:=aV (dK hp);have q1:=HW.o.c1;have HC:=aV (kJ M w fv c.aW hfs (by omega));have hat:c.aW[pre.length]? =some f:=by rw[ha.eq];simp
 have cE:pre.length<c.aW.length:=(ag.1 hat).1;have pB:=aV (show(dk c x).aW=c.aW.set pre.length ⟨x.aX,f.type,f.indexed⟩by
  rw[gE ha (by omega),ha.eq];simp[jQ,hk]);have uN:=aV hat;have gz:Hd (x.aX.size<=maxLen):=No;have⟨n,hn⟩:=js (c.aW.length);have⟨i,hi⟩:=js (pre.length);have HN:=aV hn;rw[hi]at cE HW pB uN;rw[hn]at cE;delta xG;go_in;go_wp2_with fail;refine(HC.o).mono ?_;rintro e w1⟨_,rfl,hacc,hb⟩;have HA:=aV hacc;obtain⟨a1,c1,rfl,dN,hmx⟩:=hacc.bj;obtain⟨g,rfl,hg,hgl,⟨z0,z1,z2,z3⟩,hfr⟩:=uD hacc uN.o;rw[hn]at HA dN⊢;have HB:=aV hb;have oS:=aV (HW.o.aT iJ hb);have q2:=oS.o.ca;have q3:=oS.o.c4;have f0:=hfr (i*4);go_wp2_with fail;go_region;all_goals
  go_wp2;go_ret;refine⟨_,rfl,?_,(HB.o.setCell (p:=⟨g,i*4,none⟩) hg _).drew⟩;rw[pB.o];exact((bP.cell HA.o uN.o (j:=0) (by decide) _ (λcs W hr _=>by obtain⟨rfl,_⟩:=hr;exact⟨rfl,gz.o⟩)).slice hM).Py
def Md(M:bY)(w:bq)(hM:Bd M w)(c:bI)(fv:bt)(x:bK)(b:Bool)(g1 g2:bt)(p:Nat)(pre post:List bJ)(f:bJ)(ha:jy c x.field pre f post)(hk:x.bg=6)(h8:c.aW.length<=8)
 (hp:cX w p (rE c.aX fv x pre.length b g1 g2))(hfs:aS M w fv c.aW):
 xG 336 #[xP p] w λv w'=>aS M w' v (dk c x).aW:=by
 have iJ:p<w:=(ab.1 hp).1;have HW:=aV (dK hp);have q1:=HW.o.c1;have HC:=aV (kJ M w fv c.aW hfs (by omega));have hat:c.aW[pre.length]? =some f:=by rw[ha.eq];simp
 have cE:pre.length<c.aW.length:=(ag.1 hat).1;have pB:=aV (show(dk c x).aW=c.aW.set pre.length ⟨f.aX,f.type,!f.indexed⟩by
  rw[gE ha (by omega),ha.eq];simp[jQ,hk]);have uN:=aV hat;have⟨n,hn⟩:=js (c.aW.length);have⟨i,hi⟩:=js (pre.length);have HN:=aV hn;rw[hi]at cE HW pB uN;rw[hn]at cE;delta xG;go_in;go_wp2_with fail;refine(HC.o).mono ?_;rintro e w1⟨_,rfl,hacc,hb⟩;have HA:=aV hacc;obtain⟨a1,c1,rfl,dN,hmx⟩:=hacc.bj;obtain⟨g,rfl,hg,hgl,⟨z0,z1,z2,z3⟩,hfr⟩:=uD hacc uN.o;rw[hn]at HA dN⊢;have HB:=aV hb;have oS:=aV (HW.o.aT iJ hb);have q2:=oS.o.ca;have f0:=hfr (i*4+3);go_wp2_with fail;go_region;all_goals
  go_wp2;go_ret;refine⟨_,rfl,?_,(HB.o.setCell (p:=⟨g,i*4+3,none⟩) hg _).drew⟩;rw[pB.o];exact((bP.cell HA.o uN.o (j:=3) (by decide) _ (λcs W hr _=>by obtain⟨rfl,hs⟩:=hr;exact⟨rfl,hs⟩)).slice hM).Py
def Pz(M:bY)(w:bq)(hM:Bd M w)(c:bI)(fv:bt)(x:bK)(b:Bool)(g1 g2:bt)(p:Nat)(pre post:List bJ)(f:bJ)(ha:jy c x.field pre f post)(hk:x.bg=4)(h8:c.aW.length<=8)
 (hp:cX w p (rE c.aX fv x pre.length b g1 g2))(hfs:aS M w fv c.aW):
 xG 330 #[xP p] w λv w'=>aS M w' v (dk c x).aW:=by
 have iJ:p<w:=(ab.1 hp).1;have HW:=aV (dK hp);have q1:=HW.o.c1;have HC:=aV (kJ M w fv c.aW hfs (by omega));have hat:c.aW[pre.length]? =some f:=by rw[ha.eq];simp
 have cE:pre.length<c.aW.length:=(ag.1 hat).1;have pB:=aV (show(dk c x).aW=c.aW.set pre.length ⟨f.aX,x.type,false⟩by
  rw[gE ha (by omega),ha.eq];simp[jQ,hk]);have uN:=aV hat;have⟨n,hn⟩:=js (c.aW.length);have⟨i,hi⟩:=js (pre.length);have HN:=aV hn;rw[hi]at cE HW pB uN;rw[hn]at cE;delta xG;go_in;go_wp2_with fail;refine(HC.o).mono ?_;rintro e w1⟨_,rfl,hacc,hb⟩;have HA:=aV hacc;obtain⟨a1,c1,rfl,dN,hmx⟩:=hacc.bj;obtain⟨g,rfl,hg,hgl,⟨z0,z1,z2,z3⟩,hfr⟩:=uD hacc uN.o;rw[hn]at HA dN⊢;have HB:=aV hb;have oS:=aV (HW.o.aT iJ hb);have q2:=oS.o.ca;have q3:=oS.o.c6;have q4:=oS.o.c7;have f0:=hfr (i*4+1);have f1:=hfr (i*4+2);have f2:=hfr (i*4+3);go_wp2_with fail;go_region;all_goals
  go_wp2;go_ret;refine⟨_,rfl,?_,(((HB.o.setCell (p:=⟨g,i*4+1,none⟩) hg _).setCell (p:=⟨g,i*4+1+1,none⟩) hg _).setCell (p:=⟨g,i*4+3,none⟩) hg _).drew⟩;rw[pB.o];have BG:∀y:bJ,(c.aW.set i y)[i]? =some y:=λy=>List.getElem?_set_self (by rw[HN.o];exact cE);have A1:=bP.cell HA.o uN.o (j:=1) (by decide) x.type.bg (y:=⟨f.aX,⟨x.type.bg,f.type.of⟩,f.indexed⟩) (λcs W hr _=>by obtain⟨rfl,hs⟩:=hr;exact⟨rfl,hs⟩);have A2:=bP.cell A1 (BG _) (j:=2) (by decide) x.type.of (y:=⟨f.aX,x.type,f.indexed⟩) (λcs W hr _=>by obtain⟨rfl,hs⟩:=hr;exact⟨rfl,hs⟩);rw[List.set_set]at A2;have A3:=bP.cell A2 (BG _) (j:=3) (by decide) false (y:=⟨f.aX,x.type,false⟩) (λcs W hr _=>by obtain⟨rfl,hs⟩:=hr;exact⟨rfl,hs⟩);rw[List.set_set]at A3;exact(A3.slice hM).Py
def Me(d:Nat)(w:bq)(f:Fn)(x y:Array bt):(Op.equalIn (d+1) 366 (.func f x y) .nilFunc).run prog w= .ok false w:=by
 simp[Op.equalIn,run_underlying underlying366]
def oL(w:bq)(f:Fn)(x y:Array bt):(binOp .neq 366 (.func f x y) .nilFunc).run prog w= .ok true w:=by
 simp only[binOp];simp[Op.equal,Op.maxDepth,Me 9999]
def wC(M:bY)(w:bq)(c:bI)(fv:bt)(x:bK)(a:Int)(b:Bool)(g1 g2:bt)(p:Nat)(s u:bS)(hcn:c.aX.size<=maxLen)
 (hp:cX w p (rE c.aX fv x a b g1 g2))(hfs:aS M w fv c.aW)(hs:hasB c s=false\/s=u):
 xC 364 #[xP p,s,u] w (di true w):=by
 have iJ:p<w:=(ab.1 hp).1;have q0:=(dK hp).c0;have q1:=(dK hp).c1;have HF:=aV (show xC 109 #[.agg #[c.aX,fv],s] w λe w'=>∃at_,e=xR (.tuple #[xI at_,xB (hasB c s)])/\bC w w' by
  refine dx (nr M fv w c s _ _ hfs hcn rfl rfl) λw1 hb=> ?_;exact⟨_,rfl,hb⟩);obtain⟨a0,c0,rfl,dN,hmx,ho⟩:=hfs.bj;delta xC;go_in;go_wp2_with fail;refine(HF.o).mono ?_;rintro e w1⟨at_,rfl,hb⟩;have HB:=aV hb;rcases hs with hs|rfl
 .rw[hs];go_wp2;go_ret;exact⟨rfl,HB.o⟩
 cases hq:hasB c s
 .go_wp2;go_ret;exact⟨rfl,HB.o⟩
 go_wp2;go_ret;exact⟨by simp,HB.o⟩
def It(w:bq)(nm:bS)(fv:bt)(x:bK)(a:Int)(b:Bool)(g1 g2:bt)(p:Nat)(hp:cX w p (rE nm fv x a b g1 g2)):
 xC 323 #[xP p] w (di b w):=by
 have q1:=(dK hp).cb;delta xC;go_in;go_wp2;go_ret;exact⟨rfl,eH⟩
def Iu(w:bq)(nm:bS)(fv:bt)(x:bK)(a:Int)(f1:Nat)(b1:Array bt)(g2:bt)(p:Nat)(hp:cX w p (rE nm fv x a true (.func (.func f1) #[] b1) g2)):
 xC 329 #[xP p] w (di true w):=by
 have q1:=(dK hp).cb;have q2:=(dK hp).cc;have q3:=oL;delta xC;go_in;go_wp2;go_ret;exact⟨rfl,eH⟩
def Ck(M:bY)(w:bq)(c:bI)(fv:bt)(x:bK)(a:Int)(g1 g2:bt)(p:Nat)(hcn:c.aX.size<=maxLen)(hp:cX w p (rE c.aX fv x a true g1 g2))(hfs:aS M w fv c.aW)(hs:hasB c x.aX=false):
 xC 326 #[xP p] w (di true w):=by
 have HF:=aV (wC M w c fv x a true g1 g2 p x.aX () hcn hp hfs (.inl hs));have q1:=(dK hp).cb;have q2:=(dK hp).c4;delta xC;go_in;go_wp2_with fail;refine dx (HF.o) λw1 hb=> ?_;have HB:=aV hb;go_wp2;go_ret;exact⟨rfl,HB.o⟩
def Mf(M:bY)(w:bq)(c:bI)(fv:bt)(x:bK)(a:Int)(b:Bool)(f1:Nat)(b1:Array bt)(g2:bt)(p:Nat)(hcn:c.aX.size<=maxLen)(h8:c.aW.length<8)(hp:cX w p (rE c.aX fv x a b (.func (.func f1) #[] b1) g2))(hfs:aS M w fv c.aW)(hs:hasB c x.aX=false):
 xC 320 #[xP p] w (di true w):=by
 have iJ:p<w:=(ab.1 hp).1;have HW:=aV (dK hp);have HF:=aV (wC M w c fv x a b _ g2 p x.aX () hcn hp hfs (.inl hs));have q1:=HW.o.c1;have q2:=HW.o.c4;have s0:((c.aW.length:Nat):Int)<8:=by omega
 obtain⟨a0,c0,rfl,dN,hmx,ho⟩:=hfs.bj;have⟨n,hn⟩:=js (c.aW.length);rw[hn]at q1 s0 HW;have q4:=oL;delta xC;go_in;go_wp2_with fail;refine dx (HF.o) λw1 hb=> ?_;have HB:=aV hb;have q3:=(HW.o.aT iJ hb).cc;go_wp2;go_ret;exact⟨rfl,HB.o⟩
abbrev eI(i:Int):bt:=xI i
def fY(e:Bool)(x:Int)(w:bq):(Instr.checkKey e 10000 3 (eI x)).run prog w= .ok () w:=by
 show(Instr.checkKey e (9999+1) 3 x).run prog w= .ok () w;rw[Instr.checkKey];simp only[Sem.run_bind,run_underlying underlying3,Result.andThen_ok];rfl
def jK(f p:Nat):bt:= .func (.func f) #[xP p] #[]
def ki(p f g h:Nat):bt:= .agg #[jK f p,jK g p,jK h p]
def nI {es:List (Int×bt×Nat)}(h:cO eI w b es clk)(x:Int)(v:bt)(hv:cB es x=none):∃w',(Instr.mapUpdate 370 (.map (some b)) x v).run prog w= .ok () w'/\cO eI w' b (es++[(x,v,clk)]) (clk+1)/\bh (λi=>i=b) w w':=by
 have⟨h1,h2⟩:=cO.insert eI (.int .i64) pV (P:=prog) underlying370 underlying3 fY h x v hv;exact⟨_,h1,h2,(bh.refl (λi=>i=b) w).putObj (.inl rfl) _⟩
def qE(w:bq)(b p:Nat):Prop:=∃es clk,cO eI w b es clk/\
 cB es 1=some (ki p 320 321 322)/\
 cB es 2=some (ki p 323 324 325)/\
 cB es 3=some (ki p 326 327 328)/\
 cB es 4=some (ki p 329 330 331)/\
 cB es 5=some (ki p 332 333 334)/\
 cB es 6=some (ki p 335 336 328)
def lO {es:List (Int×bt×Nat)}(h:cO eI w b es clk)(x:Int)(v:bt)(hv:cB es x=some v):(Instr.lookup 370 (.map (some b)) x false).run prog w= .ok v w:=
 cO.lookup eI (.int .i64) pV (P:=prog) underlying370 underlying3 fY h x v hv
def PA(w:bq)(p:Nat):xC 285 #[xP p] w λe w'=>∃b,e=xR (.map (some b))/\qE w' b p/\w.heap.size<=b/\bC w w':=by
 have h0:cO eI (w.alloc (.map #[] 0)) w [] 0:=(MapKept.heap_alloc w _).1;have t0:w.heap.size<(w.alloc (.map #[] 0)).heap.size:=by simp
 have⟨w0,hw0⟩:=dd (w.alloc (.map #[] 0));rw[<-hw0]at h0 t0;have⟨w1,e1,h1,o1⟩:=nI h0 1 (ki p 320 321 322) rfl;have⟨w2,e2,h2,o2⟩:=nI h1 2 (ki p 323 324 325) rfl;have⟨w3,e3,h3,o3⟩:=nI h2 3 (ki p 326 327 328) rfl;have⟨w4,e4,h4,o4⟩:=nI h3 4 (ki p 329 330 331) rfl;have⟨w5,e5,h5,o5⟩:=nI h4 5 (ki p 332 333 334) rfl;have⟨w6,e6,h6,o6⟩:=nI h5 6 (ki p 335 336 328) rfl;have HO:Hd (bC w w6):=((((bh.refl xF w).alloc (.map #[] 0)).dL (hw0▸(((((o1.trans o2).trans o3).trans o4).trans o5).trans o6)) (λi hi cE=>by subst hi;omega)).aT);have HM:Hd (qE w6 w p):=⟨_,_,h6,rfl,rfl,rfl,rfl,rfl,rfl⟩;clear h0 h1 h2 h3 h4 h5 h6 o1 o2 o3 o4 o5 o6 t0;unfold ki jK at e1 e2 e3 e4 e5 e6;have BC:∀(fn:Fn)(bu cap:Array bt)(w:bq),(Instr.makeFunc fn bu cap).run prog w= .ok (.func fn bu cap) w:=λ_ _ _ _=>rfl;have hmk:=fJ 370 w;rw[<-hw0]at hmk;clear hw0;delta xC;go_in;go_wp2;go_ret;exact⟨_,rfl,HM.o,cN,HO.o⟩
def mA.Uc {k m n:Int}(h:m<=n){v:bE}(hv:mA k m v):mA k n v:=by
 rcases hv with hv|hv|⟨hk,hv|⟨j,e,h1,h2⟩⟩
 .exact .inl hv
 .exact .inr (.inl hv)
 .exact .inr (.inr ⟨hk, .inl hv⟩)
 exact .inr (.inr ⟨hk, .inr ⟨j,e,h1,Int.le_trans h2 h⟩⟩)
def eF.Uc {t:cq}{m n:Int}(h:m<=n){v:bE}(hv:eF t m v):eF t n v:=by
 rcases hv with⟨h5,l,e,hl,ha⟩|⟨h5,h1⟩
 .exact .inl ⟨h5,l,e,hl,λx hx=>(ha x hx).Uc h⟩
 exact .inr ⟨h5,h1.Uc h⟩
def cD.Uc {fs:List bJ}{m n:Int}(h:m<=n)(hv:cD fs m vs):cD fs n vs:=⟨hv.1,λi f v hf hx=>(hv.2 i f v hf hx).Uc h⟩
def jS.Uc {m n:Int}(h:m<=n){o:cm}{v:Nat}{l:bQ}(ho:jS ls m o k v l):jS ls n o k v l:=⟨ho.dz,ho.dB,ho.line,ho.le,ho.bR.Uc h⟩
def dV(l:List cm):List Int:=l.map cm.id
def tj(l:List cm)(id:Int):Option cm:=l.find? (λo=>decide (o.id=id))
def dT(x:bU)(id:Int):List Int:=match tj x.bN id with
 |none=>[]
 |some o=>match x.bH[o.dz.toNat]? with
  |none=>[]
  |some l=>refsOf l o.dB.toNat o.bR
structure fL(x:bU):Prop where
 sch:eS x.bH
 len:x.bN.length<=500
 bN:∀(i:Nat)(o:cm),x.bN[i]? =some o->1<=o.id/\o.id<x.next/\∃k v l,jS x.bH 100000 o k v l
 rise:(dV x.bN).Pairwise (·< ·)
 refs:∀n,∀y∈dT x n,y∈dV x.bN
 rlen:x.bB.length<=500
 bB:∀r∈x.bB,r.id∈dV x.bN
 mL:∀r∈x.bB,bF r.aX=true/\r.aX.size<=20
 x9:∀(i:Nat)(r s:bT),x.bB[i]? =some r->x.bB[i+1]? =some s->(Op.bytesLess s.aX.toList r.aX.toList||s.aX.toList==r.aX.toList)=false
 next:1<=x.next/\x.next<=100001
def kD {l:List cm}(h:(dV l).Pairwise (·< ·)){o p:cm}(hi:l[i]? =some o)(hj:l[j]? =some p)(he:o.id=p.id):i=j:=by
 have e1:(dV l)[i]? =some o.id:=by unfold dV;rw[List.getElem?_map,hi];rfl
 have e2:(dV l)[j]? =some p.id:=by unfold dV;rw[List.getElem?_map,hj];rfl
 have⟨l1,g1⟩:=ag.1 e1;have⟨l2,g2⟩:=ag.1 e2;rcases Nat.lt_trichotomy i j with hl|hl|hl
 .have:=List.pairwise_iff_getElem.1 h i j l1 l2 hl;rw[g1,g2,he]at this;omega
 .exact hl
 have:=List.pairwise_iff_getElem.1 h j i l2 l1 hl;rw[g1,g2,he]at this;omega
def PC {l:List cm}(h:(dV l).Pairwise (·< ·)){o:cm}(hi:l[i]? =some o):tj l o.id=some o:=by
 unfold tj;cases hf:l.find? (λp=>decide (p.id=o.id))with
 |none=>
  have:=List.find?_eq_none.1 hf o (ai hi);simp at this
 |some p=>
  have h1:p.id=o.id:=by simpa using List.find?_some hf
  have⟨j,hj⟩:=aP (List.mem_of_find?_eq_some hf);obtain rfl:=kD h hj hi h1;rw[hi]at hj;exact hj.symm
def fL.ref {x:bU}(h:fL x){o:cm}(ho:x.bN[i]? =some o){m:Int}{v:Nat}{l:bQ}(hk:jS x.bH m o k v l):dT x o.id=refsOf l v o.bR:=by
 unfold dT;rw[PC h.rise ho];simp only;rw[hk.dz,show((k:Int)).toNat=k by omega,hk.line];simp only;rw[hk.dB,show((v:Int)).toNat=v by omega]
def kV(x:bU)(i:Nat)(o:cm):Prop:=∃(o0:cm)(k v:Nat)(l:bQ)(us:List bE),x.bN[i]? =some o0/\jS x.bH 100000 o0 k v l/\kR (bV l v) (l.bo.drop v) 100000 o0.bR us/\o=⟨o0.id,(k:Int),(l.bo.length:Int),us⟩
def kV.refs {x:bU}(h:fL x){o:cm}(hl:kV x i o):o.bR.flatMap (dm 3)=dT x o.id:=by
 obtain⟨o0,k,v,l,us,h1,h2,h3,rfl⟩:=hl;show us.flatMap (dm 3)=dT x o0.id;rw[h.ref h1 h2];exact h3.refs
def kV.bR {x:bU}(h:fL x){o:cm}(hl:kV x i o):∃fs,cD fs 100000 o.bR/\o.bR.length<=8:=by
 obtain⟨o0,k,v,l,us,h1,h2,h3,rfl⟩:=hl;have hc:=((h.sch.bH l (ai h2.line)).from_ v).lr (l.bo.drop v).length;have e:bV (fz l v) (l.bo.drop v).length=pR (bV l v) (l.bo.drop v):=by
  show pR (bV l v) ((l.bo.drop v).take _)=_;rw[List.take_length]
 rw[e]at hc;have h8:=((cw _).1 hc.right).2.1;exact⟨_,h3.1,by show us.length<=8;rw[h3.1.1];exact h8⟩
def kV.idn {x:bU}{o:cm}(hl:kV x i o):∃o0,x.bN[i]? =some o0/\o.id=o0.id:=by
 obtain⟨o0,k,v,l,us,h1,h2,h3,rfl⟩:=hl;exact⟨o0,h1,rfl⟩
def kV.inside {x:bU}(h:fL x){o:cm}(hl:kV x i o):∀n∈o.bR.flatMap (dm 3),n∈dV x.bN:=by
 rw[hl.refs h];exact h.refs _
def Iv {x:bU}(h:fL x){o:cm}(hl:kV x i o):(dT x o.id).length<=96:=by
 rw[<-hl.refs h];have⟨fs,h1,h8⟩:=hl.bR h;have key:∀l:List bE,(∀v∈l,(dm 3 v).length<=12)->(l.flatMap (dm 3)).length<=12*l.length:=by
  intro l;induction l with
  |nil=>intro _;simp
  |cons a l ih=>
   intro hh;have h1:=hh a (by simp);have h2:=ih (λv hv=>hh v (List.mem_cons_of_mem _ hv));simp only[List.flatMap_cons,aJ,aC];omega
 have:=key o.bR (λv hv=>by
  have⟨f,_,hf⟩:=fI h1 v hv;exact qB hf 3);omega
structure Cl(x:bU)(M:bY)(w:bq)(lv:bt)(pm:Nat):Prop where
 late:∃ls:List cm,aS M w lv ls/\ls.length=x.bN.length/\∀(i:Nat)o,ls[i]? =some o->kV x i o
 place:∃es clk,cO eI w pm es clk/\∀n:Int,cB es n=(x.bN.findIdx? (λo=>decide (o.id=n))).map (λi=>xI (i:Int))
def Cl.aT {x:bU}{pm:Nat}(h:Cl x M w lv pm)(hb:bC w W):Cl x M W lv pm:=by
 obtain⟨⟨ls,h1,h2⟩,es,clk,h3,h4⟩:=h;exact⟨⟨ls,h1.aT hb,h2⟩,es,clk,(hb.block _ (ab.1 h3).1).trans h3,h4⟩
def Mg {l:List cm}(h:(dV l).Pairwise (·< ·)){o:cm}(hi:l[i]? =some o):l.findIdx? (λp=>decide (p.id=o.id))=some i:=by
 refine List.findIdx?_eq_some_iff_getElem.2 ⟨(ag.1 hi).1,?_,λj hj=> ?_⟩
 .have:=(ag.1 hi).2;simp[this]
 have zx:j<l.length:=Nat.lt_trans hj (ag.1 hi).1;have:=kD h (af zx) hi;simp only[decide_eq_true_eq];intro e;have:=this e;omega
theorem Cl.at_ {x:bU}(h:fL x){es:List (Int×bt×Nat)}(hp:∀n:Int,cB es n=(x.bN.findIdx? (λo=>decide (o.id=n))).map (λi=>xI (i:Int))){o:cm}(ho:x.bN[i]? =some o):cB es o.id=some (xI (i:Int)):=by
 rw[hp,Mg h.rise ho];rfl
def fL.qck {x:bU}(h:fL x){v:Nat}{o:cm}{l:bQ}(ho:x.bN[i]? =some o)(hk:jS x.bH 100000 o k v l):Hk 100000 o:=by
 have⟨h1,h2,_⟩:=h.bN i o ho;have h3:=h.next;have h4:=(ag.1 hk.line).1;have h5:=h.sch.len;have h6:=h.sch.bH l (ai hk.line);have h7:=h6.len;have h8:=((cw (bV l v)).1 (h6.lr v).right).2.1;have h9:=hk.bR.1;have h10:=hk.le;exact⟨by omega,by omega,by rw[hk.dz];omega,by rw[hk.dz];omega,by rw[hk.dB];omega,by rw[hk.dB];omega,⟨_,hk.bR⟩,by omega⟩
structure Cm(D:List Int)(bB:List Int)(R:Int->List Int):Prop where
 bB:∀x∈bB,x∈D
 refs:∀x∈D,∀y∈R x,y∈D
def Cm.Ud {D bB:List Int}{R:Int->List Int}(h:Cm D bB R){x:Int}(hx:Mk.wD bB R x):x∈D:=by
 induction hx with
 |root x hx=>exact h.bB x hx
 |step x y _ hy ih=>exact h.refs x ih y hy
theorem je:∀(D xs:List Int),xs.Nodup->(∀x∈xs,x∈D)->xs.length<=D.length
 |[],xs,_,h=>by
  cases xs with
  |nil=>simp
  |cons a r=>have:=h a (by simp);simp at this
 |d::D,xs,hn,h=>by
  have h1:=je D (xs.erase d) (hn.erase _) λx hx=>by
   have h2:=h x (List.mem_of_mem_erase hx);have h3:x≠d:=λe=>by
    subst e;exact(List.Nodup.not_mem_erase hn) hx
   simpa [h3]using h2
  have h4:=List.length_erase (a:=d) (l:=xs);simp only[aC];split at h4<;>omega
def fL.closed {x:bU}(h:fL x):Cm (dV x.bN) (cV x) (dT x):=by
 refine⟨λn hn=> ?_,λn _ y hy=>h.refs n y hy⟩;obtain⟨r,hr,rfl⟩:=aQ.1 hn;exact h.bB r hr
def B9.wr {x:bU}(h:B9 x):fL x:=by
 have h10:=h.len;have rW:=h.next;have hr:(dV x.bN).Pairwise (·< ·):=by
  refine List.pairwise_iff_getElem.2 λi j hi hj cE=> ?_;unfold dV at hi hj⊢;rw[aL]at hi hj;rw[List.getElem_map,List.getElem_map];have h1:=(h.bN i _ (af hi)).1;have h2:=(h.bN j _ (af hj)).1;omega
 have ji:∀n:Int,1<=n->n<=x.bN.length->n∈dV x.bN:=λn h1 h2=>by
  have hi:(n-1).toNat<x.bN.length:=by omega
  have h3:=(h.bN _ _ (af hi)).1;exact aQ.2 ⟨_,ai (af hi),by omega⟩
 refine⟨h.sch,by omega,λi o ho=> ?_,hr,λn y hy=> ?_,by have:=h.rlen;omega,λr NP=> ?_,λr NP=> ?_,λi r s h1 h2=>h.x9 h1 h2,by omega⟩
 .have⟨h1,k,v,l,hk⟩:=h.bN i o ho;have:=(ag.1 ho).1;exact⟨by omega,by omega,k,v,l,hk.Uc (by omega)⟩
 .unfold dT at hy;cases hf:tj x.bN n with
  |none=>rw[hf]at hy;simp at hy
  |some o=>
   have⟨i,hi⟩:=aP (List.mem_of_find?_eq_some hf);have⟨h1,k,v,l,hk⟩:=h.bN i o hi;rw[hf]at hy;simp only at hy;rw[hk.dz,show((k:Int)).toNat=k by omega,hk.line]at hy;simp only at hy;rw[hk.dB,show((v:Int)).toNat=v by omega]at hy;have⟨h2,h3⟩:=B8 hk.bR y hy;exact ji y h2 h3
 .have⟨h1,h2⟩:=h.bB r NP;exact ji _ h1 h2
 have⟨i,hi⟩:=aP NP;exact h.mL hi
structure fC where
 bg:Int
 j9:cm
 id:Int
 dB:Int
 aX:bS
 dz:bI
 qm:bK
instance:bD fC where
 size:=18
 rep:=λM w cs x=>∃vv fv,cs=[xI x.bg,xI x.j9.id,xI x.j9.dz,xI x.j9.dB,vv,xI x.id,xI x.dB,xS x.aX,xS x.dz.aX,fv,xI x.qm.bg,xS x.qm.field,xS x.qm.aX,xS x.qm.more,xI x.qm.type.bg,xI x.qm.type.of,xS x.qm.dO,xS x.qm.cW]/\aS M w vv x.j9.bR/\aS M w fv x.dz.aW/\x.aX.size<=maxLen/\x.dz.aX.size<=maxLen
 len:=λ⟨_,_,h,_⟩=>by rw[h];rfl
 flat:=λ⟨_,_,h,h1,h2,_⟩u hu=>by
  rw[h]at hu;simp at hu;rcases hu with rfl|rfl|rfl|rfl|rfl|rfl|rfl|rfl|rfl|rfl|rfl|rfl|rfl|rfl|rfl|rfl|rfl|rfl;all_goals first|rfl|exact eL h1|exact eL h2
 ev:=λ⟨vv,fv,h,h1,h2,h3⟩k=>⟨vv,fv,h,h1.ev k,h2.ev k,h3⟩
theorem AW {β:Type}(f:β->Int):∀{l m:List β},l.Perm m->(l.map f).Pairwise (·< ·)->(m.map f).Pairwise (·< ·)->l=m
 |[],m,h,_,_=>by rw[List.nil_perm.1 h]
 |a::l,[],h,_,_=>by have:=h.length_eq;simp at this
 |a::l,b::m,h,h1,h2=>by
  rw[List.map_cons,List.pairwise_cons]at h1 h2;have ha:a∈b::m:=h.mem_iff.1 List.mem_cons_self;have hb:b∈a::l:=h.mem_iff.2 List.mem_cons_self;have e:a=b:=by
   rcases aO.1 ha with e|ha
   .exact e
   rcases aO.1 hb with e|hb
   .exact e.symm
   have k1:=h2.1 (f a) (List.mem_map_of_mem ha);have k2:=h1.1 (f b) (List.mem_map_of_mem hb);omega
  subst e;rw[AW f (List.perm_cons a|>.1 h) h1.2 h2.2]
def qR(l:List cm)(o:cm):List cm:=l.filter (λp=>decide (p.id<o.id))++o::l.filter (λp=>decide (o.id<p.id))
def tl {l:List cm}{o p:cm}:p∈qR l o↔(p∈l/\p.id≠o.id)\/p=o:=by
 unfold qR;simp only[aI,List.mem_filter,aO,decide_eq_true_eq];constructor
 .rintro(⟨h,k⟩|rfl|⟨h,k⟩)
  .exact .inl ⟨h,by omega⟩
  .exact .inr rfl
  exact .inl ⟨h,by omega⟩
 rintro(⟨h,k⟩|rfl)
 .rcases Int.lt_trichotomy p.id o.id with e|e|e
  .exact .inl ⟨h,e⟩
  .exact absurd e k
  exact .inr (.inr ⟨h,e⟩)
 exact .inr (.inl rfl)
def PD {l m:List cm}(hl:(dV l).Pairwise (·< ·))(hm:(dV m).Pairwise (·< ·))(h:∀o,o∈l↔o∈m):l=m:=by
 have nd:∀{l:List cm},(dV l).Pairwise (·< ·)->l.Nodup:=λ{l}h=>by
  unfold dV at h;rw[List.pairwise_map]at h;exact h.imp (λhab e=>by subst e;omega)
 exact AW cm.id ((List.perm_ext_iff_of_nodup (nd hl) (nd hm)).2 h) hl hm
def bP.le {α:Type} [bD α]{base':Nat}{xs:List α}(h:bP M base e w v xs)(hb:base'<=base):bP M base' e w v xs:=by
 obtain⟨css,⟨h1,h2⟩,h3,h4⟩:=h;refine⟨css,⟨h1,?_⟩,h3,h4⟩;rcases h2 with h2|⟨g,cap,cur,h5,h6,h7⟩
 .exact .inl h2
 exact .inr ⟨g,cap,cur,h5,by omega,h7⟩
def VG {size:Nat}{cs:Array bt}(h:cX w g (.cells cs t (0,0)))(hs:cs.size=size)(hF:F g):du F w size (xL (g,0) 1 1) 1 cs.toList:=by
 refine⟨by simp[hs],some ⟨g,0,none⟩,1,rfl,cN,by unfold maxLen;omega,λ_=>⟨g,0,rfl,hF,(ab.1 h).1,λj u hu=> ?_⟩⟩;simp only[World.cell?,h,Nat.zero_add];simpa using hu
def Gc(hb:Below w.drew.heap.size w.drew w'):bC w w':=(ay _ w).drew.trans hb
def X8(hb:Below (w.drew.alloc o).heap.size (w.drew.alloc o) w'):bC w w':=((ay _ w).drew.alloc cN o).trans (hb.mono (by show w.heap.size<=(w.alloc o).heap.size;simp))
def X9(hb:Below (w.alloc o).drew.heap.size (w.alloc o).drew w'):bC w w':=((ay _ w).alloc cN o).drew.trans (hb.mono (by show w.heap.size<=(w.alloc o).heap.size;simp))
def oX2(hb:Below (w.drew.alloc o).heap.size (w.drew.alloc o) w'):w'.heap[w.heap.size]? =some o:=(hb.block w (by show w.heap.size<(w.alloc o).heap.size;simp)).trans (az w.drew o)
def oX3(hb:Below (w.alloc o).drew.heap.size (w.alloc o).drew w'):w'.heap[w.heap.size]? =some o:=(hb.block w (by show w.heap.size<(w.alloc o).heap.size;simp)).trans (az w o)
def VH(M:bY)(w:bq)(hM:Bd M w)(c:bI)(fv:bt)(x:bK)(a:Int)(b:Bool)(g1 g2:bt)(p:Nat)(hk:x.bg=1)(No:x.aX.size<=maxLen)(h8:c.aW.length<=8)
 (hp:cX w p (rE c.aX fv x a b g1 g2))(hfs:aS M w fv c.aW):
 xG 321 #[xP p] w λv w'=>aS M w' v (dk c x).aW:=by
 have⟨i0,hi0,hz0,hz1,hz2⟩:=info_parts jx;have iJ:p<w:=(ab.1 hp).1;have HW:=aV (dK hp);have q1:=HW.o.c1;have q4:=HW.o.c4;have q6:=HW.o.c6;have q7:=HW.o.c7;have HC:Hd (∀W,bC w W->xC 365 #[fv] W (de W λv w'=>bP M w 78 w' v c.aW)):=λW hb=>(kJ M W fv c.aW (hfs.aT hb) (by omega)).mono λe w' h=>by
  obtain⟨v,h1,h2,h3⟩:=h;exact⟨v,h1,h2.le hb.size,h3⟩
 have pB:=aV (show(dk c x).aW=c.aW++[⟨x.aX,x.type,false⟩]by rw[qw hk]);have gz:Hd (x.aX.size<=maxLen):=No;obtain⟨a0,c0,rfl,dN,hmx,ho⟩:=hfs.bj;have⟨n,hn⟩:=js (c.aW.length);rw[hn]at q1 dN HC h8 HW;have HN:=aV hn;clear hn;clear hfs hp ho;delta xG;go_in;go_wp2_with fail;go_upto_region 1 with fail;have eh:Hd (∀W,bC w W->cC W p 1 (xL a0 n c0)/\cC W p 4 x.aX/\cC W p 6 x.type.bg/\cC W p 7 x.type.of):=λW hb=>by
  have h:=HW.o.aT iJ hb;exact⟨h.c1,h.c4,h.c6,h.c7⟩
 have HJ:Hd (bC w w):=eH;go_cut [2](λs2 wx=>Hd (aS M wx s2 (dk c x).aW)/\Hd (bC w wx))
 .go_region_held3(λw'=>w'.cell? (p,1)=some (xL a0 n c0)/\w'.cell? (p,4)=some (xS x.aX)/\w'.cell? (p,6)=some (xI x.type.bg)/\w'.cell? (p,7)=some (xI x.type.of))
   (with_reducible first|exact eh.o _ pC.o|exact eh.o _ pC.o.drew|exact eh.o _ HJ.o|exact eh.o _ HJ.o.drew|exact eh.o _ (HJ.o.alloc HJ.o.size _)|exact eh.o _ ((HJ.o.alloc HJ.o.size _).drew)|exact eh.o _ (HJ.o.drew.alloc HJ.o.size _)|exact eh.o _ ee.o|exact eh.o _ ee.o.drew|exact eh.o _ (ee.o.alloc ee.o.size _)|exact eh.o _ ((ee.o.alloc ee.o.size _).drew))
   (first
     |(go_at_call 365;refine(HC.o _ (by with_reducible first|exact HJ.o.drew|exact HJ.o.drew.alloc HJ.o.size _|exact(HJ.o.alloc HJ.o.size _).drew)).mono ?_;rintro e w1⟨_,rfl,hacc,hb⟩;obtain⟨a1,c1,rfl,_⟩:=hacc.bj;have HA:=aV hacc;try(with_reducible(have HX:=aV (oX2 hb)))
       try(with_reducible(have HX:=aV (oX3 hb)))
       have ee:Hd (bC w w1):=(by with_reducible first|exact aV (Gc hb)|exact aV (X8 hb)|exact aV (X9 hb));clear hb hacc)
     |(refine eA (α:=bJ) rfl _ _ _ rfl M w 78 i0 _ 40 underlying51 hi0 hz0 hz1 hz2 rfl (by decide) (.slice a1 c.aW.length c1) c.aW rfl (HA.o.alloc _) (λ_=>True) _ _ (⟨x.aX,x.type,false⟩:bJ) rfl (dj _ _ _ _ rfl trivial) ⟨rfl,gz.o⟩ (by rw[HN.o];unfold maxLen;omega) (by rw[HN.o];omega) (by have:=ee.o.size;simp;omega) ?_;intro a2 c2 w2 cF eD cJ;have dR:=aV cF;have pC:Hd (bC w w2):=(ee.o.alloc ee.o.size _).trans cJ;clear cF eD cJ)
     |(refine eA (α:=bJ) rfl _ _ _ rfl M w 78 i0 _ 40 underlying51 hi0 hz0 hz1 hz2 rfl (by decide) (.slice a1 c.aW.length c1) c.aW rfl HA.o (λ_=>True) _ _ (⟨x.aX,x.type,false⟩:bJ) rfl (VG HX.o rfl trivial) ⟨rfl,gz.o⟩ (by rw[HN.o];unfold maxLen;omega) (by rw[HN.o];omega) ee.o.size ?_;intro a2 c2 w2 cF eD cJ;have dR:=aV cF;have pC:Hd (bC w w2):=ee.o.trans cJ;clear cF eD cJ));all_goals(go_wp2;go_meet)
  all_goals exact⟨aV (by rw[pB.o];exact dR.o.slice hM),pC⟩
 obtain⟨HS,HB⟩:=hcut;have hs:=HS.o.bj;obtain⟨sa,sc,rfl,_⟩:=hs;go_wp2;go_ret;exact⟨_,rfl,HS.o,HB.o⟩
def EE(M:bY)(w:bq)(c:bI)(fv:bt)(x:bK)(a:Int)(f1 f2:Nat)(b1 b2:Array bt)(p:Nat)(hcn:c.aX.size<=maxLen)(h8:c.aW.length<8)
 (hp:cX w p (rE c.aX fv x a true (.func (.func f1) #[] b1) (.func (.func f2) #[] b2)))(hfs:aS M w fv c.aW)(hne:(x.aX.toList==x.more.toList)=false)(hs:hasB c x.aX=false\/x.aX=x.field)(hs2:hasB c x.more=false\/x.more=x.field):
 xC 332 #[xP p] w (di true w):=by
 have iJ:p<w:=(ab.1 hp).1;have HW:=aV (dK hp);have HFa:=ie (w:=w) (λW hb=>wC M W c fv x a true _ _ p x.aX x.field hcn ((hb.block p iJ).trans hp) (hfs.aT hb) hs);have HFb:=ie (w:=w) (λW hb=>wC M W c fv x a true _ _ p x.more x.field hcn ((hb.block p iJ).trans hp) (hfs.aT hb) hs2);have q0:=HW.o.cb;have q1:=HW.o.c1;have q3:=HW.o.c3;have q4:=HW.o.c4;have q5:=HW.o.c5;have q6:=HW.o.cc;have q7:=HW.o.cd;have qf:=oL;have s0:decide (((c.aW.length:Nat):Int)≥8)=false:=by simp;omega
 obtain⟨a0,c0,rfl,dN,hmx,ho⟩:=hfs.bj;have⟨n,hn⟩:=js (c.aW.length);rw[hn]at q1 s0;have eh:Hd (∀W,bC w W->cC W p 3 x.field/\cC W p 4 x.aX/\cC W p 5 x.more/\cC W p 12 (.func (.func f1) #[] b1)/\cC W p 13 (.func (.func f2) #[] b2)):=λW hb=>by
  have h:=HW.o.aT iJ hb;exact⟨h.c3,h.c4,h.c5,h.cc,h.cd⟩
 have HJ:Hd (bC w w):=eH;clear hfs hp ho hs hs2;delta xC;go_in;go_wp2_with fail;go_quiet(fail);have⟨w2,hw2⟩:=dd (w.drewN nq);have HJ:=aV (show bC w w2 by rw[hw2];exact⟨rfl,rfl,rfl,cN,λ_ _=>rfl⟩);rw[<-hw2];have q3:=(eh.o _ HJ.o).1;have q4:=(eh.o _ HJ.o).2.1;have q5:=(eh.o _ HJ.o).2.2.1;have q6:=(eh.o _ HJ.o).2.2.2.1;have q7:=(eh.o _ HJ.o).2.2.2.2;clear hw2;go_upto_region 3 with fail;have HJ2:Hd (bC w w2):=HJ;go_cut [2](λs2 wx=>s2=xB true/\Hd (bC w wx))
 .go_region_held3(λw'=>w'.cell? (p,3)=some (xS x.field)/\w'.cell? (p,4)=some (xS x.aX)/\w'.cell? (p,5)=some (xS x.more)/\w'.cell? (p,12)=some (.func (.func f1) #[] b1)/\w'.cell? (p,13)=some (.func (.func f2) #[] b2))
   (with_reducible first|exact eh.o _ HJ.o|exact eh.o _ HJ.o.drew|exact eh.o _ gN.o|exact eh.o _ gN.o.drew|exact eh.o _ ee.o|exact eh.o _ ee.o.drew)
   (first
     |(go_at_call 364;with_reducible refine dx (HFa.o _ (by with_reducible first|exact HJ.o|exact HJ.o.drew)) λw3 hb=> ?_
       have gN:=aV (show bC w w3 by first|with_reducible exact HJ.o.trans (hb.mono HJ.o.size)|exact HJ.o.drew.trans (hb.mono HJ.o.size));clear hb)
     |(go_at_call 364;with_reducible refine dx (HFb.o _ (by with_reducible first|exact gN.o|exact gN.o.drew)) λw4 hb=> ?_
       have ee:=aV (show bC w w4 by first|with_reducible exact gN.o.trans (hb.mono gN.o.size)|exact gN.o.drew.trans (hb.mono gN.o.size));clear hb));all_goals(go_wp2;go_meet)
  all_goals exact⟨rfl,ee⟩
 obtain⟨rfl,HB⟩:=hcut;go_wp2;go_ret;exact⟨rfl,HB.o⟩
def EF {n:Nat}{xs:List bJ}(h:aS M w (xL a n cap) xs)(hx:xs[i]? =some f):
 ∃g off,a=some ⟨g,off,none⟩/\g<w.heap.size/\cC w g (off+i*4) f.aX/\cC w g (off+i*4+1) f.type.bg/\cC w g (off+i*4+2) f.type.of/\cC w g (off+i*4+3) (xB f.indexed):=by
 have hl:=(ag.1 hx).1;have⟨a',cap',hv,_,_,ho⟩:=h.bj;have⟨b,off,h1,_,h3,h4⟩:=ho (by omega);obtain⟨cs,⟨rfl,_⟩,h5⟩:=h4 i f hx;injection hv with ha _ _;exact⟨b,off,ha.trans h1,h3,h5 0 _ rfl,h5 1 _ rfl,h5 2 _ rfl,h5 3 _ rfl⟩
def EG(M:bY)(w:bq)(c:bI)(fv:bt)(x:bK)(i:Nat)(f:bJ)(g1 g2:bt)(p:Nat)(h8:c.aW.length<=8)(hi:c.aW[i]? =some f)(h3:f.type.bg<=3)
 (hp:cX w p (rE c.aX fv x i true g1 g2))(hfs:aS M w fv c.aW):
 xC 335 #[xP p] w (di true w):=by
 have q0:=(dK hp).cb;have q1:=(dK hp).c1;have q2:=(dK hp).ca;have hl:=(ag.1 hi).1;obtain⟨a0,c0,rfl,dN,hmx,_⟩:=hfs.bj;obtain⟨g,off,rfl,hg,z0,z1,z2,z3⟩:=EF hfs hi;have⟨n,hn⟩:=js (c.aW.length);rw[hn]at hl dN q1 h8;delta xC;go_in;go_wp2_with fail;go_region;all_goals
  go_wp2;go_ret;exact⟨rfl,by first|exact ay _ _|exact eH.drew⟩
def SQ(hc:dE c)(hp:ru c x)(hb:j8 c x=true):Zn x:=by
 have hE:∀s:bS,sA c x.type s->s=⟨#[]⟩\/∃e,fj s.data.toList=some e:=λs h=>by
  rcases h with h|⟨e,h,_⟩
  .exact .inl (gD h)
  exact .inr ⟨e,h⟩
 refine⟨hp.sh,λhk=> ?_,hp.aX,hp.more,hp.type,hE _ hp.dO,hE _ hp.cW,hp.s1,hp.s2,hp.s3⟩;have hh:hasB c x.field=true:=by
  unfold j8 at hb;have hsh:=hp.sh;simp only[ow]at hsh;rw[if_neg hk]at hb;repeat'(split at hb)
  all_goals simp_all
 exact Ds hc.right hh
def zM(k:Int):Nat:=if k=1 then 320 else if k=2 then 323 else if k=3 then 326 else if k=4 then 329 else if k=5 then 332 else 335
def qS(c:bI)(x:bK):Int:=if fieldAt c x.field<0 then 0 else fieldAt c x.field
def Kp {u:bS}(h:(!hasB c s||s.toList==u.toList)=true):hasB c s=false\/s=u:=by
 rw[Bool.or_eq_true]at h;rcases h with h|h
 .exact .inl (by simpa using h)
 exact .inr (rM h)
def SR(M:bY)(w:bq)(c:bI)(hc:dE c)(fv:bt)(x:bK)(hx:ru c x)(hb:j8 c x=true)(f1 f2:Nat)(b1 b2:Array bt)(p:Nat)
 (hp:cX w p (rE c.aX fv x (qS c x) (hasB c x.field) (.func (.func f1) #[] b1) (.func (.func f2) #[] b2)))(hfs:aS M w fv c.aW):
 xC (zM x.bg) #[xP p] w (di true w):=by
 have hcn:=dD hc.small;have h8:=((cw c).1 hc.right).2.1;have hk:x.bg=1\/x.bg=2\/x.bg=3\/x.bg=4\/x.bg=5\/x.bg=6:=by have:=hx.sh;simp only[ow]at this;omega
 unfold j8 at hb;rcases hk with hk|hk|hk|hk|hk|hk<;>rw[hk]at hb⊢
 .simp only[if_true,aF,decide_eq_true_eq,Bool.not_eq_true']at hb;exact Mf M w c fv x _ _ f1 b1 _ p hcn (by omega) hp hfs hb.2
 .have hh:hasB c x.field=true:=by simpa using hb
  rw[hh]at hp;exact It w c.aX fv x _ true _ _ p hp
 .have hh:hasB c x.field=true/\hasB c x.aX=false:=by simpa using hb
  rw[hh.1]at hp;exact Ck M w c fv x _ _ _ p hcn hp hfs hh.2
 .have hh:hasB c x.field=true:=by simpa using hb
  rw[hh]at hp;exact Iu w c.aX fv x _ f1 b1 _ p hp
 .simp only[show¬((5:Int)=1)by decide,show¬((5:Int)=2)by decide,show¬((5:Int)=3)by decide,show¬((5:Int)=4)by decide,if_false,if_true]at hb;rw[aF,aF,aF,aF]at hb;obtain⟨⟨⟨⟨h1,h2⟩,h3⟩,h4⟩,h5⟩:=hb;rw[h1]at hp;have h2:=of_decide_eq_true h2;exact EE M w c fv x _ f1 f2 b1 b2 p hcn (by omega) hp hfs (by simpa using h3) (Kp h4) (Kp h5)
 simp only[show¬((6:Int)=1)by decide,show¬((6:Int)=2)by decide,show¬((6:Int)=3)by decide,show¬((6:Int)=4)by decide,show¬((6:Int)=5)by decide,if_false]at hb;rw[aF]at hb;have⟨i,f,h1,h2,h3⟩:=BR hb.1;have h4:=of_decide_eq_true hb.2;rw[hb.1,show qS c x=(i:Int)by unfold qS;rw[h1,if_neg (by omega)]]at hp;exact EG M w c fv x i f _ _ p (by omega) h2 (by
  unfold xA at h4;rw[h1]at h4;simpa [h2]using h4) hp hfs
def EH {α:Type} [bD α]{l1 l2:List α}(hW:ed W w (xK #[v1,v2] t))(hb:bC w W)(h1:aS M w v1 l1)(h2:aS M w v2 l2):uC M W w [v1,v2] [l1,l2]:=by
 refine⟨rfl,(ab.1 hW).1,λi v hv=> ?_,λi v l hv hl=> ?_⟩
 .simp only[World.cell?,hW];simpa using hv
 match i,hv,hl with
 |0,hv,hl=>cases hv;cases hl;exact h1.aT hb
 |1,hv,hl=>cases hv;cases hl;exact h2.aT hb
 |i+2,hv,hl=>simp at hv
def yF {α:Type} [bD α]{l1 l2 l3:List α}(hW:ed W w (xK #[v1,v2,v3] t))(hb:bC w W)(h1:aS M w v1 l1)(h2:aS M w v2 l2)(h3:aS M w v3 l3):uC M W w [v1,v2,v3] [l1,l2,l3]:=by
 refine⟨rfl,(ab.1 hW).1,λi v hv=> ?_,λi v l hv hl=> ?_⟩
 .simp only[World.cell?,hW];simpa using hv
 match i,hv,hl with
 |0,hv,hl=>cases hv;cases hl;exact h1.aT hb
 |1,hv,hl=>cases hv;cases hl;exact h2.aT hb
 |2,hv,hl=>cases hv;cases hl;exact h3.aT hb
 |i+3,hv,hl=>simp at hv
def SS(M:bY)(w:bq)(hM:Bd M w)(c:bI)(fv:bt)(x:bK)(b:Bool)(g1 g2:bt)(p:Nat)(pre post:List bJ)(f:bJ)(ha:jy c x.field pre f post)(hk:x.bg=2)(h8:c.aW.length<=8)
 (hp:cX w p (rE c.aX fv x pre.length b g1 g2))(hfs:aS M w fv c.aW):
 xG 324 #[xP p] w λv w'=>aS M w' v (dk c x).aW:=by
 have iJ:p<w:=(ab.1 hp).1;have HW:=aV (dK hp);have q1:=HW.o.c1;have q2:=HW.o.ca;have hat:c.aW[pre.length]? =some f:=by rw[ha.eq];simp
 have cE:pre.length<c.aW.length:=(ag.1 hat).1;have pB:=aV (show(dk c x).aW=[c.aW.take pre.length,c.aW.drop (pre.length+1)].flatten by
  rw[gE ha (by omega),ha.eq];simp[jQ,hk]);obtain⟨a0,c0,rfl,dN,hmx,ho⟩:=hfs.bj;obtain⟨fb,off,rfl,_⟩:=ho (by omega);have⟨n,hn⟩:=js (c.aW.length);have⟨i,hi⟩:=js (pre.length);rw[hi]at cE pB q2;rw[hn]at cE q1 dN hfs h8;have JL:Hd (∀W t v1 v2,ed W w (xK #[v1,v2] t)->bC w W->aS M w v1 (c.aW.take i)->aS M w v2 (c.aW.drop (i+1))->_):=λW t v1 v2 h1 h2 h3 h4=>
  pX M W (hM.aT h2) w 2 [v1,v2] [c.aW.take i,c.aW.drop (i+1)] (EH h1 h2 h3 h4) rfl (by simp;omega) (by omega);have re:=aV (hfs.upto hn (k:=i) (by omega));have hs2:=hfs.from_ hn (k:=i+1) (by omega);have s1:i<=c0:=by omega
 have s2:i+1<=n:=by omega
 have s3:i+1<=c0:=by omega
 have s5:(i:Int)<=(i:Int)+1:=by omega
 have s6:IntKind.i64.wrap ((i:Int)+1)=(i:Int)+1:=aw _ (by omega);have s7:(0:Int)<=(i:Int)+1:=by omega
 have s8:(i:Int)+1<=(n:Int):=by omega
 have s9:((i:Int)+1).toNat=i+1:=by omega
 have iy:=aV (show aS M w (xL (if c0=i+1 then some ⟨fb,off,none⟩else some ⟨fb,off+(i+1)*4,none⟩) (n-(i+1)) (c0-(i+1))) (c.aW.drop (i+1))by
  simpa [Addr.add,show bD.size bJ=4 from rfl]using hs2);have⟨ap,hap⟩:=js ((if c0=i+1 then some (⟨fb,off,none⟩:Addr)else some ⟨fb,off+(i+1)*4,none⟩));rw[hap]at iy;clear hfs ha hp hat ho hs2;delta xG;go_in;go_wp2_with fail;go_region_with(go_at_call 367;refine(JL.o _ _ _ _ (by first|exact az w _|exact az w.drew _) (by first|exact cU.drew|exact(ay _ w).drew.alloc cN _) re.o iy.o).mono ?_;rintro e w1⟨_,rfl,hs,hb⟩;have HS:=aV hs;have HB:=aV (show bC w w1 by first|exact(cU.drew).trans (hb.mono (by simp))|exact((ay _ w).drew.alloc cN _).trans (hb.mono (by simp)));clear hs hb);all_goals
  go_wp2;go_ret;exact⟨_,rfl,by rw[pB.o];exact HS.o,HB.o⟩
def zN(h:Nat)(l:List bE)(hl:l.length<=12)(hx:∀x∈l,xX h x)(M:bY)(w:bq)(v:bt)(hM:Bd M w)(hs:aS M w v l):xG 366 #[v] w λv' w'=>bP M w 50 w' v' l:=by
 cases h with
 |zero=>
  exact mU l hl (λx hm=>by
   rw[show x.list=[]from hx x hm];exact lF [] (by simp) λy hy=>by cases hy) M w v hM hs
 |succ h=>exact mU l hl (λx hm=>oH h x.list (hx x hm).1 (hx x hm).2) M w v hM hs
def vw {fs:List bJ}(h:cD fs br vs)(hu:∀x∈us,x∈vs)(hl:us.length<=12)(M:bY)(w:bq)(v:bt)(hM:Bd M w)(hs:aS M w v us):xC 366 #[v] w (de w λv' w'=>bP M w 50 w' v' us):=
 zN 1 us hl (λx hx=>by
  have⟨f,_,hv⟩:=fI h x (hu x hx);exact oG hv) M w v hM hs
def vy(M:bY)(w:bq)(hM:Bd M w)(c:bI)(vv:bt)(x:bK)(br:Int)(p:Nat)(pre post:List bJ)(f:bJ)(vs:List bE)(ha:jy c x.field pre f post)(hk:x.bg=3\/x.bg=6)(h8:c.aW.length<=8)
 (hv:cD c.aW br vs)(hvs:aS M w vv vs):
 xG 328 #[xP p,vv] w λv w'=>∃us,iW c x br vs us/\aS M w' v us:=by
 have hl:vs.length<=12:=by rw[hv.1];omega
 have HC:=aV (lY hv (us:=vs) (λ_ h=>h) hl M w vv hM hvs);have HT:=aV (Lv ha hk hv);obtain⟨a0,c0,rfl,_⟩:=hvs.bj;delta xG;go_in;go_wp2_with fail;refine(HC.o).mono ?_;rintro e w1⟨_,rfl,hs,hb⟩;obtain⟨a1,c1,rfl,_⟩:=hs.bj;have HS:=aV hs;have HB:=aV hb;go_wp2;go_ret;exact⟨_,rfl,⟨_,HT.o,HS.o⟩,HB.o⟩
def oB0(hb:Below (w.alloc o).heap.size (w.alloc o) w'):bC w w':=((ay _ w).alloc cN o).trans (hb.mono (by show w.heap.size<=(w.alloc o).heap.size;simp))
def EI(M:bY)(w:bq)(hM:Bd M w)(c:bI)(fv vv:bt)(x:bK)(b:Bool)(g1 g2:bt)(br:Int)(p:Nat)(pre post:List bJ)(f:bJ)(vs:List bE)(ha:jy c x.field pre f post)(hk:x.bg=2)(h8:c.aW.length<=8)
 (hp:cX w p (rE c.aX fv x pre.length b g1 g2))(hv:cD c.aW br vs)(hvs:aS M w vv vs):
 xG 325 #[xP p,vv] w λv w'=>∃us,iW c x br vs us/\aS M w' v us:=by
 have iJ:p<w:=(ab.1 hp).1;have HW:=aV (dK hp);have hat:c.aW[pre.length]? =some f:=by rw[ha.eq];simp
 have cE:pre.length<vs.length:=by rw[hv.1];exact(ag.1 hat).1
 have h8v:vs.length<=8:=by rw[hv.1];exact h8
 have HT:=aV (Lu ha hk hv);have mQ:=aV hM;obtain⟨a0,c0,rfl,dN,hmx,ho⟩:=hvs.bj;obtain⟨fb,off,rfl,_⟩:=ho (by omega);have⟨n,hn⟩:=js (vs.length);have⟨i,hi⟩:=js (pre.length);rw[hi]at cE HT HW;rw[hn]at cE dN hvs h8v⊢;have hs1:=hvs.upto hn (k:=i) (by omega);have hs2:=hvs.from_ hn (k:=i+1) (by omega);have s1:i<=c0:=by omega
 have s2:i+1<=n:=by omega
 have s3:i+1<=c0:=by omega
 have s5:(i:Int)<=(i:Int)+1:=by omega
 have s6:IntKind.i64.wrap ((i:Int)+1)=(i:Int)+1:=aw _ (by omega);have s7:(0:Int)<=(i:Int)+1:=by omega
 have s8:(i:Int)+1<=(n:Int):=by omega
 have s9:((i:Int)+1).toNat=i+1:=by omega
 have qX:aS M w (xL (if c0=i+1 then some ⟨fb,off,none⟩else some ⟨fb,off+(i+1)*4,none⟩) (n-(i+1)) (c0-(i+1))) (vs.drop (i+1)):=by
  simpa [Addr.add,show bD.size bE=4 from rfl]using hs2
 have⟨ap,hap⟩:=js ((if c0=i+1 then some (⟨fb,off,none⟩:Addr)else some ⟨fb,off+(i+1)*4,none⟩));rw[hap]at qX;have ht1:∀y∈vs.take i,y∈vs:=λy h=>List.mem_of_mem_take h;have ht2:∀y∈vs.drop (i+1),y∈vs:=λy h=>List.mem_of_mem_drop h;have hz1:(vs.take i).length<=12:=by rw[aK];omega
 have hz2:(vs.drop (i+1)).length<=12:=by rw[List.length_drop];omega
 obtain⟨l1,hl1⟩:∃l,vs.take i=l:=⟨_,rfl⟩;obtain⟨l2,hl2⟩:∃l,vs.drop (i+1)=l:=⟨_,rfl⟩;rw[hl1]at hs1 ht1 hz1 HT;rw[hl2]at qX ht2 hz2 HT;have Xi:=ie (w:=w) (λW hb=>lY hv ht1 hz1 M W _ (hM.aT hb) (hs1.aT hb));have Xj:=ie (w:=w) (λW hb=>lY hv ht2 hz2 M W _ (hM.aT hb) (qX.aT hb));have JL:Hd (∀w2 W t v1 v2,Bd M w2->ed W w2 (xK #[v1,v2] t)->bC w2 W->aS M w2 v1 l1->aS M w2 v2 l2->_):=λw2 W t v1 v2 hM2 h1 h2 h3 h4=>
  th M W (hM2.aT h2) w2 2 [v1,v2] [l1,l2] (EH h1 h2 h3 h4) rfl (by simp;omega) (by omega);have eh:Hd (∀W,bC w W->cC W p 10 i):=λW hb=>(HW.o.aT iJ hb).ca;have q1:=(eh.o _ eH);have HJ:Hd (bC w w):=eH;have Gs:=aV (show [l1,l2].flatten=l1++l2 by simp);delta xG;go_in;go_upto_region 1 with fail;go_cut [4](λs4 wx=>Hd (aS M wx s4 (l1++l2)/\bC w wx))
 .go_region_held3(λw'=>w'.cell? (p,10)=some (xI i))
   (with_reducible first|exact eh.o _ pC.o|exact eh.o _ pC.o.drew|exact eh.o _ HJ.o|exact eh.o _ HJ.o.drew|exact eh.o _ gN.o|exact eh.o _ gN.o.drew|exact eh.o _ ee.o|exact eh.o _ ee.o.drew|exact eh.o _ (ee.o.alloc ee.o.size _)|exact eh.o _ ((ee.o.alloc ee.o.size _).drew)|exact eh.o _ (ee.o.drew.alloc ee.o.size _))
   (first
     |(go_at_call 366;with_reducible refine(Xi.o _ (by with_reducible first|exact HJ.o|exact HJ.o.drew)).mono ?_
       rintro e wa⟨_,rfl,hs,hb⟩;obtain⟨a1,c1,rfl,_⟩:=hs.bj;have HSA:=aV hs;have gN:Hd (bC w wa):=(by with_reducible first|exact aV hb|exact aV (Gc hb));clear hb hs)
     |(go_at_call 366;with_reducible refine(Xj.o _ (by with_reducible first|exact gN.o|exact gN.o.drew)).mono ?_
       rintro e wb⟨_,rfl,hs,hb⟩;obtain⟨a2,c2,rfl,_⟩:=hs.bj;have TO:=aV hs;have JM:Hd (bC wa wb):=(by with_reducible first|exact aV hb|exact aV (Gc hb));have ee:Hd (bC w wb):=gN.o.trans (JM.o.mono gN.o.size);have Xk:=aV (HSA.o.aT JM.o);have HMb:=aV (mQ.o.aT ee.o);clear hb hs)
     |(go_at_call 368;refine(JL.o wb _ _ _ _ HMb.o (by first|exact az wb _|exact az wb.drew _) (by first|with_reducible exact(ay _ wb).alloc cN _|exact cU.drew|exact(ay _ wb).drew.alloc cN _) Xk.o TO.o).mono ?_;rintro e w1⟨_,rfl,hs,hb⟩;have HS:=aV hs;have HBC:Hd (bC wb w1):=(by with_reducible first|exact aV (Gc hb)|exact aV (X8 hb)|exact aV (X9 hb)|exact aV (oB0 hb));have pC:Hd (bC w w1):=ee.o.trans (HBC.o.mono ee.o.size);clear hs hb));all_goals(go_wp2;go_meet)
  all_goals exact aV ⟨by rw[<-Gs.o];exact HS.o,pC.o⟩
 have hs:=hcut.o.1.bj;obtain⟨sa,sc,rfl,_⟩:=hs;go_wp2;go_ret;exact⟨_,rfl,⟨_,HT.o,hcut.o.1⟩,hcut.o.2⟩
def Iz(M:bY)(w:bq)(hM:Bd M w)(c:bI)(fv vv:bt)(x:bK)(a:Int)(b:Bool)(g1 g2:bt)(br:Int)(p:Nat)(vs:List bE)(hk:x.bg=1)(h8:c.aW.length<=8)(Gp:bO x.type=true)
 (hp:cX w p (rE c.aX fv x a b g1 g2))(hg:jW M c br x.type x.dO w g1)(hG:Gd w)(hv:cD c.aW br vs)(hvs:aS M w vv vs):
 xG 322 #[xP p,vv] w λv w'=>∃us,iW c x br vs us/\aS M w' v us:=by
 have⟨i0,hi0,hz0,hz1,hz2⟩:=info_parts iD;have iJ:p<w:=(ab.1 hp).1;have HW:=aV (dK hp);have h8v:vs.length<=8:=by rw[hv.1];exact h8
 have HT:=aV (λv(ht:mJ c x.type br x.dO vs v)=>OF hk hv ht);obtain⟨gf,lb,rfl,eg,FU⟩:=hg;have Xi:=ie (w:=w) (λW hb=>vw hv (us:=vs) (λ_ h=>h) (by omega) M W vv (hM.aT hb) (hvs.aT hb));have Xj:Hd (∀(N:bY)W,(∀i,M i->N i)->(∀i,N i->M i\/w.heap.size<=i)->Bd N W->bC w W->_):=λN W h1 h2 h3 hb=>FU Gp N h1 h2 W (bh.bA hb) vv vs (hvs.ev ⟨bh.bA hb,h2⟩) hv h3 (hG.aT hb);have eh:Hd (∀W,bC w W->cC W p 12 (.func (.func gf) #[] lb)):=λW hb=>(HW.o.aT iJ hb).cc;obtain⟨a0,c0,rfl,dN,hmx,ho⟩:=hvs.bj;have q1:=(eh.o _ eH);have HJ:Hd (bC w w):=eH;have mQ:=aV hM;delta xG;go_in;go_upto_region 1 with fail;go_cut [4](λs4 wx=>∃u,mJ c x.type br x.dO vs u/\Hd (aS M wx s4 (vs++[u])/\bC w wx))
 .go_region_held3(λw'=>w'.cell? (p,12)=some (.func (.func gf) #[] lb))
   (with_reducible first|exact eh.o _ pC.o|exact eh.o _ pC.o.drew|exact eh.o _ HJ.o|exact eh.o _ HJ.o.drew|exact eh.o _ gN.o|exact eh.o _ gN.o.drew|exact eh.o _ ee.o|exact eh.o _ ee.o.drew|exact eh.o _ (ee.o.alloc ee.o.size _)|exact eh.o _ ((ee.o.alloc ee.o.size _).drew)|exact eh.o _ (ee.o.drew.alloc ee.o.size _))
   (first
     |(go_at_call 366;with_reducible refine(Xi.o _ (by with_reducible first|exact HJ.o|exact HJ.o.drew)).mono ?_
       rintro e wa⟨_,rfl,hs,hb⟩;obtain⟨a1,c1,rfl,_⟩:=hs.bj;have gN:Hd (bC w wa):=(by with_reducible first|exact aV hb|exact aV (Gc hb));have HA:=aV (hs.le (base':=w.heap.size) cN);have HBd:=aV (B6 HA.o (mQ.o.aT gN.o));have uT:Hd (∀i,M i->cz (xL a1 vs.length c1) M i):=λi h=> .inl h;have zZ:Hd (∀i,cz (xL a1 vs.length c1) M i->M i\/w.heap.size<=i):=λi h=>h.imp_right λh=>(HA.o.dC i h).1;clear hb hs)
     |(refine(Xj.o (cz (xL a1 vs.length c1) M) _ uT.o zZ.o HBd.o (by with_reducible first|exact gN.o|exact gN.o.drew)).mono ?_;rintro e wb⟨_,rfl,⟨⟨yk,yn,ys,yl⟩,hy,cs,rfl,hrep⟩,hb⟩;obtain⟨av,rfl,hsl,hss⟩:=fZ.iff.1 hrep;obtain⟨ya,yc,rfl,_⟩:=hsl.bj;have JM:Hd (bC wa wb):=(by with_reducible first|exact aV hb|exact aV (Gc hb));have ee:Hd (bC w wb):=gN.o.trans (JM.o.mono gN.o.size);have HAb:=aV (HA.o.aT JM.o);have fR:=aV hrep;have HY:=aV hy;clear hb hrep hsl hss hy)
     |(refine eA (α:=bE) rfl _ _ _ rfl M w 50 i0 _ 56 underlying39 hi0 hz0 hz1 hz2 rfl (by decide) (.slice a1 vs.length c1) vs rfl (HAb.o.alloc _) (λ_=>True) _ _ (.mk yk yn ys yl) rfl (dj _ _ _ _ rfl trivial) (bD.ev fR.o (Ev.bA cU)) (by unfold maxLen;omega) (by omega) (by have:=ee.o.size;simp;omega) ?_;intro a2 c2 w2 cF eD cJ;have dR:=aV cF;have pC:Hd (bC w w2):=(ee.o.alloc ee.o.size _).trans cJ;clear cF eD cJ));all_goals(go_wp2;go_meet)
  all_goals exact⟨_,HY.o,aV ⟨dR.o.slice mQ.o,pC.o⟩⟩
 obtain⟨u,ht,hc⟩:=hcut;have hs:=hc.o.1.bj;obtain⟨sa,sc,rfl,_⟩:=hs;go_wp2;go_ret;exact⟨_,rfl,⟨_,HT.o _ ht,hc.o.1⟩,hc.o.2⟩
def AZ {g:bJ}(h:cX w K (xK #[f.aX,f.type.bg,f.type.of,xB f.indexed,g.aX,g.type.bg,g.type.of,xB g.indexed] t))(hM:¬M K)(h1:f.aX.size<=maxLen)(h2:g.aX.size<=maxLen):aS M w (xL (K,0) 2 2) [f,g]:=by
 refine⟨[[xS f.aX,xI f.type.bg,xI f.type.of,xB f.indexed],[xS g.aX,xI g.type.bg,xI g.type.of,xB g.indexed]],⟨rfl,some ⟨K,0,none⟩,2,rfl,cN,by unfold maxLen;omega,λ_=>⟨K,0,rfl,hM,(ab.1 h).1,λj u hu=> ?_⟩⟩,rfl,λi cs x hc hx=> ?_⟩
 .simp only[World.cell?,h,Nat.zero_add];simpa using hu
 match i,hc,hx with
 |0,hc,hx=>cases hc;cases hx;exact⟨rfl,h1⟩
 |1,hc,hx=>cases hc;cases hx;exact⟨rfl,h2⟩
 |i+2,hc,hx=>simp at hc
def PG(M:bY)(w:bq)(hM:Bd M w)(c:bI)(fv:bt)(x:bK)(b:Bool)(g1 g2:bt)(p:Nat)(pre post:List bJ)(f:bJ)(ha:jy c x.field pre f post)(hk:x.bg=5)(No:x.aX.size<=maxLen)(hx3:x.more.size<=maxLen)(h8:c.aW.length<=8)
 (hp:cX w p (rE c.aX fv x pre.length b g1 g2))(hfs:aS M w fv c.aW):
 xG 333 #[xP p] w λv w'=>aS M w' v (dk c x).aW:=by
 have iJ:p<w:=(ab.1 hp).1;have HW:=aV (dK hp);have q1:=HW.o.c1;have q2:=HW.o.ca;have q4:=HW.o.c4;have q5:=HW.o.c5;have q6:=HW.o.c6;have q7:=HW.o.c7;have hat:c.aW[pre.length]? =some f:=by rw[ha.eq];simp
 have cE:pre.length<c.aW.length:=(ag.1 hat).1;have pB:=aV (show(dk c x).aW=[c.aW.take pre.length,[⟨x.aX,x.type,false⟩,⟨x.more,x.type,false⟩],c.aW.drop (pre.length+1)].flatten by
  rw[gE ha (by omega),ha.eq];simp[jQ,hk]);have gz:Hd (x.aX.size<=maxLen/\x.more.size<=maxLen):=⟨No,hx3⟩;have mQ:=aV hM;obtain⟨a0,c0,rfl,dN,hmx,ho⟩:=hfs.bj;obtain⟨fb,off,rfl,_⟩:=ho (by omega);have⟨n,hn⟩:=js (c.aW.length);have⟨i,hi⟩:=js (pre.length);rw[hi]at cE pB q2 HW;rw[hn]at cE q1 dN hfs h8 HW;have JL:Hd (∀w2 W t v1 v2 v3,Bd M w2->ed W w2 (xK #[v1,v2,v3] t)->bC w2 W->aS M w2 v1 (c.aW.take i)->aS M w2 v2 [(⟨x.aX,x.type,false⟩:bJ),⟨x.more,x.type,false⟩]->aS M w2 v3 (c.aW.drop (i+1))->_):=λw2 W t v1 v2 v3 hM2 h1 h2 h3 h4 h5=>
  pX M W (hM2.aT h2) w2 3 [v1,v2,v3] [c.aW.take i,[⟨x.aX,x.type,false⟩,⟨x.more,x.type,false⟩],c.aW.drop (i+1)] (yF h1 h2 h3 h4 h5) rfl (by simp;omega) (by omega);have re:=aV (hfs.upto hn (k:=i) (by omega));have hs2:=hfs.from_ hn (k:=i+1) (by omega);have s1:i<=c0:=by omega
 have s2:i+1<=n:=by omega
 have s3:i+1<=c0:=by omega
 have s5:(i:Int)<=(i:Int)+1:=by omega
 have s6:IntKind.i64.wrap ((i:Int)+1)=(i:Int)+1:=aw _ (by omega);have s7:(0:Int)<=(i:Int)+1:=by omega
 have s8:(i:Int)+1<=(n:Int):=by omega
 have s9:((i:Int)+1).toNat=i+1:=by omega
 have iy:=aV (show aS M w (xL (if c0=i+1 then some ⟨fb,off,none⟩else some ⟨fb,off+(i+1)*4,none⟩) (n-(i+1)) (c0-(i+1))) (c.aW.drop (i+1))by
  simpa [Addr.add,show bD.size bJ=4 from rfl]using hs2);have⟨ap,hap⟩:=js ((if c0=i+1 then some (⟨fb,off,none⟩:Addr)else some ⟨fb,off+(i+1)*4,none⟩));rw[hap]at iy;have eh:Hd (∀W,bC w W->cC W p 1 (xL (fb,off) n c0)/\cC W p 10 i):=λW hb=>by
  have h:=HW.o.aT iJ hb;exact⟨h.c1,h.ca⟩
 clear hfs ha hp hat ho hs2 hM;delta xG;go_in;go_wp2_with fail;go_cut [3](λs3 wx=>∃K:Nat,s3=xL (K,0) 2 2/\Hd (aS M wx (xL (K,0) 2 2) [(⟨x.aX,x.type,false⟩:bJ),⟨x.more,x.type,false⟩]/\bC w wx))
 .have tM:Hd (¬M w):=λh=>by have:=mQ.o _ h;omega
  go_region;all_goals(go_wp2;go_meet)
  all_goals exact⟨_,rfl,aV ⟨by first|exact AZ (az w _) tM.o gz.o.1 gz.o.2|exact AZ (f:=⟨x.aX,x.type,false⟩) (g:=⟨x.more,x.type,false⟩) (az w.drew _) tM.o gz.o.1 gz.o.2,by first|exact cU.drew|exact(ay _ w).drew.alloc cN _⟩⟩
 obtain⟨K,rfl,HV⟩:=hcut;have⟨w2,hw2⟩:=dd (wc);subst hw2;have HSA:=aV (re.o.aT HV.o.2);have TO:=aV (iy.o.aT HV.o.2);have QL:=aV (mQ.o.aT HV.o.2);have pq:Hd (∀W,bC w2 W->cC W p 1 (xL (fb,off) n c0)/\cC W p 10 i):=λW hb=>eh.o _ (HV.o.2.trans (hb.mono HV.o.2.size));have q1:=(pq.o _ eH).1;have q2:=(pq.o _ eH).2;have HJ:Hd (bC w2 w2):=eH;go_upto_region 2 with fail;go_cut [2](λs2 wx=>Hd (aS M wx s2 (dk c x).aW/\bC w2 wx))
 .go_region_held3(λw'=>w'.cell? (p,1)=some (xL (fb,off) n c0)/\w'.cell? (p,10)=some (xI i))
   (with_reducible first|exact pq.o _ pC.o|exact pq.o _ pC.o.drew|exact pq.o _ HJ.o|exact pq.o _ HJ.o.drew|exact pq.o _ (HJ.o.alloc HJ.o.size _)|exact pq.o _ ((HJ.o.alloc HJ.o.size _).drew)|exact pq.o _ (HJ.o.drew.alloc HJ.o.size _))
   ((go_at_call 367;refine(JL.o w2 _ _ _ _ _ QL.o (by first|exact az w2 _|exact az w2.drew _) (by first|exact cU.drew|exact(ay _ w2).drew.alloc cN _) HSA.o HV.o.1 TO.o).mono ?_;rintro e w1⟨_,rfl,hs,hb⟩;have HS:=aV hs;have pC:Hd (bC w2 w1):=(by with_reducible first|exact aV (Gc hb)|exact aV (X8 hb)|exact aV (X9 hb));clear hs hb));all_goals(go_wp2;go_meet)
  all_goals exact aV ⟨by rw[pB.o];exact HS.o,pC.o⟩
 have hs:=hcut.o.1.bj;obtain⟨sa,sc,rfl,_⟩:=hs;go_wp2;go_ret;exact⟨_,rfl,hcut.o.1,HV.o.2.trans (hcut.o.2.mono HV.o.2.size)⟩
def PH {a4 b1 b2 b3 b4:bt}{x1 x2:bE}(h:cX w K (xK #[a1,a2,a3,a4,b1,b2,b3,b4] t))(hM:¬M K)(r1:bD.rep (α:=bE) M w [a1,a2,a3,a4] x1)(r2:bD.rep (α:=bE) M w [b1,b2,b3,b4] x2):aS M w (xL (K,0) 2 2) [x1,x2]:=by
 refine⟨[[a1,a2,a3,a4],[b1,b2,b3,b4]],⟨rfl,some ⟨K,0,none⟩,2,rfl,cN,by unfold maxLen;omega,λ_=>⟨K,0,rfl,hM,(ab.1 h).1,λj u hu=> ?_⟩⟩,rfl,λi cs x hc hx=> ?_⟩
 .simp only[World.cell?,h,Nat.zero_add];simpa using hu
 match i,hc,hx with
 |0,hc,hx=>cases hc;cases hx;exact r1
 |1,hc,hx=>cases hc;cases hx;exact r2
 |i+2,hc,hx=>simp at hc
def Co(M:bY)(w:bq)(hM:Bd M w)(c:bI)(fv vv:bt)(x:bK)(b:Bool)(g1 g2:bt)(br:Int)(p:Nat)(pre post:List bJ)(f:bJ)(vs:List bE)(ha:jy c x.field pre f post)(hk:x.bg=5)(h8:c.aW.length<=8)(Gp:bO x.type=true)(hg:jW M c br x.type x.dO w g1)(hg2:jW M c br x.type x.cW w g2)(hG:Gd w)
 (hp:cX w p (rE c.aX fv x pre.length b g1 g2))(hv:cD c.aW br vs)(hvs:aS M w vv vs):
 xG 334 #[xP p,vv] w λv w'=>∃us,iW c x br vs us/\aS M w' v us:=by
 have iJ:p<w:=(ab.1 hp).1;have HW:=aV (dK hp);have hat:c.aW[pre.length]? =some f:=by rw[ha.eq];simp
 have cE:pre.length<vs.length:=by rw[hv.1];exact(ag.1 hat).1
 have h8v:vs.length<=8:=by rw[hv.1];exact h8
 have HT:Hd (∀u1 u2,mJ c x.type br x.dO vs u1->mJ c x.type br x.cW vs u2->iW c x br vs (vs.take pre.length++u1::u2::vs.drop (pre.length+1))):=λu1 u2 h1 h2=>Hb ha hk hv h1 h2;obtain⟨gf,lb,rfl,eg,FU⟩:=hg;obtain⟨YE,YF,rfl,eg2,qar⟩:=hg2;have HCg:=ie (w:=w) (λW hb=>FU Gp M (λi h=>h) (λi h=> .inl h) W (bh.bA hb) vv vs (hvs.aT hb) hv (hM.aT hb) (hG.aT hb));have HCh:=ie (w:=w) (λW hb=>qar Gp M (λi h=>h) (λi h=> .inl h) W (bh.bA hb) vv vs (hvs.aT hb) hv (hM.aT hb) (hG.aT hb));have tM:Hd (∀W,bC w W->¬M W):=λW hb h=>by have:=hM _ h;have:=hb.size;omega
 have mQ:=aV hM;obtain⟨a0,c0,rfl,dN,hmx,ho⟩:=hvs.bj;obtain⟨fb,off,rfl,_⟩:=ho (by omega);have⟨n,hn⟩:=js (vs.length);have⟨i,hi⟩:=js (pre.length);rw[hi]at cE HT HW;rw[hn]at cE dN hvs h8v HCg HCh⊢;have hs1:=hvs.upto hn (k:=i) (by omega);have hs2:=hvs.from_ hn (k:=i+1) (by omega);have s1:i<=c0:=by omega
 have s2:i+1<=n:=by omega
 have s3:i+1<=c0:=by omega
 have s5:(i:Int)<=(i:Int)+1:=by omega
 have s6:IntKind.i64.wrap ((i:Int)+1)=(i:Int)+1:=aw _ (by omega);have s7:(0:Int)<=(i:Int)+1:=by omega
 have s8:(i:Int)+1<=(n:Int):=by omega
 have s9:((i:Int)+1).toNat=i+1:=by omega
 have qX:aS M w (xL (if c0=i+1 then some ⟨fb,off,none⟩else some ⟨fb,off+(i+1)*4,none⟩) (n-(i+1)) (c0-(i+1))) (vs.drop (i+1)):=by
  simpa [Addr.add,show bD.size bE=4 from rfl]using hs2
 have⟨ap,hap⟩:=js ((if c0=i+1 then some (⟨fb,off,none⟩:Addr)else some ⟨fb,off+(i+1)*4,none⟩));rw[hap]at qX;have ht1:∀y∈vs.take i,y∈vs:=λy h=>List.mem_of_mem_take h;have ht2:∀y∈vs.drop (i+1),y∈vs:=λy h=>List.mem_of_mem_drop h;have hz1:(vs.take i).length<=12:=by rw[aK];omega
 have hz2:(vs.drop (i+1)).length<=12:=by rw[List.length_drop];omega
 obtain⟨l1,hl1⟩:∃l,vs.take i=l:=⟨_,rfl⟩;obtain⟨l2,hl2⟩:∃l,vs.drop (i+1)=l:=⟨_,rfl⟩;rw[hl1]at hs1 ht1 hz1 HT;rw[hl2]at qX ht2 hz2 HT;have Xi:=ie (w:=w) (λW hb=>lY hv ht1 hz1 M W _ (hM.aT hb) (hs1.aT hb));have Xj:=ie (w:=w) (λW hb=>lY hv ht2 hz2 M W _ (hM.aT hb) (qX.aT hb));have JL:Hd (∀u1 u2 w2 W t v1 v2 v3,Bd M w2->ed W w2 (xK #[v1,v2,v3] t)->bC w2 W->aS M w2 v1 l1->aS M w2 v2 [u1,u2]->aS M w2 v3 l2->_):=λu1 u2 w2 W t v1 v2 v3 hM2 h1 h2 h3 h4 h5=>
  th M W (hM2.aT h2) w2 3 [v1,v2,v3] [l1,[u1,u2],l2] (yF h1 h2 h3 h4 h5) rfl (by simp;omega) (by omega);have eh:Hd (∀W,bC w W->cC W p 10 i/\cC W p 12 (.func (.func gf) #[] lb)/\cC W p 13 (.func (.func YE) #[] YF)):=λW hb=>⟨(HW.o.aT iJ hb).ca,(HW.o.aT iJ hb).cc,(HW.o.aT iJ hb).cd⟩;have q1:=(eh.o _ eH).1;have q2:=(eh.o _ eH).2.1;have q3:=(eh.o _ eH).2.2;have HJ:Hd (bC w w):=eH;have Gs:Hd (∀u1 u2:bE,[l1,[u1,u2],l2].flatten=l1++u1::u2::l2):=λu1 u2=>by simp
 clear hvs ha hp hat ho hs1 hs2 qX hM hv ht1 ht2 hl1 hl2 hz1 hz2 FU qar hG;delta xG;go_in;go_upto_region 1 with fail;go_cut [5](λs5 wx=>∃(K:Nat)(u1 u2:bE),s5=xL (K,0) 2 2/\Hd (mJ c x.type br x.dO vs u1/\mJ c x.type br x.cW vs u2)/\Hd (aS M wx (xL (K,0) 2 2) [u1,u2]/\bC w wx))
 .go_region_held3(λw'=>w'.cell? (p,12)=some (.func (.func gf) #[] lb)/\w'.cell? (p,13)=some (.func (.func YE) #[] YF))
   (with_reducible first|exact(eh.o _ HJ.o).2|exact(eh.o _ HJ.o.drew).2|exact(eh.o _ gN.o).2|exact(eh.o _ gN.o.drew).2|exact(eh.o _ ee.o).2|exact(eh.o _ ee.o.drew).2|exact(eh.o _ (ee.o.alloc ee.o.size _)).2|exact(eh.o _ ((ee.o.alloc ee.o.size _).drew)).2|exact(eh.o _ (ee.o.drew.alloc ee.o.size _)).2)
   (first
     |(with_reducible refine(HCg.o _ (by with_reducible first|exact HJ.o|exact HJ.o.drew)).mono ?_
       rintro e wa⟨_,rfl,⟨⟨yk,yn,ys,yl⟩,hy,cs,rfl,hrep⟩,hb⟩;obtain⟨av,rfl,hsl,hss⟩:=fZ.iff.1 hrep;obtain⟨ya,yc,rfl,_⟩:=hsl.bj;have gN:Hd (bC w wa):=(by with_reducible first|exact aV hb|exact aV (Gc hb));have fR:=aV hrep;have HY:=aV hy;clear hb hrep hsl hss hy)
     |(with_reducible refine(HCh.o _ (by with_reducible first|exact gN.o|exact gN.o.drew)).mono ?_
       rintro e wb⟨_,rfl,⟨⟨zk,zn,zs,zl⟩,hy,cs,rfl,hrep⟩,hb⟩;obtain⟨av,rfl,hsl,hss⟩:=fZ.iff.1 hrep;obtain⟨za,zc,rfl,_⟩:=hsl.bj;have JM:Hd (bC wa wb):=(by with_reducible first|exact aV hb|exact aV (Gc hb));have ee:Hd (bC w wb):=gN.o.trans (JM.o.mono gN.o.size);have qas:=aV (bD.ev fR.o (Ev.bA JM.o));have qd8:=aV hrep;have HZ:=aV hy;clear hb hrep hsl hss hy));all_goals(go_wp2;go_meet)
  all_goals exact⟨_,_,_,rfl,aV ⟨HY.o,HZ.o⟩,aV ⟨PH (az wb _) (tM.o _ ee.o) (bD.ev qas.o (Ev.bA cU)) (bD.ev qd8.o (Ev.bA cU)),ee.o.alloc ee.o.size _⟩⟩
 obtain⟨K,u1,u2,rfl,HU,HV⟩:=hcut;have⟨w2,hw2⟩:=dd (wc);subst hw2;have HJ:Hd (bC w w2):=HV.o.2;have q1:=(eh.o _ HJ.o).1;go_upto_region 2 with fail;go_cut [4](λs4 wx=>Hd (aS M wx s4 (l1++u1::u2::l2)/\bC w wx))
 .go_region_held3(λw'=>w'.cell? (p,10)=some (xI i))
   (with_reducible first|exact(eh.o _ pC.o).1|exact(eh.o _ pC.o.drew).1|exact(eh.o _ HJ.o).1|exact(eh.o _ HJ.o.drew).1|exact(eh.o _ gN.o).1|exact(eh.o _ gN.o.drew).1|exact(eh.o _ ee.o).1|exact(eh.o _ ee.o.drew).1|exact(eh.o _ (ee.o.alloc ee.o.size _)).1|exact(eh.o _ ((ee.o.alloc ee.o.size _).drew)).1|exact(eh.o _ (ee.o.drew.alloc ee.o.size _)).1)
   (first
     |(go_at_call 366;with_reducible refine(Xi.o _ (by with_reducible first|exact HJ.o|exact HJ.o.drew)).mono ?_
       rintro e wa⟨_,rfl,hs,hb⟩;obtain⟨a1,c1,rfl,_⟩:=hs.bj;have HSA:=aV hs;have H2A:Hd (bC w2 wa):=(by with_reducible first|exact aV hb|exact aV (Gc hb));have gN:Hd (bC w wa):=HJ.o.trans (H2A.o.mono HJ.o.size);clear hb hs)
     |(go_at_call 366;with_reducible refine(Xj.o _ (by with_reducible first|exact gN.o|exact gN.o.drew)).mono ?_
       rintro e wb⟨_,rfl,hs,hb⟩;obtain⟨a2,c2,rfl,_⟩:=hs.bj;have TO:=aV hs;have JM:Hd (bC wa wb):=(by with_reducible first|exact aV hb|exact aV (Gc hb));have ee:Hd (bC w wb):=gN.o.trans (JM.o.mono gN.o.size);have Xk:=aV (HSA.o.aT JM.o);have HVb:=aV ((HV.o.1.aT H2A.o).aT JM.o);have HMb:=aV (mQ.o.aT ee.o);clear hb hs)
     |(go_at_call 368;refine(JL.o u1 u2 wb _ _ _ _ _ HMb.o (by first|exact az wb _|exact az wb.drew _) (by first|with_reducible exact(ay _ wb).alloc cN _|exact cU.drew|exact(ay _ wb).drew.alloc cN _) Xk.o HVb.o TO.o).mono ?_;rintro e w1⟨_,rfl,hs,hb⟩;have HS:=aV hs;have HBC:Hd (bC wb w1):=(by with_reducible first|exact aV (Gc hb)|exact aV (X8 hb)|exact aV (X9 hb)|exact aV (oB0 hb));have pC:Hd (bC w w1):=ee.o.trans (HBC.o.mono ee.o.size);clear hs hb));all_goals(go_wp2;go_meet)
  all_goals exact aV ⟨by rw[<-Gs.o];exact HS.o,pC.o⟩
 have hs:=hcut.o.1.bj;obtain⟨sa,sc,rfl,_⟩:=hs;go_wp2;go_ret;exact⟨_,rfl,⟨_,HT.o _ _ HU.o.1 HU.o.2,hcut.o.1⟩,hcut.o.2⟩
def Kq {n:Nat}{xs:List bE}(h:bP M base e w (xL a n cap) xs){x:bE}(hx:xs[i]? =some x):
 ∃g c0 c1 c2 c3,a=some ⟨g,0,none⟩/\base<=g/\g<w.heap.size/\(w.cell? (g,i*4)=some c0/\w.cell? (g,i*4+1)=some c1/\w.cell? (g,i*4+2)=some c2/\w.cell? (g,i*4+3)=some c3)/\∀j,w.frozen? ⟨g,j,none⟩=false:=by
 obtain⟨css,h1,h2,h3⟩:=h;have wJ:=(ag.1 hx).1;have⟨cs,hcs⟩:=fg css i (by omega);have hlen:∀(k:Nat)(c:List Value),css[k]? =some c->c.length=4:=λk c hc=>by
  have⟨z,hz⟩:=fg xs k (by rw[<-h2];exact(ag.1 hc).1);exact bD.len (h3 k c z hc hz)
 obtain⟨hl,hv|⟨g,cap',cur,hv,hg,hh,hn,hm,hs,JH⟩⟩:=h1
 .have:=hv.2;omega
 injection hv with ha hn' hc';have hgl:=(ab.1 hh).1;have G:∀(j:Nat)(u:Value),cs[j]? =some u->w.cell? (g,i*4+j)=some u:=λj u hj=>by
  have h4:=jt hlen i cs j u hcs hj;rw[<-JH]at h4;have h5:cur.toList[i*4+j]? =some u:=by
   rw[List.getElem?_take]at h4;split at h4
   .exact h4
   cases h4
  simp only[World.cell?,hh];simpa using h5
 obtain⟨k,n,s,l⟩:=x;obtain⟨lv,rfl,_⟩:=fZ.iff.1 (h3 i cs _ hcs hx);exact⟨g,_,_,_,_,ha,hg,hgl,⟨G 0 _ rfl,G 1 _ rfl,G 2 _ rfl,G 3 _ rfl⟩,λj=>aY hh j⟩
def bP.val {n:Nat}{xs:List bE}(h:bP M base e w (xL (g,0) n cap) xs)(hi:i<xs.length){k m:Int}{ca:Nat}
 (hl:aS (cz (xL (g,0) n cap) M) w (xL a l.length ca) l)(hs:s.size<=maxLen):
 bP M base e ((((w.setCell (g,i*4) k).setCell (g,i*4+1) m).setCell (g,i*4+2) s).setCell (g,i*4+3) (xL a l.length ca)) (xL (g,0) n cap) (xs.set i (.mk k m s l)):=by
 have⟨⟨k0,m0,s0,l0⟩,hx⟩:=fg xs i hi;have BG:∀y:bE,(xs.set i y)[i]? =some y:=λy=>List.getElem?_set_self hi;have A1:=bP.cell h hx (j:=0) (by decide) k (y:= .mk k m0 s0 l0) (λcs W hr _=>by
  obtain⟨lv,rfl,h1,h2⟩:=fZ.iff.1 hr;exact fZ.iff.2 ⟨lv,rfl,h1,h2⟩);have A2:=bP.cell A1 (BG _) (j:=1) (by decide) m (y:= .mk k m s0 l0) (λcs W hr _=>by
  obtain⟨lv,rfl,h1,h2⟩:=fZ.iff.1 hr;exact fZ.iff.2 ⟨lv,rfl,h1,h2⟩);rw[List.set_set]at A2;have A3:=bP.cell A2 (BG _) (j:=2) (by decide) s (y:= .mk k m s l0) (λcs W hr _=>by
  obtain⟨lv,rfl,h1,h2⟩:=fZ.iff.1 hr;exact fZ.iff.2 ⟨lv,rfl,h1,hs⟩);rw[List.set_set]at A3;have RW:=hl.ev ((((Ev.refl _ _).setCell (p:=⟨g,i*4,none⟩) (.inl (.inr rfl)) k).setCell (p:=⟨g,i*4+1,none⟩) (.inl (.inr rfl)) m).setCell (p:=⟨g,i*4+2,none⟩) (.inl (.inr rfl)) s);have A4:=bP.cell A3 (BG _) (j:=3) (by decide) (xL a l.length ca) (y:= .mk k m s l) (λcs W hr hE=>by
  obtain⟨lv,rfl,h1,h2⟩:=fZ.iff.1 hr;exact fZ.iff.2 ⟨_,rfl,RW.ev hE,h2⟩);rw[List.set_set]at A4;exact A4
def EJ(M:bY)(w:bq)(hM:Bd M w)(c:bI)(fv vv:bt)(x:bK)(b:Bool)(g1 g2:bt)(br:Int)(p:Nat)(pre post:List bJ)(f:bJ)(vs:List bE)(ha:jy c x.field pre f post)(hk:x.bg=4)(h8:c.aW.length<=8)(Gp:bO x.type=true)
 (hg:jW M c br x.type x.dO w g1)(hG:Gd w)(hp:cX w p (rE c.aX fv x pre.length b g1 g2))(hv:cD c.aW br vs)(hvs:aS M w vv vs):
 xG 331 #[xP p,vv] w λv w'=>∃us,iW c x br vs us/\aS M w' v us:=by
 have iJ:p<w:=(ab.1 hp).1;have HW:=aV (dK hp);have hat:c.aW[pre.length]? =some f:=by rw[ha.eq];simp
 have cE:pre.length<vs.length:=by rw[hv.1];exact(ag.1 hat).1
 have h8v:vs.length<=8:=by rw[hv.1];exact h8
 have HT:Hd (∀v,mJ c x.type br x.dO vs v->iW c x br vs (vs.set pre.length v)):=λv h1=>by
  rw[List.set_eq_take_append_cons_drop,if_pos cE];exact Lw ha hk hv h1
 obtain⟨gf,lb,rfl,eg,FU⟩:=hg;have Xi:=aV (vw hv (us:=vs) (λ_ h=>h) (by omega) M w vv hM hvs);have Xj:Hd (∀(N:bY)W,(∀i,M i->N i)->(∀i,N i->M i\/w.heap.size<=i)->Bd N W->bC w W->_):=λN W h1 h2 h3 hb=>FU Gp N h1 h2 W (bh.bA hb) vv vs (hvs.ev ⟨bh.bA hb,h2⟩) hv h3 (hG.aT hb);have eh:Hd (∀W,bC w W->cC W p 10 pre.length/\cC W p 12 (.func (.func gf) #[] lb)):=λW hb=>⟨(HW.o.aT iJ hb).ca,(HW.o.aT iJ hb).cc⟩;have⟨y0,hy0⟩:=fg vs pre.length cE;have HY0:=aV hy0;have mQ:=aV hM;have⟨i,hi⟩:=js (pre.length);rw[hi]at cE HT eh HY0;obtain⟨a0,c0,rfl,dN,hmx,ho⟩:=hvs.bj;delta xG;go_in;go_wp2_with fail;refine(Xi.o).mono ?_;rintro e wa⟨_,rfl,hs,hb⟩;obtain⟨a1,c1,rfl,_⟩:=hs.bj;have HA:=aV hs;have gN:=aV hb;obtain⟨g,_,_,_,_,rfl,hgw,_⟩:=Kq hs HY0.o;have HBd:=aV (B6 HA.o (mQ.o.aT gN.o));have uT:Hd (∀i,M i->cz (xL (g,0) vs.length c1) M i):=λi h=> .inl h;have zZ:Hd (∀i,cz (xL (g,0) vs.length c1) M i->M i\/w.heap.size<=i):=λi h=>h.imp_right λh=>(HA.o.dC i h).1;have q1:=(eh.o _ gN.o).1;have q2:=(eh.o _ gN.o).2;go_upto_region 2 with fail;go_region_law(first
  |(try go_simp
    go_loud(refine(Xj.o (cz (xL (g,0) vs.length c1) M) wa.drew uT.o zZ.o HBd.o gN.o.drew).mono ?_);rintro e wb⟨_,rfl,⟨⟨yk,yn,ys,yl⟩,hy,cs,rfl,hrep⟩,hb⟩;obtain⟨av,rfl,hsl,hss⟩:=fZ.iff.1 hrep;obtain⟨ya,yc,rfl,_⟩:=hsl.bj;have JM:Hd (bC wa wb):=(by with_reducible first|exact aV hb|exact aV (Gc hb));have ee:Hd (bC w wb):=gN.o.trans (JM.o.mono gN.o.size);have HAb:=aV (HA.o.aT JM.o);have gS:=aV hsl;have nS:=aV hss;have HY:=aV hy;have k1:=(eh.o _ ee.o).1;have k2:=(eh.o _ ee.o).2;have⟨gb,v0,v1,v2,v3,hge,_,_,⟨z0,z1,z2,z3⟩,hfr⟩:=Kq HAb.o HY0.o;obtain rfl:g=gb:=by injection hge with hge;injection hge
    have f0:=hfr (i*4);have f1:=hfr (i*4+1);have f2:=hfr (i*4+2);have f3:=hfr (i*4+3);clear hb hrep hsl hss hy hfr));all_goals
  go_wp2;go_ret;exact⟨_,rfl,⟨_,HT.o _ HY.o,(bP.val HAb.o cE gS.o nS.o).slice mQ.o⟩,(((ee.o.setCell (p:=⟨g,i*4,none⟩) hgw _).setCell (p:=⟨g,i*4+1,none⟩) hgw _).setCell (p:=⟨g,i*4+2,none⟩) hgw _).setCell (p:=⟨g,i*4+3,none⟩) hgw _⟩
def vU(k:Int):Nat:=if k=1 then 321 else if k=2 then 324 else if k=3 then 327 else if k=4 then 330 else if k=5 then 333 else 336
def tu(k:Int):Nat:=if k=1 then 322 else if k=2 then 325 else if k=3 then 328 else if k=4 then 331 else if k=5 then 334 else 328
def A0(h:qE w b p){k:Int}(hk:k=1\/k=2\/k=3\/k=4\/k=5\/k=6):(Instr.lookup 370 (.map (some b)) k false).run prog w= .ok (ki p (zM k) (vU k) (tu k)) w:=by
 obtain⟨es,clk,h0,h1,h2,h3,h4,h5,h6⟩:=h;rcases hk with rfl|rfl|rfl|rfl|rfl|rfl
 .exact lO h0 _ _ h1
 .exact lO h0 _ _ h2
 .exact lO h0 _ _ h3
 .exact lO h0 _ _ h4
 .exact lO h0 _ _ h5
 exact lO h0 _ _ h6
def EK(hb:j8 c x=true)(hk:x.bg≠1):hasB c x.field=true:=by
 unfold j8 at hb;rw[if_neg hk]at hb;repeat'(split at hb)
 all_goals simp_all
def IA(M:bY)(w:bq)(hM:Bd M w)(c:bI)(hc:dE c)(fv:bt)(x:bK)(hx:ru c x)(hb:j8 c x=true)(g1 g2:bt)(p:Nat)
 (hp:cX w p (rE c.aX fv x (qS c x) (hasB c x.field) g1 g2))(hfs:aS M w fv c.aW):
 xC (vU x.bg) #[xP p] w (de w λv w'=>aS M w' v (dk c x).aW):=by
 have h8:=((cw c).1 hc.right).2.1;have KI:c.aW.length<=8:=by omega
 by_cases h1:x.bg=1
 .rw[h1];exact VH M w hM c fv x _ _ _ _ p h1 hx.s2 KI hp hfs
 have hh:=EK hb h1;have⟨pre,f,post,ha⟩:=ox hc.right hh;rw[hh,show qS c x=(pre.length:Int)by unfold qS;rw[ha.at_,if_neg (by omega)]]at hp;have hk:x.bg=2\/x.bg=3\/x.bg=4\/x.bg=5\/x.bg=6:=by have:=hx.sh;simp only[ow]at this;omega
 rcases hk with hk|hk|hk|hk|hk<;>rw[hk]
 .exact SS M w hM c fv x _ _ _ p pre post f ha hk KI hp hfs
 .exact Mc M w hM c fv x _ _ _ p pre post f ha hk hx.s2 KI hp hfs
 .exact Pz M w hM c fv x _ _ _ p pre post f ha hk KI hp hfs
 .exact PG M w hM c fv x _ _ _ p pre post f ha hk hx.s2 hx.s3 KI hp hfs
 exact Md M w hM c fv x _ _ _ p pre post f ha hk KI hp hfs
def PI(M:bY)(w:bq)(hM:Bd M w)(c:bI)(hc:dE c)(fv vv:bt)(x:bK)(hx:ru c x)(hb:j8 c x=true)(g1 g2:bt)(br:Int)(p:Nat)(vs:List bE)
 (hg:jW M c br x.type x.dO w g1)(hg2:jW M c br x.type x.cW w g2)(hG:Gd w)
 (hp:cX w p (rE c.aX fv x (qS c x) (hasB c x.field) g1 g2))(hv:cD c.aW br vs)(hvs:aS M w vv vs):
 xC (tu x.bg) #[xP p,vv] w (de w λv w'=>∃us,iW c x br vs us/\aS M w' v us):=by
 have h8:=((cw c).1 hc.right).2.1;have KI:c.aW.length<=8:=by omega
 by_cases h1:x.bg=1
 .rw[h1];exact Iz M w hM c fv vv x _ _ _ _ br p vs h1 KI (hx.type (.inl h1)) hp hg hG hv hvs
 have hh:=EK hb h1;have⟨pre,f,post,ha⟩:=ox hc.right hh;rw[hh,show qS c x=(pre.length:Int)by unfold qS;rw[ha.at_,if_neg (by omega)]]at hp;have hk:x.bg=2\/x.bg=3\/x.bg=4\/x.bg=5\/x.bg=6:=by have:=hx.sh;simp only[ow]at this;omega
 rcases hk with hk|hk|hk|hk|hk<;>rw[hk]
 .exact EI M w hM c fv vv x _ _ _ br p pre post f vs ha hk KI hp hv hvs
 .exact vy M w hM c vv x br p pre post f vs ha (.inl hk) KI hv hvs
 .exact EJ M w hM c fv vv x _ _ _ br p pre post f vs ha hk KI (hx.type (.inr (.inl hk))) hg hG hp hv hvs
 .exact Co M w hM c fv vv x _ _ _ br p pre post f vs ha hk KI (hx.type (.inr (.inr hk))) hg hg2 hG hp hv hvs
 exact vy M w hM c vv x br p pre post f vs ha (.inr hk) KI hv hvs
def Cp(a b c:bt):Obj:=xK #[a,b,c] 312
def VI(M:bY)(w:bq)(n K:Nat):Nat->Prop:=λi=>eo M w n i\/i=K
def IB {w:bq}{n K:Nat}(hM:Bd M w)(h:w.heap.size+n<=W)(hK:K<W):Bd (VI M w n K) W:=λi hi=>by
 rcases hi with hi|rfl
 .exact dZ hM h i hi
 exact hK
def IC {w:bq}{n K:Nat}(h:bC w W)(hK:w<=K):Ev M w (VI M w n K) W:=⟨bh.bA h,λi hi=>by
 rcases hi with(hi|hi)|rfl
 .exact .inl hi
 .exact .inr hi.1
 exact .inr hK⟩
structure qT(w:bq)(os:List Obj)(K:Nat)(nm:bS)(fv:bt)(x:bK)(a:Int)(b:Bool)(g1 g2:bt)(wr:bq):Prop where
 bx:Bx w os wr
 blk:wr.heap[K]? =some (rE nm fv x a b g1 g2)
 hK:w.heap.size+os.length<=K
section
variable {w:bq}{os:List Obj}{K:Nat}{nm:bS}{fv:bt}{x:bK}{a a':Int}{b b':Bool}{g1 g2 g':bt}{wr wx:bq}
def qT.aT(h:qT w os K nm fv x a b g1 g2 wr)(k:bC wr wx):qT w os K nm fv x a b g1 g2 wx:=
 ⟨h.bx.aT k,(k.block K (ab.1 h.blk).1).trans h.blk,h.hK⟩
def qT.lt(h:qT w os K nm fv x a b g1 g2 wr):K<wr:=(ab.1 h.blk).1
def qT.setAt(h:qT w os K nm fv x a b g1 g2 wr)(hW:wx=(wr.setCell (K,10) a').setCell (K,11) b'):qT w os K nm fv x a' b' g1 g2 wx/\bh (λi=>i=K) wr wx:=by
 subst hW;refine⟨⟨h.bx.ej (B:=K) ((eH.setCell (ae K) _).setCell (ae K) _) h.hK,?_,h.hK⟩,((bh.refl (λi=>i=K) wr).setCell (p:=⟨K,10,none⟩) (.inl rfl) _).setCell (p:=⟨K,11,none⟩) (.inl rfl) _⟩;have h1:=aA wr K 10 _ _ a' h.blk;have h2:=aA _ K 11 _ _ b' h1;simpa [rE]using h2
def qT.Zo(h:qT w os K nm fv x a b g1 g2 wr)(hW:wx=wr.setCell (K,12) g'):qT w os K nm fv x a b g' g2 wx/\bh (λi=>i=K) wr wx:=by
 subst hW;refine⟨⟨h.bx.ej (B:=K) (eH.setCell (ae K) _) h.hK,?_,h.hK⟩,(bh.refl (λi=>i=K) wr).setCell (p:=⟨K,12,none⟩) (.inl rfl) _⟩;have h1:=aA wr K 12 _ _ g' h.blk;simpa [rE]using h1
def qT.Pq(h:qT w os K nm fv x a b g1 g2 wr)(hW:wx=wr.setCell (K,13) g'):qT w os K nm fv x a b g1 g' wx/\bh (λi=>i=K) wr wx:=by
 subst hW;refine⟨⟨h.bx.ej (B:=K) (eH.setCell (ae K) _) h.hK,?_,h.hK⟩,(bh.refl (λi=>i=K) wr).setCell (p:=⟨K,13,none⟩) (.inl rfl) _⟩;have h1:=aA wr K 13 _ _ g' h.blk;simpa [rE]using h1
end
def EL {k:Int}:∀args w,(callFunc (zM k) args).run prog w= .ok (.enter (zM k) args) w:=by
 unfold zM;repeat' split
 .exact enters_of func320 (by kernel_rfl) rfl
 .exact enters_of func323 (by kernel_rfl) rfl
 .exact enters_of func326 (by kernel_rfl) rfl
 .exact enters_of func329 (by kernel_rfl) rfl
 .exact enters_of func332 (by kernel_rfl) rfl
 exact enters_of func335 (by kernel_rfl) rfl
def EM {k:Int}:∀args w,(callFunc (vU k) args).run prog w= .ok (.enter (vU k) args) w:=by
 unfold vU;repeat' split
 .exact enters_of func321 (by kernel_rfl) rfl
 .exact enters_of func324 (by kernel_rfl) rfl
 .exact enters_of func327 (by kernel_rfl) rfl
 .exact enters_of func330 (by kernel_rfl) rfl
 .exact enters_of func333 (by kernel_rfl) rfl
 exact enters_of func336 (by kernel_rfl) rfl
def EN {k:Int}:∀args w,(callFunc (tu k) args).run prog w= .ok (.enter (tu k) args) w:=by
 unfold tu;repeat' split
 .exact enters_of func322 (by kernel_rfl) rfl
 .exact enters_of func325 (by kernel_rfl) rfl
 .exact enters_of func328 (by kernel_rfl) rfl
 .exact enters_of func331 (by kernel_rfl) rfl
 .exact enters_of func334 (by kernel_rfl) rfl
 exact enters_of func328 (by kernel_rfl) rfl
def cO.aT {α:Type} [DecidableEq α]{K:α->bt}{w:bq}{b:Nat}{es:List (α×bt×Nat)}(h:cO K w b es clk)(hb:bC w w'):cO K w' b es clk:=
 (hb.block b (ab.1 h).1).trans h
def qE.aT {w:bq}{b:Nat}(h:qE w b p)(hb:bC w w'):qE w' b p:=by
 obtain⟨es,clk,h0,h1⟩:=h;exact⟨es,clk,h0.aT hb,h1⟩
def A5 {K:Nat}(h:cX W K (xK #[c0,c1,c2] t))(a0 a1 a2:bt):(((W.setCell (K,0) a0).setCell (K,1) a1).setCell (K,2) a2).heap[K]? =some (xK #[a0,a1,a2] t):=by
 have h1:=aA _ K 0 _ _ a0 h;have h2:=aA _ K 1 _ _ a1 h1;have h3:=aA _ K 2 _ _ a2 h2;simpa using h3
def oM {K:Nat}{w:bq}(h:Below B w W)(hK:B<=K):Below B w (((W.setCell (K,0) a0).setCell (K,1) a1).setCell (K,2) a2):=((h.setCell hK _).setCell hK _).setCell hK _
structure VJ(W8:bq)(L:Nat)(a b c:bt)(wx:bq):Prop where
 blk:wx.heap[L]? =some (Cp a b c)
 aT:bC W8 wx
 hL:W8<=L
def ID {W8 w9:bq}{a b c:bt}(hj:bC W8 w9):VJ W8 w9 a b c (w9.alloc (xK #[a,b,c] 312)):=⟨az w9 _,hj.alloc hj.size _,hj.size⟩
def PJ {W8 w9:bq}{L:Nat}{a b c x y z:bt}(hj:bC W8 w9)(hx:cX w9 L (xK #[x,y,z] 312))(hL:W8<=L):VJ W8 L a b c (((w9.setCell (L,0) a).setCell (L,1) b).setCell (L,2) c):=⟨A5 hx _ _ _,oM hj hL,hL⟩
def VK(M:bY)(c:bI)(br:Int)(x:bK)(fv:bt)(w:bq)(v:bt)(w':bq):Prop:=
 ∃(p:Nat)(g1 g2:bt)(N:bY),v= .tuple #[ki p (zM x.bg) (vU x.bg) (tu x.bg),true]/\(∀i,M i->N i)/\(∀i,N i->M i\/w.heap.size<=i)/\Bd N w'/\
  jW N c br x.type x.dO w' g1/\jW N c br x.type x.cW w' g2/\w'.heap[p]? =some (rE c.aX fv x (qS c x) (hasB c x.field) g1 g2)
def EO(M:bY)(w:bq)(hM:Bd M w)(c:bI)(hc:dE c)(br:Int)(hm:br<=100000)(x:bK)(hx:jR c x)(hb:j8 c x=true)(fv:bt)(hfs:aS M w fv c.aW)(hT:Tb w):
 xG 229 #[.agg #[c.aX,fv], .agg #[x.bg,x.field,x.aX,x.more,x.type.bg,x.type.of,x.dO,x.cW]] w (VK M c br x fv w):=by
 have HM:=aV hM;have jL:=aV hfs;have hcn:=dD hc.small;have HR:Hd (∀W,bC w W->xC 50 #[.agg #[c.aX,fv]] W (di true W)):=λW hb=>by
  have h:=iA M fv W c (hfs.aT hb) hcn;rw[hc.right]at h;exact h
 have HWF:=ie (w:=w) (λW h=>zK x (SQ hc hx.pre hb) W (hT.aT h));have HF:=ie (w:=w) (λW h=>nr M fv W c x.field (qS c x) (hasB c x.field) (hfs.aT h) hcn rfl rfl);have zz:Hd (∀K W,w.heap.size+3<=K->K<W.heap.size->bC w W->_):=λK W h1 h2 h3=>AR c hc br hm x.type x.dO hx.dO (VI M w 3 K) W fv (IB hM (by omega) h2) (hfs.ev (IC h3 (by omega))) (hT.aT h3);have QI:Hd (∀K W,w.heap.size+3<=K->K<W.heap.size->bC w W->_):=λK W h1 h2 h3=>AR c hc br hm x.type x.cW hx.cW (VI M w 3 K) W fv (IB hM (by omega) h2) (hfs.ev (IC h3 (by omega))) (hT.aT h3);have HMY:Hd (∀(N:bY)W(f1 f2:Nat)(b1 b2:Array bt)(p:Nat),aS N W fv c.aW->cX W p (rE c.aX fv x (qS c x) (hasB c x.field) (.func (.func f1) #[] b1) (.func (.func f2) #[] b2))->_):=λN W f1 f2 b1 b2 p h1 h2=>SR N W c hc fv x hx.pre hb f1 f2 b1 b2 p h2 h1;have hk:x.bg=1\/x.bg=2\/x.bg=3\/x.bg=4\/x.bg=5\/x.bg=6:=by have:=hx.pre.sh;simp only[ow]at this;omega
 have UN:=aV hk;obtain⟨fa,fc,rfl,_⟩:=hfs.bj;have dp:=aV (Bx.iN w (dP c.aX (xL fa c.aW.length fc)) (tQ x) (Cp .nilFunc .nilFunc .nilFunc));clear hfs hM hT hx hb hc hk;delta xG;go_in;go_wp2_with fail;refine dx (HR.o _ dp.o.1) λw1 hb1=> ?_;have cu:=aV (dp.o.aT hb1);have⟨p0,p1,p2,p3,p4,p5,p6,p7⟩:=bz (cu.o.cZ rfl);clear hb1;go_wp2_with fail;refine dx (HWF.o _ cu.o.1) λw2 cJ=> ?_;have bZ:=aV (cu.o.aT cJ);clear cJ p0 p1 p2 p3 p4 p5 p6 p7;have⟨p0,p1,p2,p3,p4,p5,p6,p7⟩:=bz (bZ.o.cZ rfl);have⟨c0,c1⟩:=aZ (bZ.o.cP rfl);go_upto_region 4 with fail;have⟨K,hK⟩:=js (w2.heap.size);have⟨W,hW⟩:=dd (w2.alloc (rE c.aX (xL fa c.aW.length fc) x 0 false .nilFunc .nilFunc));have HS:Hd (qT w [dP c.aX (xL fa c.aW.length fc),tQ x,Cp .nilFunc .nilFunc .nilFunc] K c.aX (xL fa c.aW.length fc) x 0 false .nilFunc .nilFunc W):=⟨by rw[hW];exact bZ.o.alloc _,by rw[hW,<-hK];exact az w2 _,by have:=bZ.o.cM;omega⟩;unfold rE at hW;rw[<-hW,hK];clear hW p0 p1 p2 p3 p4 p5 p6 p7 c0 c1;have⟨p0,p1,p2,p3,p4,p5,p6,p7⟩:=bz (HS.o.bx.cZ rfl);have⟨c0,c1⟩:=aZ (HS.o.bx.cP rfl);go_wp2_with fail;refine dx (HF.o _ HS.o.bx.1) λw3 hb3=> ?_;have jM:=aV (HS.o.aT hb3);have f10:=aY jM.o.blk 10;have f11:=aY jM.o.blk 11;have k10:=(dK jM.o.blk).ca;have k11:=(dK jM.o.blk).cb;have TP:=jM.o.lt;have WN:=jM.o.hK;simp only[aC,aD]at WN;clear hb3 p0 p1 p2 p3 p4 p5 p6 p7 c0 c1 bZ cu dp hK;have⟨p0,p1,p2,p3,p4,p5,p6,p7⟩:=bz (jM.o.bx.cZ rfl);have⟨c0,c1⟩:=aZ (jM.o.bx.cP rfl);have n0:w≠K:=by omega
 have n1:w.heap.size+1≠K:=by omega
 have n2:w.heap.size+1+1≠K:=by omega
 go_upto_region 5 with fail;have⟨W4,hW4⟩:=dd ((w3.setCell (K,10) (qS c x)).setCell (K,11) (xB (hasB c x.field)));have qZ:=aV (jM.o.setAt hW4).1;rw[<-hW4];have HN:=aV (show↑w+3<=K by omega);clear hW4 jM HS f10 f11 k10 k11 TP p0 p1 p2 p3 p4 p5 p6 p7 c0 c1;have⟨p0,p1,p2,p3,p4,p5,p6,p7⟩:=bz (qZ.o.bx.cZ rfl);have⟨c0,c1⟩:=aZ (qZ.o.bx.cP rfl);go_wp2_with fail;refine(zz.o K _ HN.o qZ.o.lt qZ.o.bx.1).mono ?_;rintro e w5⟨g1,rfl,ht1,iz⟩;have qd9:=ht1;obtain⟨gf1,lb1,rfl,_⟩:=qd9;have mu:=aV (qZ.o.aT iz);have HA5:=aV ht1;have f12:=aY mu.o.blk 12;have k12:=(dK mu.o.blk).cc;have TP:=mu.o.lt;clear p0 p1 p2 p3 p4 p5 p6 p7 c0 c1;clear iz ht1;go_upto_region 6 with fail;have⟨W6,hW6⟩:=dd (w5.setCell (K,12) (.func (.func gf1) #[] lb1));have vL:=aV (mu.o.Zo hW6).1;have HA6:=aV (HA5.o.only ((mu.o.Zo hW6).2.mono λi hi=> .inr hi));rw[<-hW6];clear hW6 mu HA5 qZ f12 k12 TP;have⟨p0,p1,p2,p3,p4,p5,p6,p7⟩:=bz (vL.o.bx.cZ rfl);have⟨c0,c1⟩:=aZ (vL.o.bx.cP rfl);go_wp2_with fail;refine(QI.o K _ HN.o vL.o.lt vL.o.bx.1).mono ?_;rintro e w7⟨g2,rfl,ht2,gw⟩;have qea:=ht2;obtain⟨YE,YF,rfl,_⟩:=qea;have Ae:=aV (vL.o.aT gw);have HA7:=aV (HA6.o.only (bh.bA gw));have HC7:=aV ht2;have f13:=aY Ae.o.blk 13;have k13:=(dK Ae.o.blk).cd;have TP:=Ae.o.lt;clear gw ht2 p0 p1 p2 p3 p4 p5 p6 p7 c0 c1;go_upto_region 7 with fail;have⟨W8,hW8⟩:=dd (w7.setCell (K,13) (.func (.func YE) #[] YF));have YG:=aV (Ae.o.Pq hW8).1;have HA8:=aV (HA7.o.only ((Ae.o.Pq hW8).2.mono λi hi=> .inr hi));have UO:=aV (HC7.o.only ((Ae.o.Pq hW8).2.mono λi hi=> .inr hi));rw[<-hW8];clear hW8 Ae HA7 HC7 vL HA6 f13 k13 TP;have⟨p0,p1,p2,p3,p4,p5,p6,p7⟩:=bz (YG.o.bx.cZ rfl);have HP:Hd (∀W,bC W8 W->zB W w 0 x.bg):=λW hb=>(bz ((YG.o.bx.aT hb).cZ rfl)).1;have HJ:Hd (bC W8 W8):=eH;go_cut [7](λs7 wx=>∃L:Nat,s7=xP L/\Hd (VJ W8 L (jK (zM x.bg) K) (jK (vU x.bg) K) (jK (tu x.bg) K) wx))
 .clear p1 p2 p3 p4 p5 p6 p7;have pz:=λo=>HP.o (W8.alloc o) (HJ.o.alloc HJ.o.size o);go_region_law(first
   |(go_simp;go_at_call 285;refine(PA _ K).mono ?_;rintro en w9⟨bb,rfl,hka,hbb,vN⟩;have Xl:Hd (bC W8 w9):=(by with_reducible first|exact aV (Gc vN)|exact aV (X9 vN)|exact aV (X8 vN));try with_reducible have FX:=aV (oX2 vN)
     try with_reducible have FX:=aV (oX3 vN)
     have p0':=HP.o w9 Xl.o;have pa0:=λo=>HP.o (w9.alloc o) (Xl.o.alloc Xl.o.size o);have lk:=A0 hka UN.o;have lka:=λo=>A0 (hka.aT ((ay w9 w9).alloc cN o)) UN.o;unfold ki jK at lk lka;try have z0:=(bM FX.o).1
     try have z1:=(bM FX.o).2.1
     try have z2:=(bM FX.o).2.2
     try have y0:=aY FX.o 0
     try have y1:=aY FX.o 1
     try have y2:=aY FX.o 2
     clear hka hbb vN));all_goals(go_wp2;go_meet)
  all_goals first
   |exact⟨_,rfl,(ID Xl.o)⟩
   |exact⟨_,rfl,(PJ Xl.o FX.o cN)⟩
 obtain⟨L,rfl,HK⟩:=hcut;have⟨wx,hwx⟩:=dd (wc);subst hwx;have Gt:=aV (YG.o.aT HK.o.aT);have HA9:=aV (HA8.o.only (bh.bA HK.o.aT));have YH:=aV (UO.o.only (bh.bA HK.o.aT));have hLw:=HK.o.hL;have YI:=(ab.1 HK.o.blk).1;have hz8:=YG.o.bx.cM;simp only[aC,aD]at hz8;have cI:=aV (HMY.o (VI M w 3 K) wx.drew gf1 YE lb1 YF K ((jL.o.ev (IC Gt.o.bx.1.drew (by omega)))) Gt.o.blk);have hen:=EL (k:=x.bg);clear p0 p1 p2 p3 p4 p5 p6 p7 HP;generalize hgm:zM x.bg=gm at HK cI hen;have⟨k0,k1,k2⟩:=bM HK.o.blk;unfold jK at k0 k1 k2;have FV:Hd (∀W,bC wx W->cX W L (Cp (jK gm K) (jK (vU x.bg) K) (jK (tu x.bg) K))):=λW hb=>(hb.block L YI).trans HK.o.blk;have HJ:Hd (bC wx wx):=eH;have⟨b0,b1,b2⟩:=bM (Gt.o.bx.im rfl);have⟨e0,e1⟩:=nZ (Gt.o.bx.im rfl);have e2:=aY (Gt.o.bx.im rfl) 2;have nL:w.heap.size+1+1≠L:=by omega
 go_upto_region 8 with fail;go_cut [5](λs5 wy=>s5=xB true/\Hd (∃w10,qT w [dP c.aX (xL fa c.aW.length fc),tQ x,Cp .nilFunc .nilFunc .nilFunc] K c.aX (xL fa c.aW.length fc) x (qS c x) (hasB c x.field) (.func (.func gf1) #[] lb1) (.func (.func YE) #[] YF) w10/\bC wx w10/\wy=((w10.setCell ([w,w],0) (jK gm K)).setCell ([w,w],1) (jK (vU x.bg) K)).setCell ([w,w],2) (jK (tu x.bg) K)))
 .go_region_law(first
   |(go_simp;refine cI.o.mono ?_;rintro en w10⟨rfl,nY⟩;have rQ:Hd (bC wx w10):=(ay wx wx).drew.trans nY;have Nz:=aV (Gt.o.aT rQ.o);have l0:=(bM (FV.o w10 rQ.o)).1;have l1:=(bM (FV.o w10 rQ.o)).2.1;have l2:=(bM (FV.o w10 rQ.o)).2.2;unfold jK at l0 l1 l2;have r0:=(bM (Nz.o.bx.im rfl)).1;have r1:=(bM (Nz.o.bx.im rfl)).2.1;have r2:=(bM (Nz.o.bx.im rfl)).2.2;have⟨y0,y1⟩:=nZ (Nz.o.bx.im rfl);have y2:=aY (Nz.o.bx.im rfl) 2;clear nY));all_goals(go_wp2;go_meet)
  all_goals exact⟨rfl,(show∃_,_ from⟨w10,Nz.o,rQ.o,rfl⟩)⟩
 obtain⟨rfl,HZ⟩:=hcut;have⟨w10,h1,h2,h3⟩:=HZ.o;have h4:=h1.bx.im rfl;have HY:=aV (show cX wc [w,w] (Cp (jK gm K) (jK (vU x.bg) K) (jK (tu x.bg) K))by rw[h3];exact A5 h4 _ _ _);have ho:bh (λi=>i=[w,w]) w10 wc:=by
  rw[h3];exact(((bh.refl (λi=>i=[w,w]) w10).setCell (p:=⟨[w,w],0,none⟩) (.inl rfl) _).setCell (p:=⟨[w,w],1,none⟩) (.inl rfl) _).setCell (p:=⟨[w,w],2,none⟩) (.inl rfl) _
 have hoN:bh (VI M w 3 K) wx wc:=(bh.bA h2).trans (ho.mono λi hi=> .inl (.inr (by have:i=[w,w]:=hi;omega)));have qeb:=aV (HA9.o.only hoN);have JN:=aV (YH.o.only hoN);have qat:=aV (ho.at_ h1.blk (λh=>by have:K=[w,w]:=h;omega));have qec:=aV (show bC w wc by rw[h3];exact oM h1.bx.1 (by omega));have hKz:K<wc:=(ab.1 qat.o).1;have⟨m0,m1,m2⟩:=bM HY.o;unfold jK at m0 m1 m2;clear h1 h2 h3 h4 ho hoN HZ b0 b1 b2 e0 e1 e2 k0 k1 k2;go_wp2_with fail;refine ah (v:= .tuple #[.agg #[.func (.func gm) #[xP K] #[], .func (.func (vU x.bg)) #[xP K] #[], .func (.func (tu x.bg)) #[xP K] #[]],true]) (by simp[results,results229,go_sem,m0,m1,m2]) rfl ⟨_,rfl,⟨K,_,_,VI M w 3 K,?_,λi hi=> .inl (.inl hi),λi hi=> ?_,IB HM.o (by omega) hKz,qeb.o,JN.o,qat.o⟩,qec.o⟩
 .rw[<-hgm];rfl
 rcases hi with(hi|hi)|hi
 .exact .inl hi
 .exact .inr hi.1
 exact .inr (by omega)
def Mm(M:bY)(w:bq)(hM:Bd M w)(c:bI)(hc:dE c)(x:bK)(hx:jR c x)(hb:j8 c x=true)(fv:bt)(hfs:aS M w fv c.aW)(hT:Tb w):
 xG 170 #[.agg #[c.aX,fv], .agg #[x.bg,x.field,x.aX,x.more,x.type.bg,x.type.of,x.dO,x.cW]] w λv w'=>∃kF,v= .tuple #[.agg #[c.aX,kF],xI 0]/\aS M w' kF (dk c x).aW:=by
 have hcn:=dD hc.small;have mQ:=aV hM;have jL:=aV hfs;have HR:Hd (∀W,bC w W->xC 50 #[.agg #[c.aX,fv]] W (di true W)):=λW hb=>by
  have h:=iA M fv W c (hfs.aT hb) hcn;rw[hc.right]at h;exact h
 have HB:Hd (∀W,bC w W->w.heap.size+3<=W->_):=λW h h3=>EO (eo M w 3) W (dZ hM h3) c hc 1 (by omega) x hx hb fv (hfs.ev (dH h)) (hT.aT h);have Gs:Hd (∀(N:bY)W g1 g2(p:Nat),Bd N W->aS N W fv c.aW->cX W p (rE c.aX fv x (qS c x) (hasB c x.field) g1 g2)->_):=λN W g1 g2 p h1 h2 h3=>IA N W h1 c hc fv x hx.pre hb g1 g2 p h3 h2;have hen:=EM (k:=x.bg);obtain⟨fa,fc,rfl,_⟩:=hfs.bj;have dp:=aV (Bx.iN w (dP c.aX (xL fa c.aW.length fc)) (tQ x) (dP () ()));clear hfs hM hT hx hb hc;delta xG;go_in;go_wp2_with fail;refine dx (HR.o _ dp.o.1) λw1 hb1=> ?_;have cu:=aV (dp.o.aT hb1);have⟨p0,p1,p2,p3,p4,p5,p6,p7⟩:=bz (cu.o.cZ rfl);have⟨c0,c1⟩:=aZ (cu.o.cP rfl);clear hb1;go_wp2_with fail;refine(HB.o _ cu.o.1 cu.o.cM).mono ?_;rintro e w2⟨_,rfl,⟨p,g1,g2,N,rfl,Ro,NV,qM,ht1,ht2,hblk⟩,cJ⟩;have bZ:=aV (cu.o.aT cJ);have C8:=aV qM;have FY:=aV hblk;have TQ:Hd (∀W,bC w W->Ev M w N W):=λW h=>⟨bh.bA h,λi hi=>by
  rcases NV i hi with(h|h)|h
  .exact .inl h
  .exact .inr h.1
  exact .inr (aH cu.o.1.size h)⟩;have uT:Hd (∀i,M i->N i):=λi h=>Ro i (.inl h);have rX:Hd (N [w,w]):=Ro _ (.inr ⟨by omega,by omega⟩);have hz2:=bZ.o.cM;simp only[aC,aD]at hz2;clear cJ qM hblk Ro NV ht1 ht2 p0 p1 p2 p3 p4 p5 p6 p7 c0 c1;generalize vU x.bg=gf at Gs hen⊢;unfold ki jK;go_upto_region 6 with fail;have⟨W3,hW3⟩:=dd (w2.alloc (Cp (jK (zM x.bg) p) (jK gf p) (jK (tu x.bg) p)));have cR:=aV (show Bx w [dP c.aX (xL fa c.aW.length fc),tQ x,dP () ()] W3 by rw[hW3];exact bZ.o.alloc _);have qp:=aV (show ed W3 w2 (Cp (jK (zM x.bg) p) (jK gf p) (jK (tu x.bg) p))by rw[hW3];exact az w2 _);have JA:=aV (show bC w2 W3 by rw[hW3];exact cU);have cI:=aV (Gs.o N W3.drew g1 g2 p (C8.o.aT (w':=W3.drew) JA.o.drew) (jL.o.ev (TQ.o W3.drew cR.o.1.drew)) ((JA.o.block p (ab.1 FY.o).1).trans FY.o));unfold Cp jK at hW3;rw[<-hW3];clear hW3;have⟨k0,k1,k2⟩:=bM qp.o;have⟨c0,c1⟩:=aZ (cR.o.cP rfl);unfold jK at k0 k1 k2;go_cut [5](λs5 wx=>∃(ya:fM)(yc:Nat),s5=xI 0/\Hd (cX wx [w,w] (dP c.aX (xL ya (dk c x).aW.length yc))/\aS M wx (xL ya (dk c x).aW.length yc) (dk c x).aW/\bC w wx))
 .go_region_law(first
   |(go_simp;refine cI.o.mono ?_;rintro en w4⟨_,rfl,hsl,eZ⟩;obtain⟨ya,yc,rfl,_⟩:=hsl.bj;have gS:=aV hsl;have fh:Hd (Bx w [dP c.aX (xL fa c.aW.length fc),tQ x,dP () ()] w4):=cR.o.drew.aT eZ;have q0:=(aZ (fh.o.cP rfl)).1;have r0:=(aZ (fh.o.im rfl)).1;have r1:=(aZ (fh.o.im rfl)).2;have⟨f0,f1⟩:=nZ (fh.o.im rfl);clear hsl eZ));all_goals(go_wp2;go_meet)
  all_goals
   refine⟨ya,yc,rfl,?_⟩;refine(show _/\_/\_ from⟨sD (fh.o.im rfl) _ _,((gS.o.ev (((Ev.refl N w4).setCell (p:=⟨[w,w],0,none⟩) (.inl rX.o) _).setCell (p:=⟨[w,w],1,none⟩) (.inl rX.o) _)).ev (Ev.eO _ uT.o)),(fh.o.1.setCell (by show w.heap.size<=[w,w];omega) _).setCell (by show w.heap.size<=[w,w];omega) _⟩)
 obtain⟨ya,yc,rfl,HR⟩:=hcut;have⟨r0,r1⟩:=aZ HR.o.1;go_wp2_with fail;refine ah (v:= .tuple #[.agg #[c.aX,xL ya (dk c x).aW.length yc],xI 0]) (by simp[results,results170,go_sem,r0,r1]) rfl ⟨_,rfl,⟨_,rfl,HR.o.2.1⟩,HR.o.2.2⟩
def PK(M:bY)(w:bq)(hM:Bd M w)(c:bI)(hc:dE c)(br:Int)(hm:br<=100000)(x:bK)(hx:jR c x)(hb:j8 c x=true)(fv vv:bt)(vs:List bE)(hfs:aS M w fv c.aW)(hvs:aS M w vv vs)(hv:cD c.aW br vs)(hG:Gd w):
 xG 312 #[.agg #[c.aX,fv], .agg #[x.bg,x.field,x.aX,x.more,x.type.bg,x.type.of,x.dO,x.cW],vv] w λv w'=>∃us uv,v= .tuple #[uv,xI 0]/\iW c x br vs us/\aS M w' uv us:=by
 have hcn:=dD hc.small;have mQ:=aV hM;have jL:=aV hfs;have zy:=aV hvs;have Gg:=ie (w:=w) (λW h=>jd c hc.right hcn br hm vs hv M W fv vv (hfs.aT h) (hvs.aT h) (hG.tb.aT h));have HB:=ie (w:=w) (λW h=>EO M W (hM.aT h) c hc br hm x hx hb fv (hfs.aT h) (hG.tb.aT h));have C3:Hd (∀(N:bY)W g1 g2(p:Nat),Bd N W->bC w W->jW N c br x.type x.dO W g1->jW N c br x.type x.cW W g2->cX W p (rE c.aX fv x (qS c x) (hasB c x.field) g1 g2)->aS N W vv vs->_):=λN W g1 g2 p h1 h2 h3 h4 h5 h6=>PI N W h1 c hc fv vv x hx.pre hb g1 g2 br p vs h3 h4 (hG.aT h2) h5 hv h6;have hen:=EN (k:=x.bg);obtain⟨fa,fc,rfl,_⟩:=hfs.bj;obtain⟨va,vc,rfl,_⟩:=hvs.bj;have dp:=aV (Bx.ei w (dP c.aX (xL fa c.aW.length fc)) (tQ x));clear hfs hvs hM hG hx hb hc hv;delta xG;go_in;go_wp2_with fail;refine dx (Gg.o _ dp.o.1) λw1 hb1=> ?_;have cu:=aV (dp.o.aT hb1);have⟨p0,p1,p2,p3,p4,p5,p6,p7⟩:=bz (cu.o.cZ rfl);have⟨c0,c1⟩:=aZ (cu.o.cP rfl);clear hb1;go_wp2_with fail;refine(HB.o _ cu.o.1).mono ?_;rintro e w2⟨_,rfl,⟨p,g1,g2,N,rfl,Ro,NV,qM,ht1,ht2,hblk⟩,cJ⟩;have bZ:=aV (cu.o.aT cJ);have qg2:Hd (bC w2 w2):=eH;have TQ:Hd (aS N w2 (xL va vs.length vc) vs):=zy.o.ev ⟨bh.bA bZ.o.1,λi hi=>(NV i hi).imp_right λh=>aH cu.o.1.size h⟩;have uT:Hd (∀i,M i->N i):=Ro;have zu:=aV (λo=>C3.o N (w2.alloc o) g1 g2 p (qM.aT (eH.alloc cN o)) ((bZ.o.alloc o).1) (ht1.only (bh.bA (eH.alloc cN o))) (ht2.only (bh.bA (eH.alloc cN o))) (((ay w2 w2).alloc cN o).block p (ab.1 hblk).1|>.trans hblk) (TQ.o.ev ((Ev.refl _ _).alloc o)));generalize tu x.bg=gf at zu hen⊢;clear cJ qM ht1 ht2 hblk Ro NV p0 p1 p2 p3 p4 p5 p6 p7 c0 c1;unfold ki jK;go_wp2_with fail;refine(zu.o _).mono ?_;rintro e w3⟨u,rfl,⟨us,Gr,hsl⟩,hb3⟩;obtain⟨ua,uc,rfl,_⟩:=hsl.bj;have gS:=aV hsl;have HUS:=aV Gr;have cR:Hd (bC w w3):=((bZ.o.alloc _).aT hb3).1;clear hsl Gr hb3;go_wp2;go_ret2;exact⟨_,rfl,⟨_,_,rfl,HUS.o,gS.o.ev (Ev.eO w3 uT.o)⟩,cR.o⟩
def fH:l8 eI prog 3:=AT eI (.int .i64) pV underlying3
def yH {es:List (Int×bt×Nat)}(h:cO eI w b es clk)(n:Int)(v:bt)(hv:cB es n=some v):(Instr.lookup 91 (.map (some b)) n true).run prog w= .ok (.tuple #[v,true]) w:=
 cO.EB eI underlying91 fH fY h n v hv
def IK(w:bq)(K b:Nat)(es:List (Int×bt×Nat))(clk:Nat)(n v:Int)(hK:cC w K 1 (.map (some b)))(hm:cO eI w b es clk)(hv:cB es n=some (xI v)):
 xC 143 #[n,xP K] w (di false w):=by
 have hl:=yH hm n _ hv;have hl2:=yH (w:=w.drew) hm n _ hv;delta xC;go_in;go_wp2;go_ret;exact⟨rfl,eH⟩
def jZ(lv:bt)(pm:Nat):Obj:=xK #[lv, .map (some pm)] 93
def Mw(x:bU)(h:fL x)(M:bY)(w:bq)(hM:Bd M w)(hT:Tb w)(lv rv:bt)(pm:Nat)(hgr:Cl x M w lv pm)(ib:aS M w rv x.bB):
 xC 62 #[.agg #[lv, .map (some pm)],rv] w (di true w):=by
 obtain⟨⟨ls,tP,hlen,j6⟩,es,clk,F0,zw⟩:=hgr;have eg:∀args w,(callFunc 143 args).run prog w= .ok (.enter 143 args) w:=enters_of func143 (by kernel_rfl) rfl;have qJ:∀W(n:Int),bC w W->ed W w (jZ lv pm)->n∈dV x.bN->xC 143 #[xI n,xP w.heap.size] W (di false W):=λW n hb hc h1=>by
  obtain⟨oo,hoo,rfl⟩:=aQ.1 h1;have⟨ii,hii⟩:=aP hoo;have hv:=Cl.at_ h zw hii;exact IK W w pm es clk _ _ (aZ hc).2 ((hb.block _ (ab.1 F0).1).trans F0) hv
 have HM:=aV qJ;have HR:Hd (∀i r,x.bB[i]? =some r->_):=λi r hr=>fU ib hr;have NX:Hd (∀(i:Nat)r,x.bB[i]? =some r->r.id∈dV x.bN):=λi r hr=>h.bB r (ai hr);have HO:Hd (∀i o,ls[i]? =some o->_):=λi o ho=>gX tP ho;have NY:Hd (∀(i:Nat)o,ls[i]? =some o->∀W u,bC w W->aS M W u o.bR->xC 64 #[.agg #[xI o.id,xI o.dz,xI o.dB,u]] W (de W λv w'=>aS M w' v (o.bR.flatMap (dm 3)))):=λi o ho W u hb hu=>by
  have⟨fs,h1,h8⟩:=(j6 i o ho).bR h;exact Ke o 100000 (Int.le_refl _) fs h1 h8 M W (hM.aT hb) u hu (hT.aT hb)
 have C5:Hd (∀(i:Nat)o,ls[i]? =some o->∀W u,bC w W->ed W w (jZ lv pm)->aS M W u (o.bR.flatMap (dm 3))->_):=λi o ho W u hb hc hu=>oJ 143 #[xP w.heap.size] eg _ M u W hu (λn hn W' hb'=>qJ W' n (hb.trans (hb'.mono hb.size)) ((hb'.block _ (ab.1 hc).1).trans hc) ((j6 i o ho).inside h n hn));have h10:=h.len;have h5:=h.rlen;obtain⟨la,lc,rfl,hlc,hlm,_⟩:=tP.bj;obtain⟨ra,rc,rfl,QS,Q7,_⟩:=ib.bj;clear tP ib h qJ F0 zw j6 hM hT;generalize hn:ls.length=n at*;generalize hmr:x.bB.length=m at*;have qel:n<=500:=by omega
 clear hlen h10;have HN:=aV hn;clear hn;have BI:=aV hmr;clear hmr;have HEG:=aV eg;delta xC;go_in;go_wp2;go_loopg [4,7,13]m(λg r4 _ iv wr=>∃j:Nat,j<=m/\g=m-j/\iv=xI j/\r4=xB false/\Hd (Bx w [jZ (xL la n lc) pm] wr));exact⟨0,ax _,rfl,rfl,rfl,(Bx.fm w _)⟩;obtain⟨j,hj,rfl,rfl,rfl,HB⟩:=hrel;by_cases cE:j<m
 .have⟨r,hr⟩:=fg x.bB j (by rw[BI.o];exact cE);have⟨b,off,cap,hv,hbl,_,hcells⟩:=HR.o j r hr;obtain⟨rfl,rfl⟩:=jk hv;have⟨g0,g1⟩:=hcells wr HB.o.1;have HRX:=aV (NX.o j r hr);clear hv hcells hr;go_wp2_with fail;refine dx (HM.o _ r.id (HB.o.alloc _).1 ((HB.o.alloc _).cP rfl) HRX.o) λw1 hb1=> ?_;have cu:Hd (Bx w [jZ (xL la n lc) pm] w1):=(HB.o.alloc _).aT hb1;clear hb1 g0 g1;go_wp2;go_roundg(m-(j+1));exact⟨j+1,by omega,rfl,by go_num,rfl,cu⟩;omega
 obtain rfl:j=m:=by omega
 have⟨c0,c1⟩:=aZ (HB.o.cP rfl);go_wp2;go_loopg [4,9,25]n(λg r4 _ iv wr=>∃i:Nat,i<=n/\g=n-i/\iv=xI i/\r4=xB false/\Hd (Bx w [jZ (xL la n lc) pm] wr));exact⟨0,ax _,rfl,rfl,rfl,HB⟩;obtain⟨i,hi,rfl,rfl,rfl,HX⟩:=hrel;clear c0 c1;by_cases Rk:i<n
 .have⟨o,ho⟩:=fg ls i (by rw[HN.o];exact Rk);have⟨b,off,cap,va,vc,hv,hbl,hvs,hcells⟩:=HO.o i o ho;obtain⟨rfl,rfl⟩:=jk hv;have⟨g0,g1,g2,g3⟩:=hcells wr HX.o.1;have cI:=aV (λo'=>NY.o i o ho (wr.alloc o') _ (HX.o.alloc o').1 (hvs.aT (HX.o.alloc o').1));have qbc:=aV (C5.o i o ho);have⟨nl,hnl⟩:=dd (o.bR.flatMap (dm 3));rw[<-hnl]at cI qbc;clear hnl;obtain⟨oi,oc,ov,os⟩:=o;clear hv hcells ho hvs;go_wp2_with fail;refine(cI.o _).mono ?_;rintro e w1⟨u,rfl,hu,hb1⟩;have hu':=hu;obtain⟨ua,uc,rfl,_⟩:=hu'.bj;have HU:=aV hu;have cu:Hd (Bx w [jZ (xL (b,off) n lc) pm] w1):=(HX.o.alloc _).aT hb1;clear hb1 hu g0 g1 g2 g3;go_wp2_with fail;refine dx (qbc.o _ _ cu.o.1 (cu.o.cP rfl) HU.o) λw2 cJ=> ?_;have bZ:Hd (Bx w [jZ (xL (b,off) n lc) pm] w2):=cu.o.aT cJ;clear cJ;go_wp2;go_roundg(n-(i+1));exact⟨i+1,by omega,rfl,by go_num,rfl,bZ⟩;omega
 obtain rfl:i=n:=by omega
 go_wp2;go_ret;exact⟨rfl,HX.o.1⟩
def KB(b:Nat):Obj:=xK #[.map (some b)] 96
def vG(v:bt):Obj:=xK #[v] 65
def tG(w0:bq):Nat->Prop:=λi=>i=[w0]\/i=[w0,w0,w0]
structure jh(w0 w:bq)(g:Obj)(v:bt)(S wk:List Int):Prop where
 b0:w.heap[w0.heap.size]? =some g
 b5:w.heap[w0.heap.size+1+1]? =some (KB [w0])
 b6:w.heap[w0.heap.size+1+1+1]? =some (vG v)
 set:Mk.eY w [w0] S
 acc:bP (α:=Int) (tG w0) (↑w0+4) 3 w v wk
 low:bC w0 w
 short:wk.length<=S.length
section
variable {w0 w w2 w4 W:bq}{g:Obj}{v v2:bt}{S wk:List Int}{x:Int}
def jh.lt(h:jh w0 w g v S wk):w0.heap.size+4<=w:=(ab.1 h.b6).1
def jh.aT(h:jh w0 w g v S wk)(hb:bC w W):jh w0 W g v S wk:=
 ⟨(hb.block _ (by have:=h.lt;omega)).trans h.b0,(hb.block _ (by have:=h.lt;omega)).trans h.b5,(hb.block _ (by have:=h.lt;omega)).trans h.b6,h.set.same (hb.block _ (by have:=h.lt;omega)),h.acc.aT hb,h.low.trans (hb.mono h.low.size),h.short⟩
def jh.bd(h:jh w0 w g v S wk):Bd (cz v (tG w0)) w:=λi hi=>by
 have hl:=h.lt;rcases hi with(hi|hi)|hi
 .omega
 .omega
 exact(h.acc.dC i hi).2
def jh.next(h:jh w0 w g v S wk)(hs:Mk.eY w2 [w0] (S++[x]))(ho:bh (λi=>i=[w0]) w w2)(o:Obj)(hacc:bP (α:=Int) (tG w0) (↑w0+4) 3 w4 v2 (wk++[x]))(zq:Ev (cz v (tG w0)) (w2.alloc o) (cz v2 (tG w0)) w4)(hb:Below (↑w0+4) (w2.alloc o) w4):
 jh w0 (w4.setCell ([w0,w0,w0],0) v2) g v2 (S++[x]) (wk++[x])/\Ev (cz v (tG w0)) w (cz v2 (tG w0)) (w4.setCell ([w0,w0,w0],0) v2):=by
 have hl:=h.lt;have hz:=ho.size;have e1:∀i,i<w0.heap.size+4->w4.heap[i]? =w2.heap[i]? :=λi hi=>(hb.block i hi).trans (((ay _ w2).alloc cN o).block i (by omega));have e2:∀i,i≠w0.heap.size+1+1+1->i<w0.heap.size+4->(w4.setCell ([w0,w0,w0],0) v2).heap[i]? =w2.heap[i]? :=λi hn hi=>(aj _ _ _ _ hn).trans (e1 i hi);refine⟨⟨?_,?_,?_,?_,?_,?_,?_⟩,⟨?_,λi hi=> ?_⟩⟩
 .exact(e2 _ (by omega) (by omega)).trans (ho.at_ h.b0 (by omega))
 .exact(e2 _ (by omega) (by omega)).trans (ho.at_ h.b5 (by omega))
 .have:=aA w4 [w0,w0,w0] 0 _ _ v2 ((e1 _ (by omega)).trans (ho.at_ h.b6 (by omega)));simpa [vG]using this
 .exact hs.same (e2 _ (by omega) (by omega))
 .exact hacc.ue (p:=⟨[w0,w0,w0],0,none⟩) (.inr rfl) (by show w0.heap.size+1+1+1<_;omega) _
 .exact(((cr h.low h.low.size ho (λi hi=>by subst hi;omega)).alloc (by have:=h.low.size;omega) o).trans (hb.mono (by omega))).setCell (p:=⟨[w0,w0,w0],0,none⟩) (by show w0.heap.size<=[w0,w0,w0];omega) _
 .have:=h.short;simp;omega
 .refine bh.setCell ?_ (p:=⟨[w0,w0,w0],0,none⟩) (.inl (.inl (.inr rfl))) _;exact((ho.mono (λi hi=> .inl (.inl hi))).alloc o).trans zq.only
 rcases zq.sub i hi with h1|h1
 .exact .inl h1
 right;have:(w2.alloc o).heap.size=[w2]:=by simp
 omega
end
theorem tH:∀(ids S wk:List Int),((Mk.eT (S,wk) ids).1).length<=S.length+ids.length
 |[],S,wk=>by simp[Mk.eT]
 |a::r,S,wk=>by
  have e:Mk.eT (S,wk) (a::r)=Mk.eT (if a∈S then(S,wk)else(S++[a],wk++[a])) r:=rfl;rw[e];split
  .have:=tH r S wk;simp;omega
  have:=tH r (S++[a]) (wk++[a]);simp at this⊢;omega
def Qg(w0 w:bq)(g:Obj)(v:bt)(S wk ids:List Int)(hS:S.length+ids.length<=1000)(h:jh w0 w g v S wk)(iv:bt)(hi:aS (α:=Int) (cz v (tG w0)) w iv ids):
 xC 63 #[iv,xP [w0,w0],xP [w0,w0,w0]] w λe w'=>e=xR (.tuple #[])/\∃v',jh w0 w' g v' (Mk.eT (S,wk) ids).1 (Mk.eT (S,wk) ids).2/\Ev (cz v (tG w0)) w (cz v' (tG w0)) w':=by
 have⟨i0,hi0,hz0,hz1,hz2⟩:=info_parts sF;have gS:Hd (∀k,((Mk.eT (S,wk) (ids.take k)).1).length<=1000):=λk=>by
  have h2:=tH (ids.take k) S wk;have h3:(ids.take k).length<=ids.length:=by rw[aK];omega
  omega
 have F6:Hd (jh w0 w g v (Mk.eT (S,wk) (ids.take 0)).1 (Mk.eT (S,wk) (ids.take 0)).2/\Ev (cz v (tG w0)) w (cz v (tG w0)) w/\aS (α:=Int) (cz v (tG w0)) w iv ids):=⟨h,Ev.refl _ _,hi⟩;obtain⟨a,cap,rfl,dN,hm,_⟩:=hi.bj;clear h hi hS;generalize hn:ids.length=n at*;have HN:=aV hn;clear hn;delta xC;go_in;go_wp2;go_loopg [5,8]n(λgg _ kv wr=>∃(k:Nat)(v1:bt),k<=n/\gg=n-k/\kv=xI k/\Hd (jh w0 wr g v1 (Mk.eT (S,wk) (ids.take k)).1 (Mk.eT (S,wk) (ids.take k)).2/\Ev (cz v (tG w0)) w (cz v1 (tG w0)) wr/\aS (α:=Int) (cz v1 (tG w0)) wr (xL a n cap) ids));exact⟨0,v,ax _,rfl,rfl,F6⟩;obtain⟨k,v1,hk,rfl,rfl,HX⟩:=hrel;by_cases cE:k<n;rotate_left
 .obtain rfl:k=n:=by omega
  go_wp2_with fail;have hh:=HX.o;rw[ak (by rw[HN.o];omega)]at hh;refine bodyPost_end (results_none rfl _ _ _) rfl ?_;exact⟨rfl,v1,hh.1,hh.2.1⟩
 have⟨x,hx⟩:=fg ids k (by rw[HN.o];exact cE);have⟨b,off,cap',hv,hb,hcells⟩:=lM HX.o.2.2 hx;obtain⟨rfl,rfl⟩:a=some ⟨b,off,none⟩/\cap=cap':=by rw[HN.o]at hv;simpa using hv
 have hcx:=hcells wr eH;have c5:=one_cell HX.o.1.b5;have mD:=HX.o.1.set.lookup x;have HKX:=aV hx;clear hv hcells hx hb;by_cases ji:x∈(Mk.eT (S,wk) (ids.take k)).1
 .rw[decide_eq_true ji]at mD;have iG:=aV (show jh w0 wr g v1 (Mk.eT (S,wk) (ids.take (k+1))).1 (Mk.eT (S,wk) (ids.take (k+1))).2 by
   rw[Mk.AS HKX.o,if_pos ji];exact HX.o.1);clear ji;go_wp2;go_roundg(n-(k+1));exact⟨k+1,v1,by omega,rfl,by go_num,(show _/\_/\_ from⟨iG.o,HX.o.2.1,HX.o.2.2⟩)⟩;omega
 rw[decide_eq_false ji]at mD;have⟨w2,hup,hset,honly⟩:=HX.o.1.set.store x ji;have vP:=Mk.AS (p:=(S,wk)) HKX.o;rw[if_neg ji]at vP;have U3:=aV vP;have hlen:=gS.o k;clear vP ji;have⟨S1,hS1⟩:=js ((Mk.eT (S,wk) (ids.take k)).1);have⟨K1,hK1⟩:=js ((Mk.eT (S,wk) (ids.take k)).2);rw[hS1]at hset hlen;have gy:=aV (show jh w0 wr g v1 S1 K1/\Ev (cz v (tG w0)) w (cz v1 (tG w0)) wr/\aS (α:=Int) (cz v1 (tG w0)) wr (xL (b,off) n cap) ids by rw[<-hS1,<-hK1];exact HX.o);have qe3:=aV (show Mk.eT (S,wk) (ids.take (k+1))=(S1++[x],K1++[x])by rw[U3.o,hS1,hK1]);clear HX U3 hS1 hK1;have hl:=gy.o.1.lt;have hsh:=gy.o.1.short;have c6:=one_cell (honly.at_ gy.o.1.b6 (by omega));have BH:=aV honly.size;have qe4:=aV hset;have lT:=aV honly;have hac:=gy.o.1.acc;obtain⟨a1,c1,rfl,_,_⟩:=hac.bj;have RE:Hd (bP (α:=Int) (tG w0) (↑w0+4) 3 w2 (xL a1 K1.length c1) K1):=hac.only lT.o (λi hi=>⟨.inl hi,by have h:i=[w0]:=hi;omega⟩);have ph:Hd (cX w2 [w0,w0,w0] (vG (xL a1 K1.length c1))):=honly.at_ gy.o.1.b6 (by omega);have qhd:w0.heap.size+4<=w2:=aH hl BH.o;clear hset honly hac;go_wp2_with(at_builtin;refine cA (α:=Int) rfl _ _ _ rfl (tG w0) (↑w0+4) 3 i0 _ 8 underlying65 hi0 hz0 hz1 hz2 rfl (by decide) (.slice a1 K1.length c1) K1 rfl (RE.o.alloc _) (λ_=>True) _ _ x rfl (dj _ _ _ _ rfl trivial) rfl (by unfold maxLen;omega) (by omega) (by simp;omega) ?_;intro a2 c2 w4 cF eD cJ;have rX:=aV (gy.o.1.next qe4.o lT.o _ cF eD cJ);have kN:cX w4 [w0,w0,w0] (vG (xL a1 K1.length c1)):=(cJ.block _ (by omega)).trans ((cU.block _ (by omega)).trans ph.o);have p6:=one_cell kN;have f6:=aY kN 0;clear cF eD cJ kN);go_roundg(n-(k+1));case measure=>omega
 case rel=>
  refine⟨k+1,_,by omega,rfl,by go_num,(show _/\_/\_ from⟨?_,gy.o.2.1.trans rX.o.2,gy.o.2.2.ev rX.o.2⟩)⟩;rw[qe3.o];exact rX.o.1
def S7 {wk:List Int}(h:bP (α:=Int) M base 3 w v (wk++[id]))(hM:∀i,M i->i<base):
 ∃g c,v=xL (some ⟨g,0,none⟩) (wk.length+1) c/\wk.length+1<=c/\cC w g wk.length id/\bP (α:=Int) M base 3 w (xL (g,0) wk.length c) wk:=by
 have hsl:=h.slice hM;obtain⟨css,h1,h2,h3⟩:=h;have e:css=(wk++[id]).map (λx=>[Value.int .i64 x]):=by
  refine List.ext_getElem (by simpa using h2) (λi p q=> ?_);rw[List.getElem_map];exact h3 i _ _ (af p) (af (by simpa using q))
 subst e;have fl:∀l:List Int,(l.map (λx=>[Value.int .i64 x])).flatten=l.map (Value.int .i64):=λl=>by
  induction l with
  |nil=>rfl
  |cons a r ih=>simp only[List.map_cons,List.flatten_cons,ih];rfl
 rw[fl,List.map_append,show(wk++[id]).length=wk.length+1 by simp]at h1;have h1':=h1;obtain⟨_,⟨_,h0⟩|⟨g,c,cur,rfl,_,_,hc,_⟩⟩:=h1'
 .omega
 have hp:=ownsRow_pop (size:=1) (n:=wk.length) (by simp) h1;have⟨b,off,cap,hv,_,hcell⟩:=yt hsl (k:=wk.length) (x:=id) (by simp);have hv2:g=b/\0=off:=by
  have:=hv;simp at this;exact⟨this.1.1,this.1.2⟩
 obtain⟨rfl,rfl⟩:=hv2;refine⟨g,c,rfl,hc,by simpa using hcell w eH,⟨wk.map (λx=>[Value.int .i64 x]),?_,by simp,λi cs x hcs hx=> ?_⟩⟩
 .rw[fl];exact hp
 rw[List.getElem?_map,hx]at hcs;simp at hcs;exact hcs.symm
def jh.pop {g:Obj}{wk:List Int}(h:jh w0 w g v S (wk++[id])):
 ∃q c,v=xL (some ⟨q,0,none⟩) (wk.length+1) c/\wk.length+1<=c/\cC w q wk.length id/\jh w0 (w.setCell ([w0,w0,w0],0) (xL (q,0) wk.length c)) g (xL (q,0) wk.length c) S wk:=by
 have hN:∀i,tG w0 i->i<w0.heap.size+4:=λi hi=>by rcases hi with hi|hi<;>omega
 obtain⟨q,c,rfl,hc,hcell,hacc⟩:=S7 h.acc hN;have ho:=λi(hn:i≠w0.heap.size+1+1+1)=>aj w ⟨[w0,w0,w0],0,none⟩ i (xL (q,0) wk.length c) hn;refine⟨q,c,rfl,hc,hcell,⟨(ho _ (by omega)).trans h.b0,(ho _ (by omega)).trans h.b5,?_,h.set.same (ho _ (by omega)),?_,?_,?_⟩⟩
 .have:=aA w [w0,w0,w0] 0 _ _ (xL (q,0) wk.length c) h.b6;simpa [vG]using this
 .exact hacc.ue (p:=⟨[w0,w0,w0],0,none⟩) (.inr rfl) (by show w0.heap.size+1+1+1<_;omega) _
 .exact h.low.setCell (p:=⟨[w0,w0,w0],0,none⟩) (by show w0.heap.size<=[w0,w0,w0];omega) _
 have:=h.short;simp at this;omega
def yX {es:List (Int×bt×Nat)}(h:cO eI w b es clk)(n:Int)(v:bt)(hv:cB es n=some v):(Instr.lookup 91 (.map (some b)) n false).run prog w= .ok v w:=
 cO.AV eI underlying91 fH fY h n v hv
def uK(x:bU)(h:fL x)(M:bY)(w:bq)(hM:Bd M w)(hT:Tb w)(lv rv:bt)(pm:Nat)(hgr:Cl x M w lv pm)(ib:aS M w rv x.bB):
 xC 22 #[.agg #[lv, .map (some pm)],rv] w λe w'=>∃S sb,e=xR (.map (some sb))/\Mk.eY w' sb S/\(∀n,n∈S↔Mk.wD (cV x) (dT x) n)/\bC w w':=by
 obtain⟨⟨ls,tP,hlen,j6⟩,es,clk,F0,zw⟩:=hgr;have JK:∀j,(Mk.eT ([],[]) ((cV x).take j)).1.length<=500:=λj=>by
  have h1:=tH ((cV x).take j) [] [];have h2:=h.rlen;have h3:((cV x).take j).length<=500:=by rw[aK];unfold cV;rw[aL];omega
  have h4:([]:List Int).length=0:=rfl;omega
 have UX:=aV JK;have HR:Hd (∀i r,x.bB[i]? =some r->_):=λi r hr=>fU ib hr;have XF:Hd (∀(i:Nat)r,x.bB[i]? =some r->Mk.eT ([],[]) ((cV x).take (i+1))=Mk.eT (Mk.eT ([],[]) ((cV x).take i)) [r.id]):=λi r hr=>by
  have e:(cV x)[i]? =some r.id:=by unfold cV;rw[List.getElem?_map,hr];rfl
  rw[ao,e];show(List.foldl _ _ (_++[r.id]))=_;rw[List.foldl_append];rfl
 have KL:=aV (show(cV x).take x.bB.length=cV x by unfold cV;rw[ak (by rw[aL];exact cN)]);have HIV:Hd (∀S wk(W:bq)g v,jh w W g v S wk->Mk.pf (cV x) (dT x) S wk->S.length<=x.bN.length/\S.length<=500):=λS wk W g v h1 h2=>by
  have h3:=je (dV x.bN) S h1.set.nodup (λy hy=>h.closed.Ud (h2.reached y hy));unfold dV at h3;rw[aL]at h3;have:=h.len;exact⟨h3,by omega⟩
 have UR:Hd (∀(n:Int),Mk.wD (cV x) (dT x) n->∃(i:Nat)(o:cm),n=o.id/\ls[i]? =some o):=λn hn=>by
  obtain⟨o0,ho0,rfl⟩:=aQ.1 (h.closed.Ud hn);have⟨i,hi⟩:=aP ho0;have wJ:=(ag.1 hi).1;have hg:ls[i]? =some ls[i]:=af (by omega);have⟨o1,h1,h2⟩:=(j6 i _ hg).idn;rw[hi]at h1;cases h1;exact⟨i,_,h2.symm,hg⟩
 have HO:Hd (∀i o,ls[i]? =some o->_):=λi o ho=>gX tP ho;have C6:Hd (∀(i:Nat)o W,ls[i]? =some o->bC w W->_):=λi o W ho hb=>yX (w:=W) ((hb.block _ (ab.1 F0).1).trans F0) o.id _ (by have⟨o1,h1,h2⟩:=(j6 i o ho).idn;rw[h2];exact Cl.at_ h zw h1);have NY:Hd (∀(i:Nat)o,ls[i]? =some o->∀W g v S wk u,jh w W g v S wk->aS M w u o.bR->xC 64 #[.agg #[xI o.id,xI o.dz,xI o.dB,u]] W (de W λr w'=>aS (cz v (tG w)) w' r (dT x o.id))):=λi o ho W g v S wk u hst hu=>by
  have⟨fs,h1,h8⟩:=(j6 i o ho).bR h;have qM:Bd (λi=>M i\/cz v (tG w) i) W:=λi hi=>by
   rcases hi with hi|hi
   .exact hM.aT hst.low i hi
   exact hst.bd i hi
  have zq:Ev M w (λi=>M i\/cz v (tG w) i) W:=⟨bh.bA hst.low,λi hi=>by
   rcases hi with hi|(hi|hi)|hi
   .exact .inl hi
   .right;omega
   .right;omega
   right;have:=(hst.acc.dC i hi).1;omega⟩;have hr:=Ke o 100000 (Int.le_refl _) fs h1 h8 (λi=>M i\/cz v (tG w) i) W qM u (hu.ev zq) (hT.aT hst.low);rw[(j6 i o ho).refs h]at hr;refine hr.mono ?_;rintro e w'⟨r,rfl,hs,hb⟩;exact⟨r,rfl,hs.ev (Ev.eO _ λi hi=> .inr hi),hb⟩
 have C9:Hd (∀(i:Nat)o,ls[i]? =some o->(dT x o.id).length<=96):=λi o ho=>Iv h (j6 i o ho);have h5:=h.rlen;obtain⟨la,lc,rfl,hlc,hlm,_⟩:=tP.bj;obtain⟨ra,rc,rfl,QS,Q7,_⟩:=ib.bj;have qe5:Hd (Mk.pf (cV x) (dT x) (Mk.eT ([],[]) (cV x)).1 (Mk.eT ([],[]) (cV x)).2):=Mk.pf.start _ _;have JC:=aV (show ls.length<=500 by rw[hlen];exact h.len);clear tP ib h F0 zw j6 hM hT JK;generalize hn:ls.length=n at*;generalize hmr:x.bB.length=m at*;have HN:=aV hn;clear hn;have BI:=aV hmr;clear hmr;have lp:=aV hlen;clear hlen;have qe6:Hd (∀(wr:bq)v1 S wk(id:Int)(o:Obj),jh w wr (jZ (xL la n lc) pm) v1 S wk->S.length<=900->xC 63 #[xL ([wr],0) 1 1,xP [w,w],xP [w,w,w]] ((wr.alloc o).alloc (xK #[xI id] 3)) λe w'=>e=xR (.tuple #[])/\∃v',jh w w' (jZ (xL la n lc) pm) v' (Mk.eT (S,wk) [id]).1 (Mk.eT (S,wk) [id]).2):=λwr v1 S wk id o h hS=>by
  have h1:jh w (wr.alloc o) (jZ (xL la n lc) pm) v1 S wk:=h.aT (eH.alloc cN o);have h2:jh w ((wr.alloc o).alloc (xK #[id] 3)) (jZ (xL la n lc) pm) v1 S wk:=h1.aT cU;have hz:(wr.alloc o).heap.size=[wr]:=by simp
  have hs:aS (α:=Int) (cz v1 (tG w)) ((wr.alloc o).alloc (xK #[id] 3)) (xL ([wr],0) 1 1) [id]:=by
   rw[<-hz];refine⟨[[xI id]],dj (F:=λi=>¬cz v1 (tG w) i) (wr.alloc o) #[id] _ 1 rfl (λhh=>by have:=h1.bd _ hh;omega),rfl,λi cs y hc hy=> ?_⟩;match i,hc,hy with
   |0,hc,hy=>cases hc;cases hy;rfl
   |i+1,hc,hy=>simp at hc
  refine(Qg w _ _ v1 S wk [id] (by simp;omega) h2 _ hs).mono ?_;rintro e w'⟨rfl,v',k1,k2⟩;exact⟨rfl,v',k1⟩
 have qe7:Hd (∀(W:bq)v S wk ids u,jh w W (jZ (xL la n lc) pm) v S wk->S.length+ids.length<=1000->aS (α:=Int) (cz v (tG w)) W u ids->_):=λW v S wk ids u h1 h2 h3=>Qg w W _ v S wk ids h2 h1 u h3;have hmk:=λw=>fJ 96 w;delta xC;go_in;go_upto_region 4 with fail;have⟨W0,hW0⟩:=dd ((((w.alloc (jZ (xL la n lc) pm)).alloc (.map #[] 0)).alloc (KB [w])).alloc (vG ()));have F6:=aV (show jh w W0 (jZ (xL la n lc) pm) () (Mk.eT ([],[]) ((cV x).take 0)).1 (Mk.eT ([],[]) ((cV x).take 0)).2 by
  have hX:=Bx.Lk w (jZ (xL la n lc) pm) (.map #[] 0) (KB [w]) (vG ());rw[<-hW0]at hX;exact⟨hX.cP rfl,hX.im rfl,hX.Au rfl,⟨[],0,⟨hX.cZ rfl,by simp,by simp,by simp⟩,rfl⟩,bP.nil _ _ _ _,hX.1,cN⟩);unfold jZ KB vG at hW0;rw[<-hW0];clear hW0;go_wp2;go_loopg [9,15]m(λgg _ jv wr=>∃(j:Nat)(v1:bt),j<=m/\gg=m-j/\jv=xI j/\Hd (jh w wr (jZ (xL la n lc) pm) v1 (Mk.eT ([],[]) ((cV x).take j)).1 (Mk.eT ([],[]) ((cV x).take j)).2));exact⟨0,_,ax _,rfl,rfl,F6⟩;obtain⟨j,v1,hj,rfl,rfl,HX⟩:=hrel;by_cases cE:j<m
 .have⟨r,hr⟩:=fg x.bB j (by rw[BI.o];exact cE);have⟨b,off,cap,hv,hbl,_,hcells⟩:=HR.o j r hr;obtain⟨rfl,rfl⟩:=jk hv;have⟨g0,g1⟩:=hcells wr HX.o.low;have iG:=aV (XF.o j r hr);have cI:=aV (λo=>qe6.o wr v1 _ _ r.id o HX.o (by have:=UX.o j;omega));clear hv hcells hr;go_wp2_with fail;refine(cI.o _).mono ?_;rintro e w1⟨rfl,v2,hst⟩;have HY:=aV hst;clear hst g0 g1;go_wp2;go_roundg(m-(j+1));exact⟨j+1,v2,by omega,rfl,by go_num,(show jh _ _ _ _ _ _ from by rw[iG.o];exact HY.o)⟩;omega
 obtain rfl:j=m:=by omega
 have uO:=aV (show jh w wr (jZ (xL la n lc) pm) v1 (Mk.eT ([],[]) (cV x)).1 (Mk.eT ([],[]) (cV x)).2 by have:=HX.o;rw[KL.o]at this;exact this);clear HX;go_wp2;go_loopg [10](Mk.pZ x.bN.length (Mk.eT ([],[]) (cV x)).1 (Mk.eT ([],[]) (cV x)).2)(λgg _ wr=>∃(S wk:List Int)(v1:bt),gg=Mk.pZ x.bN.length S wk/\Hd (jh w wr (jZ (xL la n lc) pm) v1 S wk/\Mk.pf (cV x) (dT x) S wk));exact⟨_,_,_,rfl,(show _/\_ from⟨uO.o,qe5.o⟩)⟩;obtain⟨S,wk,v2,rfl,HZ⟩:=hrel;have c5:=one_cell HZ.o.1.b5;rcases List.eq_nil_or_concat wk with rfl|⟨KQ,id,rfl⟩
 .have hop:=HZ.o.1.acc.bj;obtain⟨za,zc,rfl,_⟩:=hop;have c6:=one_cell HZ.o.1.b6;rw[aD]at c6;go_wp2;go_ret;exact⟨S,_,rfl,HZ.o.1.set,HZ.o.2.done,HZ.o.1.low⟩
 rw[List.concat_eq_append]at HZ;have hpp:=HZ.o.1.pop;obtain⟨q,c,hv2,hc,hcell,qbv⟩:=hpp;subst hv2;have hsh:=HZ.o.1.short;have qbw:=HIV.o _ _ _ _ _ HZ.o.1 HZ.o.2;have c6:=one_cell HZ.o.1.b6;have f6:=aY HZ.o.1.b6 0;have F7:=aV qbv;have hob:=UR.o id (HZ.o.2.reached id (HZ.o.2.sub id (by simp)));obtain⟨i,o,hid,ho⟩:=hob;subst hid;have qe8:KQ.length+1<=500:=by simp at hsh;omega
 have⟨k,hk⟩:=js (KQ.length);rw[hk]at c6 hcell hc qe8;have F7:=aV (show jh w (wr.setCell ([w,w,w],0) (xL (q,0) k c)) (jZ (xL la n lc) pm) (xL (q,0) k c) S KQ by rw[<-hk];exact F7.o);have Xv:=aV qbw;have YX:=aV ho;have NN:(0:Int)<=(k:Int):=an _;have hiw:IntKind.i64.wrap (((k+1:Nat):Int)-1)=(k:Int):=by rw[show((k+1:Nat):Int)-1=(k:Int)from by omega];exact aw _ (by omega)
 have hgt:decide ((0:Int)<((k+1:Nat):Int))=true:=by simp
 have hkc:(k:Int)<=(c:Int):=by omega
 have qhe:k<=c:=by omega
 clear qbv hsh qbw hk ho hc;go_upto_region 12 with fail;have⟨W,hW⟩:=dd (wr.setCell ([w,w,w],0) (xL (q,0) k c));rw[<-hW]at F7⊢;clear hW f6 c6 c5 hcell;have⟨g0,g1⟩:=aZ F7.o.b0;have⟨b,off,cap,va,vc,hv,hbl,hvs,hcells⟩:=HO.o i o YX.o;obtain⟨rfl,rfl⟩:=jk hv;have⟨q0,q1,q2,q3⟩:=hcells W F7.o.low;have mD:=C6.o i o W YX.o F7.o.low;have Jy:=aV (NY.o i o YX.o W _ _ _ _ _ F7.o hvs);have qbx:=aV (C9.o i o YX.o);have ji:i<n:=by have:=(ag.1 YX.o).1;have:=HN.o;omega
 have qdn:(0:Int)<=(i:Int):=an _;have qhf:(i:Int)<(n:Int):=by omega
 have⟨nl,hnl⟩:=dd (dT x o.id);rw[<-hnl]at Jy qbx;have HNL:=aV hnl;clear hnl hcells hv hvs hbl YX;obtain⟨oi,oc,ov,os⟩:=o;dsimp only at*;go_wp2_with fail;refine(Jy.o).mono ?_;rintro e w5⟨u5,rfl,hs5,iz⟩;have qe9:=hs5;obtain⟨ua,uc,rfl,_⟩:=qe9.bj;have vY:=aV (F7.o.aT iz);have nV:=aV (qe7.o w5 _ S KQ nl _ vY.o (by have:=qbx.o;have:=Xv.o.2;omega) hs5);clear hs5 iz mD q0 q1 q2 q3 g0 g1;go_wp2_with fail;refine(nV.o).mono ?_;rintro e w6⟨rfl,v',k1,k2⟩;have pq:=aV k1;clear k1 k2;go_wp2_with fail;have zo:=aV (show Mk.pf (cV x) (dT x) (Mk.eT (S,KQ) nl).1 (Mk.eT (S,KQ) nl).2 by rw[HNL.o];exact HZ.o.2.step);have qby:Mk.pZ x.bN.length (Mk.eT (S,KQ) nl).1 (Mk.eT (S,KQ) nl).2<Mk.pZ x.bN.length S (KQ++[oi]):=by
  refine Mk.EA (R:=dT x) (by rw[<-HNL.o]) (HIV.o _ _ _ _ _ pq.o zo.o).1
 go_roundg(Mk.pZ x.bN.length (Mk.eT (S,KQ) nl).1 (Mk.eT (S,KQ) nl).2);exact⟨_,_,v',rfl,(show _/\_ from⟨pq.o,zo.o⟩)⟩;rw[List.concat_eq_append];exact qby
end
end Go.Proofs.YtpjdjlnknfmfkaaGreatDoor
