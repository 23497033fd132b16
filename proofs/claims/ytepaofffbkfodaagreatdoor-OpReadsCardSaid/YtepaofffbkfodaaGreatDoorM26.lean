/- A part of OpReads's proof; no condition. -/
import Derived.Test.YtepaofffbkfodaaGreatDoorM16
import Derived.Test.YtepaofffbkfodaaGreatDoorM19
import Derived.Test.YtepaofffbkfodaaGreatDoorM25
import Derived.BigGuardPart
import Derived.Shelf.Spec.SlicesGrow
set_option linter.all false
set_option maxHeartbeats 8000000
set_option maxRecDepth 100000
namespace Go.Proofs.YtepaofffbkfodaaGreatDoor
open Go.Proofs.Tryz
variable{s nm:aM}{t e:TypeId}{c0 c1 c2 c3 a0 a1 a2 a3 v fv:an}{g i B K base b j cap p clk:Nat}{W w w' W':aj}{o:Obj}{M N F:aN}{many:Int}{c:ax}{cur:Array an}{x:aC}{f:az}{a:fA}
section
open Go.RowKit
def Py {x:aw}(h:ee s.data.toList=some x):∃T,lD s 0 T/\qL T/\(∀t∈T,1<=t.kind/\t.kind<=4)/\T.length<=200/\jb 60 1 T=some (x,[])/\s.size<=200/\XOk x:=by
 unfold ee at h;cases hL:eH 200 s.data.toList 0 with
 |none=>rw[hL]at h;cases h
 |some T=>
  rw[hL]at h;simp only at h;split at h
  .rename_i e hq;split at h
   .rename_i hc;cases h;obtain⟨h1,h2,h3,h4⟩:=hc;obtain⟨k1,k2,k3⟩:=kx 200 _ 0 T h1 hL;exact⟨T,⟨200,by simpa using hL⟩,k1,k2,by omega,hq,by rw[bq]at h1;exact h1,h2,h3,h4⟩
   .cases h
  .cases h
def AG(s:aM)(x:aw)(h:ee s.data.toList=some x)(w:aj)(hT:Tb w):xG 237 #[xS s] w (Po w x):=by
 obtain⟨T,h1,h2,h3,h4,h5,h6,h7⟩:=Py h;exact L8 s x T h6 h1 h2 h3 h4 h5 h7.nodes h7.deep h7.size w hT
def uZ {x:aw}(h:ee s.data.toList=some x):(s.toList==[])=false:=by
 rw[ByteArray.toList_eq];cases hq:s.data.toList with
 |nil=>rw[hq,q8]at h;cases h
 |cons a r=>rfl
def gy(s:aM)(h:aB s=true)(hs:s.size<=maxLen)(w:aj):xC 172 #[xS s,xB true] w (cr (xB true) w):=by
 have HR:=af (show xC 45 #[.agg #[xS s,xL none 0 0]] w (cr (xB true) w)by
  have h1:=fX xF (xL none 0 0) w ⟨s,[]⟩ (ab.nil _ _) hs;rw[xM h]at h1;exact h1);clear h;go_enter func172,ntmps172;go_wp2_with fail;refine bY (HR.o) λw1 aF=> ?_;have HB:=af aF;clear aF;go_wp2;go_ret;exact⟨rfl,HB.o⟩
def iV(w:aj):xC 172 #[xS ⟨#[]⟩,xB false] w (cr (xB true) w):=by
 go_enter func172,ntmps172;go_wp2;go_ret;exact⟨rfl,dQ⟩
def dG(b:Bool)(w:aj):xC 173 #[xS ⟨#[]⟩,xB b] w (cr (xB true) w):=by
 go_enter func173,ntmps173;go_wp2;go_ret;exact⟨rfl,dQ⟩
def BZ(s:aM)(x:aw)(h:ee s.data.toList=some x)(w:aj)(hT:Tb w):xC 173 #[xS s,xB true] w (cr (xB true) w):=by
 have hz:=uZ h;have HP:=af (AG s x h w hT);obtain⟨xk,xn,xs,xl⟩:=x;clear h hT;go_enter func173,ntmps173;go_wp2_with fail;refine(HP.o).mono ?_;rintro e w1⟨_,rfl,⟨u,rfl,gq⟩,aF⟩;obtain⟨a,cap,rfl,_⟩:=eC gq;have HB:=af aF;clear aF gq;go_wp2;go_ret;exact⟨rfl,HB.o.alloc HB.o.size _⟩
def Zv(k:Int):Array an:=
 if k=1 then#[xB false,xB true,xB false,xB true,xB true,xB false]
 else if k=2\/k=6 then#[xB true,xB false,xB false,xB false,xB false,xB false]
 else if k=3 then#[xB true,xB true,xB false,xB false,xB false,xB false]
 else if k=4 then#[xB true,xB false,xB false,xB true,xB true,xB false]
 else#[xB true,xB true,xB true,xB true,xB true,xB true]
def kF(k:Int)(h:k=1\/k=2\/k=3\/k=4\/k=5\/k=6)(w:aj):xC 171 #[xI k] w (cr (.tuple #[.agg (Zv k),xB true]) w):=by
 rcases h with rfl|rfl|rfl|rfl|rfl|rfl;all_goals
  go_enter func171,ntmps171;go_wp2_with fail;refine Qae (v:= .tuple #[.agg _,xB true]) (by simp[results,results171,go_sem];rfl) rfl ⟨rfl,?_⟩;exact bM
structure Zw(x:aC):Prop where
 sh:np x
 field:x.kind≠1->aB x.field=true
 name:(x.kind=1\/x.kind=3\/x.kind=5)->aB x.name=true
 more:x.kind=5->aB x.more=true
 type:(x.kind=1\/x.kind=4\/x.kind=5)->aG x.type=true
 expr:x.expr=⟨#[]⟩\/∃e,ee x.expr.data.toList=some e
 other:x.other=⟨#[]⟩\/∃e,ee x.other.data.toList=some e
 s1:x.field.size<=maxLen
 s2:x.name.size<=maxLen
 s3:x.more.size<=maxLen
def mE(a b c d e f:Bool):Obj:=xK #[xB a,xB b,xB c,xB d,xB e,xB f] 248
def fp {c4 c5:Value}(h:W.heap[g]? =some (xK #[c0,c1,c2,c3,c4,c5] t)):
 W.cell? ⟨g,0,none⟩=some c0/\W.cell? ⟨g,1,none⟩=some c1/\W.cell? ⟨g,2,none⟩=some c2/\W.cell? ⟨g,3,none⟩=some c3/\W.cell? ⟨g,4,none⟩=some c4/\W.cell? ⟨g,5,none⟩=some c5:=by simp[World.cell?,h]
def AH(k:Int)(f n m:aM)(tk tf:Int)(e o:aM)(b1 b2 b3 b4 b5 b6:Bool)(w:aj)
 (hn:∀W,xC 171 #[xI k] W (cr (.tuple #[.agg #[xB b1,xB b2,xB b3,xB b4,xB b5,xB b6],xB true]) W))
 (h1:∀W,xC 172 #[xS f,xB b1] W (cr (xB true) W))
 (h2:∀W,xC 172 #[xS n,xB b2] W (cr (xB true) W))
 (h3:∀W,xC 172 #[xS m,xB b3] W (cr (xB true) W))
 (h4:∀W,xC 168 #[.agg #[xI tk,xI tf]] W (cr (xB b4) W))
 (h5:∀W,aq w W->xC 173 #[xS e,xB b5] W (cr (xB true) W))
 (h6:∀W,aq w W->xC 173 #[xS o,xB b6] W (cr (xB true) W))(h0:b4=false->tk=0/\tf=0):
 xC 108 #[.agg #[xI k,xS f,xS n,xS m,xI tk,xI tf,xS e,xS o]] w (cr (xB true) w):=by
 have H1:=af h1;have H2:=af h2;have H3:=af h3;have H4:=af h4;have H5:=af h5;have H6:=af h6;have HN:=af hn;have H0:=af h0;clear h1 h2 h3 h4 h5 h6 hn h0;go_enter func108,ntmps108;go_wp2_with fail;refine bY (HN.o _) λw1 aF=> ?_;have aY:=af (((Bx.eD w (tA ⟨k,f,n,m,⟨tk,tf⟩,e,o⟩)).below aF).alloc (mE b1 b2 b3 b4 b5 b6));have fL:Hd ((w1.alloc (mE b1 b2 b3 b4 b5 b6)).heap[w1.heap.size]? =some (mE b1 b2 b3 b4 b5 b6)):=Qbh w1 _;clear aF;obtain⟨p0,p1,p2,p3,p4,p5,p6,p7⟩:=ak (aY.o.bG rfl);obtain⟨q0,q1,q2,q3,q4,q5⟩:=fp fL.o;unfold mE at p0 p1 p2 p3 p4 p5 p6 p7 q0 q1 q2 q3 q4 q5;go_wp2_with fail;refine bY (H1.o _) λw2 hb=> ?_;have fU:Hd (di w2 w1 (mE b1 b2 b3 b4 b5 b6)):=(hb.block _ (Qaa.1 fL.o).1).trans fL.o;have aQ:=af (aY.o.below hb);clear hb p0 p1 p2 p3 p4 p5 p6 p7 q0 q1 q2 q3 q4 q5;obtain⟨p0,p1,p2,p3,p4,p5,p6,p7⟩:=ak (aQ.o.bG rfl);obtain⟨q0,q1,q2,q3,q4,q5⟩:=fp fU.o;go_wp2_with fail;refine bY (H2.o _) λw3 hb=> ?_;have lq:Hd (di w3 w1 (mE b1 b2 b3 b4 b5 b6)):=(hb.block _ (Qaa.1 fU.o).1).trans fU.o;have bO:=af (aQ.o.below hb);clear hb p0 p1 p2 p3 p4 p5 p6 p7 q0 q1 q2 q3 q4 q5;obtain⟨p0,p1,p2,p3,p4,p5,p6,p7⟩:=ak (bO.o.bG rfl);obtain⟨q0,q1,q2,q3,q4,q5⟩:=fp lq.o;go_wp2_with fail;refine bY (H3.o _) λw4 hb=> ?_;have pL:Hd (di w4 w1 (mE b1 b2 b3 b4 b5 b6)):=(hb.block _ (Qaa.1 lq.o).1).trans lq.o;have dI:=af (bO.o.below hb);clear hb p0 p1 p2 p3 p4 p5 p6 p7 q0 q1 q2 q3 q4 q5;obtain⟨p0,p1,p2,p3,p4,p5,p6,p7⟩:=ak (dI.o.bG rfl);obtain⟨q0,q1,q2,q3,q4,q5⟩:=fp pL.o;have H00:Hd (b4=false->tk=0/\tf=0):=H0.o;go_upto_region 4 with fail;cases b4
 .obtain⟨rfl,rfl⟩:=H00.o rfl;have H4D:=af (H4.o w4.drew);go_region_law(first
   |(go_simp;go_at_call 168;refine bY (H4D.o) λw5 hb=> ?_;have oq:Hd (di w5 w1 (mE b1 b2 b3 false b5 b6)):=(hb.block _ (Qaa.1 pL.o).1).trans pL.o;have kK:=af (dI.o.drew.below hb);clear hb;have p4:=(ak (kK.o.bG rfl)).2.2.2.2.1;have p5:=(ak (kK.o.bG rfl)).2.2.2.2.2.1;have p6:=(ak (kK.o.bG rfl)).2.2.2.2.2.2.1;have p7:=(ak (kK.o.bG rfl)).2.2.2.2.2.2.2;have q3:=(fp oq.o).2.2.2.1;have q4:=(fp oq.o).2.2.2.2.1;have q5:=(fp oq.o).2.2.2.2.2));all_goals
   go_wp2_with fail;refine bY (H5.o _ kK.o.1) λw6 hb=> ?_;have C3:Hd (di w6 w1 (mE b1 b2 b3 false b5 b6)):=(hb.block _ (Qaa.1 oq.o).1).trans oq.o;have qt:=af (kK.o.below hb);clear hb p4 p5 p6 p7 q3 q4 q5;obtain⟨p0,p1,p2,p3,p4,p5,p6,p7⟩:=ak (qt.o.bG rfl);obtain⟨q0,q1,q2,q3,q4,q5⟩:=fp C3.o;go_wp2_with fail;refine bY (H6.o _ qt.o.1) λw7 hb=> ?_;have pJ:=af (qt.o.below hb);clear hb;go_wp2;go_ret;exact⟨rfl,pJ.o.1⟩
 .go_cut [53](λs53 wx=>s53=xB false/\Hd (Bx w [tA ⟨k,f,n,m,⟨tk,tf⟩,e,o⟩] wx/\di wx w1 (mE b1 b2 b3 true b5 b6)));case first=>
   first
    |(go_region_law(first
       |(go_simp;go_at_call 168;refine bY (H4.o _) λw5 hb=> ?_;have oq:Hd (di w5 w1 (mE b1 b2 b3 true b5 b6)):=(hb.block _ (Qaa.1 pL.o).1).trans pL.o;have kK:=af (dI.o.drew.below hb);have p4:=(ak (kK.o.bG rfl)).2.2.2.2.1;have p5:=(ak (kK.o.bG rfl)).2.2.2.2.2.1;have q3:=(fp oq.o).2.2.2.1;clear hb)))
    |fail
   all_goals(go_wp2;go_meet)
   all_goals exact⟨rfl,(show _/\_ from⟨kK.o,oq.o⟩)⟩
  case rest=>
   obtain⟨rfl,HR⟩:=hcut;obtain⟨w5,Td⟩:=bS (wc);subst Td;have kK:Hd (Bx w [tA ⟨k,f,n,m,⟨tk,tf⟩,e,o⟩] w5):=HR.o.1;have oq:Hd (di w5 w1 (mE b1 b2 b3 true b5 b6)):=HR.o.2;clear HR p0 p1 p2 p3 p4 p5 p6 p7 q0 q1 q2 q3 q4 q5;obtain⟨p0,p1,p2,p3,p4,p5,p6,p7⟩:=ak (kK.o.bG rfl);obtain⟨q0,q1,q2,q3,q4,q5⟩:=fp oq.o;go_wp2_with fail;refine bY (H5.o _ kK.o.1) λw6 hb=> ?_;have C3:Hd (di w6 w1 (mE b1 b2 b3 true b5 b6)):=(hb.block _ (Qaa.1 oq.o).1).trans oq.o;have qt:=af (kK.o.below hb);clear hb p0 p1 p2 p3 p4 p5 p6 p7 q0 q1 q2 q3 q4 q5;obtain⟨p0,p1,p2,p3,p4,p5,p6,p7⟩:=ak (qt.o.bG rfl);obtain⟨q0,q1,q2,q3,q4,q5⟩:=fp C3.o;go_wp2_with fail;refine bY (H6.o _ qt.o.1) λw7 hb=> ?_;have pJ:=af (qt.o.below hb);clear hb;go_wp2;go_ret;exact⟨rfl,pJ.o.1⟩
def zw(x:aC)(h:Zw x)(w:aj)(hT:Tb w):
 xC 108 #[.agg #[xI x.kind,xS x.field,xS x.name,xS x.more,xI x.type.kind,xI x.type.of,xS x.expr,xS x.other]] w (cr (xB true) w):=by
 have hk:x.kind=1\/x.kind=2\/x.kind=3\/x.kind=4\/x.kind=5\/x.kind=6:=by have:=h.sh;simp only[np]at this;omega
 have hF:∀(s:aM),(s=⟨#[]⟩\/∃e,ee s.data.toList=some e)->∀W,aq w W->xC 173 #[xS s,xB true] W (cr (xB true) W):=λs hs W hb=>by
  rcases hs with rfl|⟨e,he⟩
  .exact dG true W
  .exact BZ s e he W (hT.below hb)
 have hR:=λW=>qI x.type W;have nX:=h.sh;obtain⟨k,f,n,m,⟨tk,tf⟩,e,o⟩:=x;have F6:=h.field;have mW:=h.name;have FE:=h.more;have Ge:=h.type;have s1:=h.s1;have s2:=h.s2;have s3:=h.s3;have hex:=h.expr;have hot:=h.other;dsimp only at*;have t0:aG ⟨0,0⟩=false:=by decide
 simp only[np,aT.mk.injEq]at nX;rcases nX with⟨rfl,rfl,rfl,rfl⟩|⟨rfl,rfl,rfl,⟨rfl,rfl⟩,rfl,rfl⟩|⟨rfl,rfl,⟨rfl,rfl⟩,rfl,rfl⟩|⟨rfl,rfl,rfl,rfl⟩|rfl|⟨rfl,rfl,rfl,⟨rfl,rfl⟩,rfl,rfl⟩
 .exact AH _ _ _ _ _ _ _ _ false true false true true false w (kF 1 (by simp)) iV (gy _ (mW (by simp)) s2) iV (by rw[Ge (by simp)]at hR;exact hR) (hF _ hex) (λW _=>dG _ W) (by simp)
 .exact AH _ _ _ _ _ _ _ _ true false false false false false w (kF 2 (by simp)) (gy _ (F6 (by simp)) s1) iV iV (by rw[t0]at hR;exact hR) (λW _=>dG _ W) (λW _=>dG _ W) (by simp)
 .exact AH _ _ _ _ _ _ _ _ true true false false false false w (kF 3 (by simp)) (gy _ (F6 (by simp)) s1) (gy _ (mW (by simp)) s2) iV (by rw[t0]at hR;exact hR) (λW _=>dG _ W) (λW _=>dG _ W) (by simp)
 .exact AH _ _ _ _ _ _ _ _ true false false true true false w (kF 4 (by simp)) (gy _ (F6 (by simp)) s1) iV iV (by rw[Ge (by simp)]at hR;exact hR) (hF _ hex) (λW _=>dG _ W) (by simp)
 .exact AH _ _ _ _ _ _ _ _ true true true true true true w (kF 5 (by simp)) (gy _ (F6 (by simp)) s1) (gy _ (mW (by simp)) s2) (gy _ (FE (by simp)) s3) (by rw[Ge (by simp)]at hR;exact hR) (hF _ hex) (hF _ hot) (by simp)
 .exact AH _ _ _ _ _ _ _ _ true false false false false false w (kF 6 (by simp)) (gy _ (F6 (by simp)) s1) iV iV (by rw[t0]at hR;exact hR) (λW _=>dG _ W) (λW _=>dG _ W) (by simp)
def atA(h:bR w i o)(x:Obj):(w.alloc x).heap[i]? =some o:=(Array.getElem?_push_lt (Qaa.1 h).1).trans ((Array.getElem?_eq_getElem _).symm.trans h)
def iW(M:aN)(c:ax)(many:Int)(t:aT)(s:aM)(w:aj)(v:an):Prop:=
 ∃gf lb,v= .func (.func gf) #[] lb/\(∀args w,(callFunc gf args).run prog w= .ok (.enter gf args) w)/\
  (aG t=true->∀N:aN,(∀i,M i->N i)->(∀i,N i->M i\/w.heap.size<=i)->∀W,ai N w W->∀vv vs,ab N W vv vs->bh c.fields many vs->Bd N W->Gd W->xC gf (#[vv]++lb) W (cg W λu w'=>∃x,lB c t many s vs x/\ct N w' u x))
theorem ai.down(h:ai N w W)(k:∀i,N i->M i\/w.heap.size<=i):ai M w W:=⟨h.os,h.tape,h.output,h.size,λi hi hM=>h.block i hi λhN=>(k i hN).elim hM (by omega)⟩
def Ie(h:Below B w W)(hK:B<=K)(hB:B<=W.heap.size):Below B w (((((W.setCell ⟨K,0,none⟩ a0).setCell ⟨K,1,none⟩ a1).setCell ⟨K,2,none⟩ a2).setCell ⟨K,3,none⟩ a3).alloc o):=by
 exact(cW h hK).alloc (by simpa [World.setCell]using hB) o
theorem iW.only {t:aT}(h:iW M c many t s w v)(ho:ai M w w'):iW M c many t s w' v:=by
 obtain⟨gf,lb,h1,h2,h3⟩:=h;exact⟨gf,lb,h1,h2,λht N Q8 NZ W hW=>h3 ht N Q8 (λi hi=>(NZ i hi).imp_right λh=>Qcg ho.size h) W ((ho.mono Q8).trans hW)⟩
def Ig(t:aT)(ht:aG t=true)(M:aN)(W:aj)(vv:an)(hM:Bd M W)(p:Nat)(hp:bR W p (FT t.kind t.of)):
 xG 285 #[vv,xP p] W λu w'=>ct M w' u (kj t):=by
 have ij:p<W.heap.size:=(Qaa.1 hp).1;have hne:p≠W.heap.size:=by omega
 obtain⟨p0,p1⟩:=ah hp;obtain⟨⟨yk,yn,ys,yl⟩,hz⟩:∃z,z=kj t:=⟨_,rfl⟩;have HZ:Hd (∀w,xC 286 #[.agg #[xI t.kind,xI t.of]] w (cg w λv w'=>ct (ew M W 1) w' v (aA.mk yk yn ys yl))):=λw=>by rw[hz];exact OL t ht (ew M W 1) w
 rw[<-hz];have bW:=af (Bx.eD W (eN 0 0 ⟨#[]⟩ (xL none 0 0)));go_enter func285,ntmps285;go_wp2_with fail;refine(HZ.o _).mono ?_;rintro e w1⟨_,rfl,F1,aF⟩;obtain⟨ua,uc,rfl,Gg⟩:=dd F1;have HY:=af Gg;have HY2:Hd (ys.size<=maxLen):=sI F1;have aY:=af (bW.o.below aF);obtain⟨c0,c1,c2,c3⟩:=ae (aY.o.bG rfl);obtain⟨f0,f1,f2,f3⟩:=iK (aY.o.bG rfl);go_wp2_with fail;refine Qae (v:= .agg #[xI yk,xI yn,xS ys,xL ua yl.length uc]) (by simp[results,results285,go_sem,c0,c1,c2,c3]) rfl ⟨_,rfl,⟨_,rfl,kz (HY.o.ev ?_) HY2.o⟩,cW aY.o.1 bN⟩;exact((((fj w1).setCell (.inl (.inr ⟨by simp,by simp⟩)) _).setCell (.inl (.inr ⟨by simp,by simp⟩)) _).setCell (.inl (.inr ⟨by simp,by simp⟩)) _).setCell (.inl (.inr ⟨by simp,by simp⟩)) _
def Ih(c:ax)(hc:cG c)(many:Int)(hm:many<=100000)(e:aw)(t:aT)(hx:XOk e)(ht:kW c e t)(M:aN)(W:aj)(vv fv:an)(vs:List aA)(hM:Bd M W)(cq:ab M W fv c.fields)(dA:ab M W vv vs)(hv:bh c.fields many vs)(hg:Gd W)
 (p q:Nat)(k n:Int)(s:aM)(l:List aw)(lv:an)(he:e= .mk k n s l)(hl:ab M W lv l)(hs:s.size<=maxLen)(hp:bR W p (Eg k n s lv))(hq:bR W q (cU c.name fv)):
 xG 288 #[vv,xP p,xP q] W λu w'=>∃x,nu c t many e vs x/\ct M w' u x:=by
 have ij:p<W.heap.size:=(Qaa.1 hp).1;have hql:q<W.heap.size:=(Qaa.1 hq).1;have hne:p≠W.heap.size:=by omega
 have qaa:q≠W.heap.size:=by omega
 obtain⟨p0,p1,p2,p3⟩:=ae hp;obtain⟨q0,q1⟩:=ah hq;have gq:ct M W (.agg #[xI k,xI n,xS s,lv]) e:=⟨_,rfl,by rw[he];exact cH.iff.2 ⟨_,rfl,hl,hs⟩⟩;have HE:Hd (∀w,aq W w->W.heap.size+1<=w.heap.size->_):=λw hb h1=>Px c hc many hm e t hx ht (ew M W 1) w _ fv vv vs (dN hM h1) (gq.ev (dF hb)) (cq.ev (dF hb)) (dA.ev (dF hb)) hv (hg.below hb);have bW:=af (Bx.eD W (eN 0 0 ⟨#[]⟩ (xL none 0 0)));obtain⟨la,lc,rfl,_⟩:=hl.open_;obtain⟨fa,fc,rfl,_⟩:=cq.open_;obtain⟨va,vc,rfl,_⟩:=dA.open_;go_enter func288,ntmps288;go_wp2_with fail;refine(HE.o _ bM (by simp)).mono ?_;rintro e1 w1⟨_,rfl,⟨_,⟨yk,yn,ys,yl⟩,rfl,YK,F1⟩,aF⟩;obtain⟨ua,uc,rfl,Gg⟩:=dd F1;have HY:=af Gg;have TK:=af YK;have HY2:Hd (ys.size<=maxLen):=sI F1;have aY:=af (bW.o.below aF);have Ct:W.heap.size<w1.heap.size:=(Qaa.1 (aY.o.bG rfl)).1;obtain⟨c0,c1,c2,c3⟩:=ae (aY.o.bG rfl);obtain⟨f0,f1,f2,f3⟩:=iK (aY.o.bG rfl);go_wp2_with fail;refine Qae (v:= .agg #[xI yk,xI yn,xS ys,xL ua yl.length uc]) (by simp[results,results288,go_sem,c0,c1,c2,c3,Ct]) rfl ⟨_,rfl,⟨_,TK.o,⟨_,rfl,kz (HY.o.ev ?_) HY2.o⟩⟩,Ie aY.o.1 bN (by omega)⟩;exact(((((fj w1).setCell (.inl (.inr ⟨by simp,by simp⟩)) _).setCell (.inl (.inr ⟨by simp,by simp⟩)) _).setCell (.inl (.inr ⟨by simp,by simp⟩)) _).setCell (.inl (.inr ⟨by simp,by simp⟩)) _).alloc _
def AI(c:ax)(hc:cG c)(many:Int)(hm:many<=100000)(t:aT)(s:aM)(ht:oO c t s)(M:aN)(w:aj)(fv:an)(hM:Bd M w)(cq:ab M w fv c.fields)(hT:Tb w):
 xG 261 #[.agg #[xS c.name,fv],xS s, .agg #[xI t.kind,xI t.of]] w λv w'=>iW M c many t s w' v:=by
 have CA:∀(fn:Fn)(first cap:Array an)(w:aj),(Instr.makeFunc fn first cap).run prog w= .ok (.func fn first cap) w:=λ_ _ _ _=>rfl;have iL:=af cq;have HM:=af hM;rcases ht with hs|⟨x,hx⟩
 .obtain rfl:=fg hs;obtain⟨fa,fc,rfl,_⟩:=cq.open_;have bW:=af (Bx.dq w (cU c.name (xL fa c.fields.length fc)) (FT t.kind t.of));go_enter func261,ntmps261;go_wp2;go_ret;refine⟨_,rfl,⟨285,#[xP (w.heap.size+1)],rfl,enters_of func285 (by kernel_rfl) rfl,λGe N Q8 NZ W hW vv vs kZ dA hMW hgW=> ?_⟩,bW.o.1⟩;have hp:=hW.at_ (bW.o.bU rfl) (λh=>by
   have hl:=(Qaa.1 (bW.o.bU rfl)).1;rcases NZ _ h with h|h
   .have:=HM.o _ h;omega
   .exact absurd h (by simp));refine(Ig t Ge N W vv hMW (w.heap.size+1) hp).mono ?_;rintro e w1⟨u,rfl,hu,hb⟩;exact⟨u,rfl,⟨_,OG rfl Ge,hu⟩,hb⟩
 .have hz:=uZ hx.parse;have HPT:=af hx;obtain⟨T,h1,h2,h3,h4,h5,h6,h7⟩:=Py hx.parse;have HP:Hd (∀W,aq w W->xC 237 #[xS s] W (cg W (Po W x))):=λW hb=>AG s x HPT.o.parse W (hT.below hb);have Xa:Hd (∀W v,aq w W->ct M W v x->xC 287 #[v, .agg #[xS c.name,fv]] W λε w'=>ε=xR (.tuple #[.agg #[xI t.kind,xI t.of],xI 0])/\aq W w'):=λW v hb ha=>El c hc x t h7 HPT.o.ty M W v fv (HM.o.below hb) ha (iL.o.below hb) (hT.below hb);have Nu:=af h7;obtain⟨fa,fc,rfl,_⟩:=cq.open_;have bW:=af (Bx.dq w (cU c.name (xL fa c.fields.length fc)) (FT t.kind t.of));obtain⟨xk,xn,xs,xl⟩:=x;go_enter func261,ntmps261;go_wp2_with fail;refine(HP.o _ bW.o.1).mono ?_;rintro e w1⟨_,rfl,⟨u,rfl,gq⟩,aF⟩;obtain⟨cs,rfl,bV⟩:=gq;obtain⟨av,rfl,bI,ke⟩:=cH.iff.1 bV;obtain⟨xa,xc,rfl,_⟩:=bI.open_;have aY:=af (bW.o.below aF);have gp:Hd (ab M w1 (xL xa xl.length xc) xl):=bI.ev (Ev.dD w1 λi hi=>by
   have h1:=HM.o _ hi;show i<_;simp;omega);have tG:Hd (ct M w1 (.agg #[xI xk,xI xn,xS xs,xL xa xl.length xc]) (aw.mk xk xn xs xl)):=⟨_,rfl,cH.iff.2 ⟨_,rfl,gp.o,ke⟩⟩;have uD:w.heap.size<w1.heap.size:=(Qaa.1 (aY.o.bG rfl)).1;have Ct:w.heap.size+1<w1.heap.size:=(Qaa.1 (aY.o.bU rfl)).1;obtain⟨a0,a1⟩:=ah (aY.o.bG rfl);go_wp2_with fail;refine bY (Xa.o _ _ (aY.o.1.alloc aY.o.1.size _) (tG.o.ev ((Ev.refl _ _).alloc _))) λw2 bC=> ?_;have fU:=af (boxed bC);have aQ:=af (aY.o.below (aU bC));have Q9:=af (gp.o.below (aU bC));have qeh:=af (iL.o.below aQ.o.1);obtain⟨b0,b1⟩:=ah (aQ.o.bU rfl);have Bh:w.heap.size+1<w2.heap.size:=(Qaa.1 (aQ.o.bU rfl)).1;go_wp2;go_ret;refine⟨_,rfl,⟨288,#[xP w1.heap.size,xP w.heap.size],rfl,enters_of func288 (by kernel_rfl) rfl,λGe N Q8 NZ W hW vv vs kZ dA hMW hgW=> ?_⟩,(aQ.o.alloc _).1⟩;have RA:=(Qaa.1 fU.o).1;have hN3:∀i,N i->M i\/w2.heap.size+1<=i:=λi hi=>by simpa using NZ i hi
  have hp:=hW.at_ (atA fU.o _) (λh=>by
   rcases hN3 _ h with h|h
   .have:=HM.o _ h;omega
   .omega);have hq:=hW.at_ (atA (aQ.o.bG rfl) _) (λh=>by
   rcases hN3 _ h with h|h
   .have:=HM.o _ h;omega
   .omega);have hWM:=hW.down NZ;have qbe:∀i,N i->M i\/w2.heap.size<=i:=λi hi=>(hN3 i hi).imp_right λh=>by omega
  refine(Ih c hc many hm _ t Nu.o HPT.o.ty N W vv _ vs hMW (qeh.o.ev ⟨((ai.refl _ _).alloc _).trans hWM,qbe⟩) kZ dA hgW _ _ _ _ _ _ _ rfl (Q9.o.ev ⟨((ai.refl _ _).alloc _).trans hWM,qbe⟩) ?_ hp hq).mono ?_
  .exact ke
  .rintro e w3⟨u,rfl,⟨x,hx,hu⟩,hb⟩;exact⟨u,rfl,⟨x,Lv HPT.o.parse HPT.o.ty hx,hu⟩,hb⟩
end
section
open Go.RowKit Go.Shelf
def u4 {α:Type}(ls:List (List α))(i:Nat):(ls.take i).flatten.length<=ls.flatten.length:=by
 conv=>rhs;rw[<-List.take_append_drop i ls,List.flatten_append,Qda]
 omega
def gz {α:Type}{ls:List (List α)}{l:List α}(h:ls[i]? =some l):(ls.take (i+1)).flatten=(ls.take i).flatten++l:=by
 rw[Qbb,h];simp
def v8 {α:Type} [au α]{xs:List α}(h:aK M base e W v xs)(hbs:base=w.heap.size)(hb:aq w W):Ev M w (bg v M) W:=
 ⟨ai.ao hb,λi hi=>by
   rcases hi with hi|hi
   .exact .inl hi
   .exact .inr (by rw[<-hbs];exact(h.cJ i hi).1)⟩
def uq {α:Type} [au α](M:aN)(w:aj)(b:Nat)(rows:List an)(ls:List (List α)):Prop:=
 rows.length=ls.length/\b<w.heap.size/\(∀i v,rows[i]? =some v->w.cell? ⟨b,i,none⟩=some v)/\∀(i:Nat)(v:an)(l:List α),rows[i]? =some v->ls[i]? =some l->ab M w v l
theorem uq.get {α:Type} [au α]{rows:List Value}{ls:List (List α)}(h:uq M w b rows ls)(hi:i<ls.length):
 ∃a c,∃l:List α,ls[i]? =some l/\ab M w (xL a l.length c) l/\∀W,aq w W->W.cell? ⟨b,i,none⟩=some (xL a l.length c):=by
 obtain⟨h1,h2,h3,h4⟩:=h;obtain⟨l,hl⟩:=eB ls i hi;obtain⟨v,hv⟩:=eB rows i (by omega);have hs:=h4 i v l hv hl;obtain⟨a,c,rfl,_⟩:=hs.open_;refine⟨a,c,l,hl,hs,λW hb=> ?_⟩;rw[hb.cell h2];exact h3 i _ hv
def iX:Go.Shelf.Ren:=⟨λ|4=>373|n=>n,λ|22=>45|25=>60|3=>3|4=>4|9=>9|20=>20|0=>0|n=>n,λ|n=>n⟩
def qQ:Go.Proofs.Lays8.n4 prog iX:={
 mixed:=by kernel_rfl
 f4:=⟨Tryz.f373.name,by decide,Tryz.func373.trans (congrArg some (by kernel_rfl))⟩
 t0:=underlying0
 a0:=isAgg0
 z0:=sizeOf0
 v0:=zeroValue0
 t3:=underlying3
 a3:=isAgg3
 z3:=sizeOf3
 v3:=zeroValue3
 t4:=underlying4
 a4:=isAgg4
 z4:=sizeOf4
 v4:=zeroValue4
 t9:=underlying9
 a9:=isAgg9
 z9:=sizeOf9
 v9:=zeroValue9
 t20:=underlying20
 a20:=isAgg20
 z20:=sizeOf20
 v20:=zeroValue20
 t22:=underlying45
 a22:=isAgg45
 z22:=sizeOf45
 v22:=zeroValue45}
def Ii:iX.f 4=373:=by kernel_rfl
def yd:iX.t 25=60:=by kernel_rfl
def B3(M:aN)(n:Nat)(hn:n<=1000)(w:aj):xG 373 #[xL none 0 0,xI n] w λv w'=>aK (α:=az) M w.heap.size 60 w' v []:=by
 obtain⟨i0,ed,ej,dO,er⟩:=info_parts iz;rw[<-Ii];by_cases h0:n=0
 .subst h0;refine(Any8.slices_Grow_room qQ none 0 0 0 w bN (by decide) (by decide) bN).mono ?_;rintro e w1⟨rfl,rfl⟩;exact⟨_,rfl,aK.nil _ _ _ _,dQ⟩
 .refine(Any8.slices_Grow_grow qQ i0 _ (by rw[yd];exact ed) ej (by rw[dO];decide) none 0 0 n [] w bN (by omega) (by rw[er];omega) (by omega) (by simp) (λ_=>rfl) (λa h=>by cases h)).mono ?_;rintro e w1⟨rfl,rfl⟩;rw[yd];refine⟨_,rfl,aK.made (w:=w.drew) M _ _ bN (grownCap_le_maxLen w _ _ _ (by unfold maxLen;omega)) ?_,dQ.drew.alloc bN _⟩;have KE:=grownCap_ge w (0+n) 0 60;simp only[Array.size_append,size_zeroCells];show 0+(0+n-0)*4+(grownCap w (0+n) 0 60-(0+n))*4=grownCap w (0+n) 0 60*4;omega
def pd(M:aN)(w:aj)(hM:Bd M w)(b n:Nat)(rows:List an)(ls:List (List az))(h:uq M w b rows ls)(hn:ls.length=n)(hl:ls.flatten.length<=40)(h3:n<=3):
 xG 332 #[xL (some ⟨b,0,none⟩) n n] w λv w'=>ab M w' v ls.flatten:=by
 obtain⟨i0,ed,ej,dO,er⟩:=info_parts iz;have HG:=af (B3 M ls.flatten.length (by omega) w);have HR:=af h;have cR:b<w.heap.size:=h.2.1;have KR:=af (λi=>u4 ls i);have eF:=af hn;clear hn;clear h;go_enter func332,ntmps332;go_wp2_with fail;obtain⟨LL,Xj⟩:∃L,L=ls.flatten.length:=⟨_,rfl⟩;rw[<-Xj]at hl HG;have CV:=af Xj;clear Xj;go_loopg [3,5,11]n(λg r3 r5 iv wr=>∃i L:Nat,i<=n/\g=n-i/\iv=xI i/\r3=xI (L:Int)/\Hd (L=(ls.take i).flatten.length)/\w=wr);case atStart=>exact⟨0,0,Qbf _,rfl,rfl,rfl,(show _=_ by simp),rfl⟩
 case round=>
  obtain⟨i,L,hi,rfl,rfl,rfl,HL,rfl⟩:=hrel;by_cases bu:i<n
  .obtain⟨a,c,l,hx,bI,aL⟩:=HR.o.get (i:=i) (by rw[eF.o];exact bu);have q0:=aL w dQ;obtain⟨m,hm⟩:=bS (l.length);have hk:L+m=(ls.take (i+1)).flatten.length:=by rw[gz hx,Qda,<-HL.o,hm]
   have oF:L+m<=40:=by have:=KR.o (i+1);have:=CV.o;omega
   have HK:=af hk;rw[<-hm]at q0;clear hx bI aL hk hm;go_wp2;go_roundg(n-(i+1));case measure=>omega
   case rel=>exact⟨i+1,L+m,by omega,rfl,by go_num,by go_num,HK,rfl⟩
  .have hii:i=n:=by omega
   subst hii;obtain rfl:L=LL:=by rw[HL.o,CV.o,Qah (by rw[eF.o];exact bN)]
   go_wp2_with fail;refine(HG.o).mono ?_;rintro e w1⟨_,rfl,hacc,aF⟩;obtain⟨a0,c0,rfl,_⟩:=hacc.open_;have HA0:=af hacc;have jN:=af aF;clear hacc aF;go_wp2;go_loopg [6,8,27]i(λg r6 r8 iv wr2=>∃(k c1 K:Nat)(a1:fA),k<=i/\g=i-k/\iv=xI k/\r6=xL a1 K c1/\Hd (K=(ls.take k).flatten.length)/\Hd (aK M w.heap.size 60 wr2 (xL a1 K c1) (ls.take k).flatten)/\Hd (aq w wr2));case atStart=>exact⟨0,c0,0,a0,Qbf _,rfl,rfl,rfl,(show _=_ by simp),HA0,jN⟩
   case round=>
    obtain⟨k,c1,K,a1,hk,rfl,rfl,rfl,HK,HA,HB⟩:=hrel;by_cases Q5:k<i
    .obtain⟨a,c,l,hx,bI,aL⟩:=HR.o.get (i:=k) (by rw[eF.o];exact Q5);obtain⟨m,hm⟩:=bS (l.length);have ou:K+m=(ls.take (k+1)).flatten.length:=by rw[gz hx,Qda,<-HK.o,hm]
     have oF:K+m<=40:=by have:=KR.o (k+1);have:=CV.o;omega
     have nG:=af (gz hx);have q0:=aL _ HB.o;have gp:=af bI;have zO:=af ou;have zJ:=af hm;rw[<-hm]at q0;clear hx bI aL ou hm;have Xk:Hd ((ls.take k).flatten.length=K):=HK.o.symm;have yX:Hd (l.length=m):=zJ.o.symm;go_wp2_with(at_builtin;go_loud(refine cZ (α:=az) rfl _ _ _ rfl M w.heap.size 60 i0 _ 40 underlying45 ed ej dO er rfl (by decide) (.slice a1 K c1) (ls.take k).flatten rfl HA.o (.slice a m c) l rfl (by rw[zJ.o];exact gp.o.ev (v8 HA.o rfl HB.o)) (by rw[Xk.o,yX.o];unfold maxLen;omega) (by rw[Xk.o,yX.o];omega) HB.o.size ?_);rw[Xk.o,yX.o,<-nG.o];intro a2 c2 w2 bj dz bC;have dh:=af bj;have bO:=af (HB.o.trans bC);clear bj dz bC);go_roundg(i-(k+1));case measure=>omega
     case rel=>exact⟨k+1,c2,K+m,a2,by omega,rfl,by go_num,rfl,zO,dh,bO⟩
    .go_wp2;go_ret;refine⟨_,rfl,?_,HB.o⟩;have h1:=HA.o.slice hM;rwa [Qah (by rw[eF.o];omega)]at h1
def kh:Go.Shelf.Ren:=⟨λ|4=>374|n=>n,λ|22=>42|25=>44|3=>3|4=>4|9=>9|20=>20|0=>0|n=>n,λ|n=>n⟩
def u6:Go.Proofs.Lays8.n4 prog kh:={
 mixed:=by kernel_rfl
 f4:=⟨Tryz.f374.name,by decide,Tryz.func374.trans (congrArg some (by kernel_rfl))⟩
 t0:=underlying0
 a0:=isAgg0
 z0:=sizeOf0
 v0:=zeroValue0
 t3:=underlying3
 a3:=isAgg3
 z3:=sizeOf3
 v3:=zeroValue3
 t4:=underlying4
 a4:=isAgg4
 z4:=sizeOf4
 v4:=zeroValue4
 t9:=underlying9
 a9:=isAgg9
 z9:=sizeOf9
 v9:=zeroValue9
 t20:=underlying20
 a20:=isAgg20
 z20:=sizeOf20
 v20:=zeroValue20
 t22:=underlying42
 a22:=isAgg42
 z22:=sizeOf42
 v22:=zeroValue42}
def Pz:kh.f 4=374:=by kernel_rfl
def Em:kh.t 25=44:=by kernel_rfl
def Ij(M:aN)(n:Nat)(hn:n<=1000)(w:aj):xG 374 #[xL none 0 0,xI n] w λv w'=>aK (α:=aA) M w.heap.size 44 w' v []:=by
 obtain⟨i0,ed,ej,dO,er⟩:=info_parts gY;rw[<-Pz];by_cases h0:n=0
 .subst h0;refine(Any8.slices_Grow_room u6 none 0 0 0 w bN (by decide) (by decide) bN).mono ?_;rintro e w1⟨rfl,rfl⟩;exact⟨_,rfl,aK.nil _ _ _ _,dQ⟩
 .refine(Any8.slices_Grow_grow u6 i0 _ (by rw[Em];exact ed) ej (by rw[dO];decide) none 0 0 n [] w bN (by omega) (by rw[er];omega) (by omega) (by simp) (λ_=>rfl) (λa h=>by cases h)).mono ?_;rintro e w1⟨rfl,rfl⟩;rw[Em];refine⟨_,rfl,aK.made (w:=w.drew) M _ _ bN (grownCap_le_maxLen w _ _ _ (by unfold maxLen;omega)) ?_,dQ.drew.alloc bN _⟩;have KE:=grownCap_ge w (0+n) 0 44;simp only[Array.size_append,size_zeroCells];show 0+(0+n-0)*4+(grownCap w (0+n) 0 44-(0+n))*4=grownCap w (0+n) 0 44*4;omega
def sJ(M:aN)(w:aj)(hM:Bd M w)(b n:Nat)(rows:List an)(ls:List (List aA))(h:uq M w b rows ls)(hn:ls.length=n)(hl:ls.flatten.length<=40)(h3:n<=3):
 xG 333 #[xL (some ⟨b,0,none⟩) n n] w λv w'=>ab M w' v ls.flatten:=by
 obtain⟨i0,ed,ej,dO,er⟩:=info_parts gY;have HG:=af (Ij M ls.flatten.length (by omega) w);have HR:=af h;have cR:b<w.heap.size:=h.2.1;have KR:=af (λi=>u4 ls i);have eF:=af hn;clear hn;clear h;go_enter func333,ntmps333;go_wp2_with fail;obtain⟨LL,Xj⟩:∃L,L=ls.flatten.length:=⟨_,rfl⟩;rw[<-Xj]at hl HG;have CV:=af Xj;clear Xj;go_loopg [3,5,11]n(λg r3 r5 iv wr=>∃i L:Nat,i<=n/\g=n-i/\iv=xI i/\r3=xI (L:Int)/\Hd (L=(ls.take i).flatten.length)/\w=wr);case atStart=>exact⟨0,0,Qbf _,rfl,rfl,rfl,(show _=_ by simp),rfl⟩
 case round=>
  obtain⟨i,L,hi,rfl,rfl,rfl,HL,rfl⟩:=hrel;by_cases bu:i<n
  .obtain⟨a,c,l,hx,bI,aL⟩:=HR.o.get (i:=i) (by rw[eF.o];exact bu);have q0:=aL w dQ;obtain⟨m,hm⟩:=bS (l.length);have hk:L+m=(ls.take (i+1)).flatten.length:=by rw[gz hx,Qda,<-HL.o,hm]
   have oF:L+m<=40:=by have:=KR.o (i+1);have:=CV.o;omega
   have HK:=af hk;rw[<-hm]at q0;clear hx bI aL hk hm;go_wp2;go_roundg(n-(i+1));case measure=>omega
   case rel=>exact⟨i+1,L+m,by omega,rfl,by go_num,by go_num,HK,rfl⟩
  .have hii:i=n:=by omega
   subst hii;obtain rfl:L=LL:=by rw[HL.o,CV.o,Qah (by rw[eF.o];exact bN)]
   go_wp2_with fail;refine(HG.o).mono ?_;rintro e w1⟨_,rfl,hacc,aF⟩;obtain⟨a0,c0,rfl,_⟩:=hacc.open_;have HA0:=af hacc;have jN:=af aF;clear hacc aF;go_wp2;go_loopg [6,8,27]i(λg r6 r8 iv wr2=>∃(k c1 K:Nat)(a1:fA),k<=i/\g=i-k/\iv=xI k/\r6=xL a1 K c1/\Hd (K=(ls.take k).flatten.length)/\Hd (aK M w.heap.size 44 wr2 (xL a1 K c1) (ls.take k).flatten)/\Hd (aq w wr2));case atStart=>exact⟨0,c0,0,a0,Qbf _,rfl,rfl,rfl,(show _=_ by simp),HA0,jN⟩
   case round=>
    obtain⟨k,c1,K,a1,hk,rfl,rfl,rfl,HK,HA,HB⟩:=hrel;by_cases Q5:k<i
    .obtain⟨a,c,l,hx,bI,aL⟩:=HR.o.get (i:=k) (by rw[eF.o];exact Q5);obtain⟨m,hm⟩:=bS (l.length);have ou:K+m=(ls.take (k+1)).flatten.length:=by rw[gz hx,Qda,<-HK.o,hm]
     have oF:K+m<=40:=by have:=KR.o (k+1);have:=CV.o;omega
     have nG:=af (gz hx);have q0:=aL _ HB.o;have gp:=af bI;have zO:=af ou;have zJ:=af hm;rw[<-hm]at q0;clear hx bI aL ou hm;have Xk:Hd ((ls.take k).flatten.length=K):=HK.o.symm;have yX:Hd (l.length=m):=zJ.o.symm;go_wp2_with(at_builtin;go_loud(refine cZ (α:=aA) rfl _ _ _ rfl M w.heap.size 44 i0 _ 56 underlying42 ed ej dO er rfl (by decide) (.slice a1 K c1) (ls.take k).flatten rfl HA.o (.slice a m c) l rfl (by rw[zJ.o];exact gp.o.ev (v8 HA.o rfl HB.o)) (by rw[Xk.o,yX.o];unfold maxLen;omega) (by rw[Xk.o,yX.o];omega) HB.o.size ?_);rw[Xk.o,yX.o,<-nG.o];intro a2 c2 w2 bj dz bC;have dh:=af bj;have bO:=af (HB.o.trans bC);clear bj dz bC);go_roundg(i-(k+1));case measure=>omega
     case rel=>exact⟨k+1,c2,K+m,a2,by omega,rfl,by go_num,rfl,zO,dh,bO⟩
    .go_wp2;go_ret;refine⟨_,rfl,?_,HB.o⟩;have h1:=HA.o.slice hM;rwa [Qah (by rw[eF.o];omega)]at h1
def zx {fr:Nat×Nat}(u:an)(h:bR w g (.cells cur t fr)):(w.setCell ⟨g,j,none⟩ u).heap[g]? =some (.cells (cur.setIfInBounds j u) t fr):=by
 obtain⟨hl,h'⟩:=Qaa.1 h;show(w.heap.modify g _)[g]? =_;rw[Array.getElem?_eq_getElem (by simpa using hl),Array.getElem_modify_self,h'];rfl
def En {size n:Nat}{xs:List an}(h:w.ownsRow base e size (xL (some ⟨g,0,none⟩) n cap) n xs)(u:an):
 (w.setCell ⟨g,j,none⟩ u).ownsRow base e size (xL (some ⟨g,0,none⟩) n cap) n (xs.set j u):=by
 obtain⟨h1,h2|⟨g',ig,cur,hv,hg,hh,hn,hm,hs,hx⟩⟩:=h
 .cases h2.1
 .obtain⟨rfl,rfl⟩:g=g'/\cap=ig:=by simpa using hv
  refine⟨by simpa using h1, .inr ⟨g,cap,_,rfl,hg,zx u hh,hn,hm,by simpa using hs,?_⟩⟩;rw[<-hx];simp[List.take_set]
def Eo {css:List (List an)}{size:Nat}(hs:∀(i:Nat)(cs:List an),css[i]? =some cs->cs.length=size):∀(i j:Nat)(cs:List an)(u:an),css[i]? =some cs->j<size->css.flatten.set (i*size+j) u=(css.set i (cs.set j u)).flatten:=by
 induction css with
 |nil=>intro i j cs u h;simp at h
 |cons a r ih=>
  intro i j cs u hi hj;have ha:a.length=size:=hs 0 a rfl;cases i with
  |zero=>
   simp at hi;subst hi;simp only[Nat.zero_mul,Nat.zero_add,List.flatten_cons,List.set_cons_zero];rw[List.set_append_left _ _ (by omega)]
  |succ i=>
   have ZW:r[i]? =some cs:=by simpa using hi
   have:=ih (λk c hk=>hs (k+1) c (by simpa using hk)) i j cs u ZW hj;simp only[List.flatten_cons,List.set_cons_succ];rw[List.set_append_right _ _ (by rw[ha,Nat.succ_mul];omega),ha,<-this];congr 2;rw[Nat.succ_mul];omega
theorem aK.cell {α:Type} [au α]{n:Nat}{xs:List α}(h:aK M base e w (xL (some ⟨g,0,none⟩) n cap) xs){x y:α}(hx:xs[i]? =some x)(hj:j<au.size α)(u:an)
 (hr:∀cs W,au.rep (bg (xL (some ⟨g,0,none⟩) n cap) M) W cs x->Ev (bg (xL (some ⟨g,0,none⟩) n cap) M) w (bg (xL (some ⟨g,0,none⟩) n cap) M) W->au.rep (bg (xL (some ⟨g,0,none⟩) n cap) M) W (cs.set j u) y):
 aK M base e (w.setCell ⟨g,i*au.size α+j,none⟩ u) (xL (some ⟨g,0,none⟩) n cap) (xs.set i y):=by
 have hn:=h.open_;obtain⟨_,_,hn,_⟩:=hn;injection hn with _ hn _;subst hn;have hE:Ev (bg (xL (some ⟨g,0,none⟩) xs.length cap) M) w (bg (xL (some ⟨g,0,none⟩) xs.length cap) M) (w.setCell ⟨g,i*au.size α+j,none⟩ u):=(Ev.refl _ _).setCell (.inl (.inr rfl)) u;obtain⟨css,h1,h2,h3⟩:=h;have ze:=(Qad.1 hx).1;obtain⟨cs,bJ⟩:=eB css i (by omega);have hlen:∀(k:Nat)(c:List an),css[k]? =some c->c.length=au.size α:=λk c hc=>by
  obtain⟨z,hz⟩:=eB xs k (by rw[<-h2];exact(Qad.1 hc).1);exact au.len (h3 k c z hc hz)
 refine⟨css.set i (cs.set j u),?_,by simpa using h2,λk c z hc hz=> ?_⟩
 .rw[<-Eo hlen i j cs u bJ hj,List.length_set];exact En h1 u
 .by_cases hki:k=i
  .subst hki;rw[List.getElem?_set_self (by omega)]at hc hz;obtain rfl:=Option.some.inj hc;obtain rfl:=Option.some.inj hz;exact hr _ _ (au.ev (h3 k cs x bJ hx) hE) hE
  .rw[List.getElem?_set_ne (by omega)]at hc hz;exact au.ev (h3 k c z hc hz) hE
def jK(M:aN)(w:aj)(v:an)(l:List az)(h:ab M w v l)(hl:l.length<=40):
 xG 330 #[v] w λv w'=>aK M w.heap.size 60 w' v l:=by
 obtain⟨i0,ed,ej,dO,er⟩:=info_parts iz;have HS:=af h;obtain⟨a,c,rfl,cV,lL,ho⟩:=h.open_;have HE:Hd (aK (α:=az) M w.heap.size 60 (w.alloc (xK #[] 60)) (xL (some ⟨w.heap.size,0,none⟩) 0 0) []):=aK.made M #[] 0 bN (by unfold maxLen;omega) rfl;have q89:∀(w:aj)(a:fA)(n c n' c':Nat),(binOp .eql 45 (.slice a n c) (.slice none n' c')).run prog w= .ok (.bool a.isNone) w:=λw a n c n' c'=>Lib.run_eql_slice_nil w _ _ a n c n' c' underlying45;obtain⟨n,hn⟩:=jO (l.length);have HO:Hd (a=none->l=[]):=λha=>by
  by_cases hp:0<l.length
  .obtain⟨b,off,h1,_⟩:=ho hp;rw[ha]at h1;cases h1
  .exact List.length_eq_zero_iff.1 (by omega)
 rw[hn]at hl cV⊢;have gE:=af (show ab M w (xL a n c) l by rw[<-hn];exact HS.o);have HN:=af hn;cases a with
 |none=>
  obtain rfl:=HO.o rfl;go_enter func330,ntmps330;go_wp2;go_ret;exact⟨_,rfl,aK.nil _ _ _ _,dQ⟩
 |some adr=>
 go_enter func330,ntmps330;go_wp2_with(at_builtin;go_loud(refine cZ (α:=az) rfl _ _ _ rfl M w.heap.size 60 i0 _ 40 underlying45 ed ej dO er rfl (by decide) (.slice (some ⟨w.heap.size,0,none⟩) 0 0) [] rfl HE.o (.slice (some adr) n c) l rfl (gE.o.ev (v8 HE.o rfl bM)) (by rw[HN.o];simp;unfold maxLen;omega) (by rw[HN.o];simp;omega) (by simp) ?_);rw[HN.o];simp only[Qcd,Nat.zero_add,List.nil_append];intro a2 c2 w2 bj dz bC;have dh:=af bj;have bO:Hd (aq w w2):=bM.trans bC;clear bj dz bC);go_ret;exact⟨_,rfl,dh.o,bO.o⟩
def qR(nm:aM)(fv:an)(x:aC)(a:Int)(b:Bool)(g1 g2:an):Obj:=
 xK #[xS nm,fv,xI x.kind,xS x.field,xS x.name,xS x.more,xI x.type.kind,xI x.type.of,xS x.expr,xS x.other,xI a,xB b,g1,g2] 341
structure WkC(W:aj)(p:Nat)(nm:aM)(fv:an)(x:aC)(a:Int)(b:Bool)(g1 g2:an):Prop where
 c0:W.cell? ⟨p,0,none⟩=some (xS nm)
 c1:W.cell? ⟨p,1,none⟩=some fv
 c2:W.cell? ⟨p,2,none⟩=some (xI x.kind)
 c3:W.cell? ⟨p,3,none⟩=some (xS x.field)
 c4:W.cell? ⟨p,4,none⟩=some (xS x.name)
 c5:W.cell? ⟨p,5,none⟩=some (xS x.more)
 c6:W.cell? ⟨p,6,none⟩=some (xI x.type.kind)
 c7:W.cell? ⟨p,7,none⟩=some (xI x.type.of)
 c8:W.cell? ⟨p,8,none⟩=some (xS x.expr)
 c9:W.cell? ⟨p,9,none⟩=some (xS x.other)
 ca:W.cell? ⟨p,10,none⟩=some (xI a)
 cb:W.cell? ⟨p,11,none⟩=some (xB b)
 cc:W.cell? ⟨p,12,none⟩=some g1
 cd:W.cell? ⟨p,13,none⟩=some g2
def cN {a:Int}{b:Bool}{g1 g2:Value}(h:W.heap[p]? =some (qR nm fv x a b g1 g2)):WkC W p nm fv x a b g1 g2:=by
 have g:∀(j:Nat)(u:Value),(#[xS nm,fv,xI x.kind,xS x.field,xS x.name,xS x.more,xI x.type.kind,xI x.type.of,xS x.expr,xS x.other,xI a,xB b,g1,g2]:Array Value)[j]? =some u->W.cell? ⟨p,j,none⟩=some u:=λj u hj=>by
  simp only[World.cell?,h,qR];exact hj
 exact⟨g 0 _ rfl,g 1 _ rfl,g 2 _ rfl,g 3 _ rfl,g 4 _ rfl,g 5 _ rfl,g 6 _ rfl,g 7 _ rfl,g 8 _ rfl,g 9 _ rfl,g 10 _ rfl,g 11 _ rfl,g 12 _ rfl,g 13 _ rfl⟩
theorem WkC.below {a:Int}{b:Bool}{g1 g2:an}(h:WkC W p nm fv x a b g1 g2)(hp:p<W.heap.size)(hb:aq W W'):WkC W' p nm fv x a b g1 g2:=by
 have e:∀j,W'.cell? ⟨p,j,none⟩=W.cell? ⟨p,j,none⟩:=λj=>hb.cell hp;exact⟨(e _).trans h.c0,(e _).trans h.c1,(e _).trans h.c2,(e _).trans h.c3,(e _).trans h.c4,(e _).trans h.c5,(e _).trans h.c6,(e _).trans h.c7,(e _).trans h.c8,(e _).trans h.c9,(e _).trans h.ca,(e _).trans h.cb,(e _).trans h.cc,(e _).trans h.cd⟩
def ur {n:Nat}{xs:List az}(h:aK M base e w (xL a n cap) xs)(hx:xs[i]? =some f):
 ∃g,a=some ⟨g,0,none⟩/\base<=g/\g<w.heap.size/\(w.cell? ⟨g,i*4,none⟩=some (xS f.name)/\w.cell? ⟨g,i*4+1,none⟩=some (xI f.type.kind)/\w.cell? ⟨g,i*4+2,none⟩=some (xI f.type.of)/\w.cell? ⟨g,i*4+3,none⟩=some (xB f.indexed))/\∀j,w.frozen? ⟨g,j,none⟩=false:=by
 obtain⟨css,h1,h2,h3⟩:=h;have ze:=(Qad.1 hx).1;obtain⟨cs,bJ⟩:=eB css i (by omega);have hlen:∀(k:Nat)(c:List Value),css[k]? =some c->c.length=4:=λk c hc=>by
  obtain⟨z,hz⟩:=eB xs k (by rw[<-h2];exact(Qad.1 hc).1);exact au.len (h3 k c z hc hz)
 obtain⟨hl,hv|⟨g,ig,cur,hv,hg,hh,hn,hm,hs,TE⟩⟩:=h1
 .have:=hv.2;omega
 .injection hv with ha hn' hc';have yV:=(Qaa.1 hh).1;have G:∀(j:Nat)(u:Value),cs[j]? =some u->w.cell? ⟨g,i*4+j,none⟩=some u:=λj u hj=>by
   have h4:=iu hlen i cs j u bJ hj;rw[<-TE]at h4;have h5:cur.toList[i*4+j]? =some u:=by
    rw[List.getElem?_take]at h4;split at h4
    .exact h4
    .cases h4
   simp only[World.cell?,hh];simpa using h5
  have hr:=(h3 i cs f bJ hx).1;subst hr;refine⟨g,ha,hg,yV,⟨G 0 _ rfl,G 1 _ rfl,G 2 _ rfl,G 3 _ rfl⟩,λj=>ag hh j⟩
theorem ab.PA {α:Type} [au α]{xs:List α}(h:ab M w v xs):ab M w.drew v xs:=h.below dQ.drew
def Md(M:Nat->Prop)(w:World)(hM:Bd M w)(c:ax)(fv:Value)(x:aC)(b:Bool)(g1 g2:Value)(p:Nat)(pre post:List az)(f:az)(ha:iA c x.field pre f post)(hk:x.kind=3)(Nd:x.name.size<=maxLen)(h8:c.fields.length<=8)
 (hp:bR w p (qR c.name fv x pre.length b g1 g2))(cq:ab M w fv c.fields):
 xG 297 #[xP p] w λv w'=>ab M w' v (bZ c x).fields:=by
 have ij:p<w.heap.size:=(Qaa.1 hp).1;have HW:=af (cN hp);have q1:=HW.o.c1;have HC:=af (jK M w fv c.fields cq (by omega));have ru:c.fields[pre.length]? =some f:=by rw[ha.eq];simp
 have bu:pre.length<c.fields.length:=(Qad.1 ru).1;have qp:=af (show(bZ c x).fields=c.fields.set pre.length ⟨x.name,f.type,f.indexed⟩by
  rw[fh ha (by omega),ha.eq];simp[iQ,hk]);have uA:=af ru;have fU:Hd (x.name.size<=maxLen):=Nd;obtain⟨n,hn⟩:=jO (c.fields.length);obtain⟨i,hi⟩:=jO (pre.length);have HN:=af hn;rw[hi]at bu HW qp uA;rw[hn]at bu;go_enter func297,ntmps297;go_wp2_with fail;refine(HC.o).mono ?_;rintro e w1⟨_,rfl,hacc,hb⟩;have HA:=af hacc;obtain⟨a1,c1,rfl,cV,lL⟩:=hacc.open_;obtain⟨g,rfl,hg,yV,⟨z0,z1,z2,z3⟩,tH⟩:=ur hacc uA.o;rw[hn]at HA cV⊢;have HB:=af hb;have nI:=af (HW.o.below ij hb);have q2:=nI.o.ca;have q3:=nI.o.c4;have f0:=tH (i*4);go_wp2_with fail;go_region;all_goals
  go_wp2;go_ret;refine⟨_,rfl,?_,(HB.o.setCell (p:=⟨g,i*4,none⟩) hg _).drew⟩;rw[qp.o];exact((aK.cell HA.o uA.o (j:=0) (by decide) _ (λcs W hr _=>by obtain⟨rfl,_⟩:=hr;exact⟨rfl,fU.o⟩)).slice hM).PA
def Me(M:aN)(w:aj)(hM:Bd M w)(c:ax)(fv:an)(x:aC)(b:Bool)(g1 g2:an)(p:Nat)(pre post:List az)(f:az)(ha:iA c x.field pre f post)(hk:x.kind=6)(h8:c.fields.length<=8)
 (hp:bR w p (qR c.name fv x pre.length b g1 g2))(cq:ab M w fv c.fields):
 xG 306 #[xP p] w λv w'=>ab M w' v (bZ c x).fields:=by
 have ij:p<w.heap.size:=(Qaa.1 hp).1;have HW:=af (cN hp);have q1:=HW.o.c1;have HC:=af (jK M w fv c.fields cq (by omega));have ru:c.fields[pre.length]? =some f:=by rw[ha.eq];simp
 have bu:pre.length<c.fields.length:=(Qad.1 ru).1;have qp:=af (show(bZ c x).fields=c.fields.set pre.length ⟨f.name,f.type,!f.indexed⟩by
  rw[fh ha (by omega),ha.eq];simp[iQ,hk]);have uA:=af ru;obtain⟨n,hn⟩:=jO (c.fields.length);obtain⟨i,hi⟩:=jO (pre.length);have HN:=af hn;rw[hi]at bu HW qp uA;rw[hn]at bu;go_enter func306,ntmps306;go_wp2_with fail;refine(HC.o).mono ?_;rintro e w1⟨_,rfl,hacc,hb⟩;have HA:=af hacc;obtain⟨a1,c1,rfl,cV,lL⟩:=hacc.open_;obtain⟨g,rfl,hg,yV,⟨z0,z1,z2,z3⟩,tH⟩:=ur hacc uA.o;rw[hn]at HA cV⊢;have HB:=af hb;have nI:=af (HW.o.below ij hb);have q2:=nI.o.ca;have f0:=tH (i*4+3);go_wp2_with fail;go_region;all_goals
  go_wp2;go_ret;refine⟨_,rfl,?_,(HB.o.setCell (p:=⟨g,i*4+3,none⟩) hg _).drew⟩;rw[qp.o];exact((aK.cell HA.o uA.o (j:=3) (by decide) _ (λcs W hr _=>by obtain⟨rfl,hs⟩:=hr;exact⟨rfl,hs⟩)).slice hM).PA
def PB(M:aN)(w:aj)(hM:Bd M w)(c:ax)(fv:an)(x:aC)(b:Bool)(g1 g2:an)(p:Nat)(pre post:List az)(f:az)(ha:iA c x.field pre f post)(hk:x.kind=4)(h8:c.fields.length<=8)
 (hp:bR w p (qR c.name fv x pre.length b g1 g2))(cq:ab M w fv c.fields):
 xG 300 #[xP p] w λv w'=>ab M w' v (bZ c x).fields:=by
 have ij:p<w.heap.size:=(Qaa.1 hp).1;have HW:=af (cN hp);have q1:=HW.o.c1;have HC:=af (jK M w fv c.fields cq (by omega));have ru:c.fields[pre.length]? =some f:=by rw[ha.eq];simp
 have bu:pre.length<c.fields.length:=(Qad.1 ru).1;have qp:=af (show(bZ c x).fields=c.fields.set pre.length ⟨f.name,x.type,false⟩by
  rw[fh ha (by omega),ha.eq];simp[iQ,hk]);have uA:=af ru;obtain⟨n,hn⟩:=jO (c.fields.length);obtain⟨i,hi⟩:=jO (pre.length);have HN:=af hn;rw[hi]at bu HW qp uA;rw[hn]at bu;go_enter func300,ntmps300;go_wp2_with fail;refine(HC.o).mono ?_;rintro e w1⟨_,rfl,hacc,hb⟩;have HA:=af hacc;obtain⟨a1,c1,rfl,cV,lL⟩:=hacc.open_;obtain⟨g,rfl,hg,yV,⟨z0,z1,z2,z3⟩,tH⟩:=ur hacc uA.o;rw[hn]at HA cV⊢;have HB:=af hb;have nI:=af (HW.o.below ij hb);have q2:=nI.o.ca;have q3:=nI.o.c6;have q4:=nI.o.c7;have f0:=tH (i*4+1);have f1:=tH (i*4+2);have f2:=tH (i*4+3);go_wp2_with fail;go_region;all_goals
  go_wp2;go_ret;refine⟨_,rfl,?_,(((HB.o.setCell (p:=⟨g,i*4+1,none⟩) hg _).setCell (p:=⟨g,i*4+1+1,none⟩) hg _).setCell (p:=⟨g,i*4+3,none⟩) hg _).drew⟩;rw[qp.o];have Bn:∀y:az,(c.fields.set i y)[i]? =some y:=λy=>List.getElem?_set_self (by rw[HN.o];exact bu);have A1:=aK.cell HA.o uA.o (j:=1) (by decide) (xI x.type.kind) (y:=⟨f.name,⟨x.type.kind,f.type.of⟩,f.indexed⟩) (λcs W hr _=>by obtain⟨rfl,hs⟩:=hr;exact⟨rfl,hs⟩);have A2:=aK.cell A1 (Bn _) (j:=2) (by decide) (xI x.type.of) (y:=⟨f.name,x.type,f.indexed⟩) (λcs W hr _=>by obtain⟨rfl,hs⟩:=hr;exact⟨rfl,hs⟩);rw[List.set_set]at A2;have A3:=aK.cell A2 (Bn _) (j:=3) (by decide) (xB false) (y:=⟨f.name,x.type,false⟩) (λcs W hr _=>by obtain⟨rfl,hs⟩:=hr;exact⟨rfl,hs⟩);rw[List.set_set]at A3;exact(A3.slice hM).PA
def Mf(d:Nat)(w:aj)(f:Fn)(x y:Array an):(Op.equalIn (d+1) 339 (.func f x y) .nilFunc).run prog w= .ok false w:=by
 simp[Op.equalIn,run_underlying underlying339]
def nC(w:aj)(f:Fn)(x y:Array an):(binOp .neq 339 (.func f x y) .nilFunc).run prog w= .ok (xB true) w:=by
 simp only[binOp];simp[Op.equal,Op.maxDepth,Mf 9999]
def we(M:aN)(w:aj)(c:ax)(fv:an)(x:aC)(a:Int)(b:Bool)(g1 g2:an)(p:Nat)(s u:aM)(fV:c.name.size<=maxLen)
 (hp:bR w p (qR c.name fv x a b g1 g2))(cq:ab M w fv c.fields)(hs:hasB c s=false\/s=u):
 xC 329 #[xP p,xS s,xS u] w (cr (xB true) w):=by
 have ij:p<w.heap.size:=(Qaa.1 hp).1;have q0:=(cN hp).c0;have q1:=(cN hp).c1;have HF:=af (show xC 107 #[.agg #[xS c.name,fv],xS s] w λe w'=>∃at_,e=xR (.tuple #[xI at_,xB (hasB c s)])/\aq w w' by
  refine bY (mh M fv w c s _ _ cq fV rfl rfl) λw1 hb=> ?_;exact⟨_,rfl,hb⟩);obtain⟨a0,c0,rfl,cV,lL,ho⟩:=cq.open_;go_enter func329,ntmps329;go_wp2_with fail;refine(HF.o).mono ?_;rintro e w1⟨at_,rfl,hb⟩;have HB:=af hb;rcases hs with hs|rfl
 .rw[hs];go_wp2;go_ret;exact⟨rfl,HB.o⟩
 .cases hq:hasB c s
  .go_wp2;go_ret;exact⟨rfl,HB.o⟩
  .go_wp2;go_ret;exact⟨by simp,HB.o⟩
def Ik(w:aj)(nm:aM)(fv:an)(x:aC)(a:Int)(b:Bool)(g1 g2:an)(p:Nat)(hp:bR w p (qR nm fv x a b g1 g2)):
 xC 293 #[xP p] w (cr (xB b) w):=by
 have q1:=(cN hp).cb;go_enter func293,ntmps293;go_wp2;go_ret;exact⟨rfl,dQ⟩
def Il(w:aj)(nm:aM)(fv:an)(x:aC)(a:Int)(f1:Nat)(b1:Array an)(g2:an)(p:Nat)(hp:bR w p (qR nm fv x a true (.func (.func f1) #[] b1) g2)):
 xC 299 #[xP p] w (cr (xB true) w):=by
 have q1:=(cN hp).cb;have q2:=(cN hp).cc;have q3:=nC;go_enter func299,ntmps299;go_wp2;go_ret;exact⟨rfl,dQ⟩
def B4(M:aN)(w:aj)(c:ax)(fv:an)(x:aC)(a:Int)(g1 g2:an)(p:Nat)(fV:c.name.size<=maxLen)(hp:bR w p (qR c.name fv x a true g1 g2))(cq:ab M w fv c.fields)(hs:hasB c x.name=false):
 xC 296 #[xP p] w (cr (xB true) w):=by
 have HF:=af (we M w c fv x a true g1 g2 p x.name ⟨#[]⟩ fV hp cq (.inl hs));have q1:=(cN hp).cb;have q2:=(cN hp).c4;go_enter func296,ntmps296;go_wp2_with fail;refine bY (HF.o) λw1 hb=> ?_;have HB:=af hb;go_wp2;go_ret;exact⟨rfl,HB.o⟩
def Mg(M:aN)(w:aj)(c:ax)(fv:an)(x:aC)(a:Int)(b:Bool)(f1:Nat)(b1:Array an)(g2:an)(p:Nat)(fV:c.name.size<=maxLen)(h8:c.fields.length<8)(hp:bR w p (qR c.name fv x a b (.func (.func f1) #[] b1) g2))(cq:ab M w fv c.fields)(hs:hasB c x.name=false):
 xC 290 #[xP p] w (cr (xB true) w):=by
 have ij:p<w.heap.size:=(Qaa.1 hp).1;have HW:=af (cN hp);have HF:=af (we M w c fv x a b _ g2 p x.name ⟨#[]⟩ fV hp cq (.inl hs));have q1:=HW.o.c1;have q2:=HW.o.c4;have s0:((c.fields.length:Nat):Int)<8:=by omega
 obtain⟨a0,c0,rfl,cV,lL,ho⟩:=cq.open_;obtain⟨n,hn⟩:=jO (c.fields.length);rw[hn]at q1 s0 HW;have q4:=nC;go_enter func290,ntmps290;go_wp2_with fail;refine bY (HF.o) λw1 hb=> ?_;have HB:=af hb;have q3:=(HW.o.below ij hb).cc;go_wp2;go_ret;exact⟨rfl,HB.o⟩
abbrev dC(i:Int):an:=xI i
def ey(e:Bool)(x:Int)(w:aj):(Instr.checkKey e 10000 3 (dC x)).run prog w= .ok () w:=by
 show(Instr.checkKey e (9999+1) 3 (xI x)).run prog w= .ok () w;rw[Instr.checkKey];simp only[Sem.run_bind,run_underlying underlying3,Result.andThen_ok];rfl
def iI(f p:Nat):an:= .func (.func f) #[xP p] #[]
def jd(p f g h:Nat):an:= .agg #[iI f p,iI g p,iI h p]
def mF {es:List (Int×an×Nat)}(h:bD dC w b es clk)(x:Int)(v:an)(hv:aZ es x=none):∃w',(Instr.mapUpdate 343 (.map (some b)) (xI x) v).run prog w= .ok () w'/\bD dC w' b (es++[(x,v,clk)]) (clk+1)/\ai (λi=>i=b) w w':=by
 obtain⟨h1,h2⟩:=bD.insert dC (.int .i64) oY (P:=prog) underlying343 underlying3 ey h x v hv;exact⟨_,h1,h2,(ai.refl (λi=>i=b) w).putObj (.inl rfl) _⟩
def pY(w:aj)(b p:Nat):Prop:=∃es clk,bD dC w b es clk/\
 aZ es 1=some (jd p 290 291 292)/\
 aZ es 2=some (jd p 293 294 295)/\
 aZ es 3=some (jd p 296 297 298)/\
 aZ es 4=some (jd p 299 300 301)/\
 aZ es 5=some (jd p 302 303 304)/\
 aZ es 6=some (jd p 305 306 298)
def kG {es:List (Int×an×Nat)}(h:bD dC w b es clk)(x:Int)(v:an)(hv:aZ es x=some v):(Instr.lookup 343 (.map (some b)) (xI x) false).run prog w= .ok v w:=
 bD.lookup dC (.int .i64) oY (P:=prog) underlying343 underlying3 ey h x v hv
def PC(w:aj)(p:Nat):xC 262 #[xP p] w λe w'=>∃b,e=xR (.map (some b))/\pY w' b p/\w.heap.size<=b/\aq w w':=by
 have h0:bD dC (w.alloc (.map #[] 0)) w.heap.size [] 0:=(MapKept.heap_alloc w _).1;have t0:w.heap.size<(w.alloc (.map #[] 0)).heap.size:=by simp
 obtain⟨w0,uF⟩:=bS (w.alloc (.map #[] 0));rw[<-uF]at h0 t0;obtain⟨w1,e1,h1,o1⟩:=mF h0 1 (jd p 290 291 292) rfl;obtain⟨w2,e2,h2,o2⟩:=mF h1 2 (jd p 293 294 295) rfl;obtain⟨w3,e3,h3,o3⟩:=mF h2 3 (jd p 296 297 298) rfl;obtain⟨w4,e4,h4,o4⟩:=mF h3 4 (jd p 299 300 301) rfl;obtain⟨w5,e5,h5,o5⟩:=mF h4 5 (jd p 302 303 304) rfl;obtain⟨w6,e6,h6,o6⟩:=mF h5 6 (jd p 305 306 298) rfl;have HO:Hd (aq w w6):=((((ai.refl xF w).alloc (.map #[] 0)).cO (uF▸(((((o1.trans o2).trans o3).trans o4).trans o5).trans o6)) (λi hi bu=>by subst hi;omega)).below);have HM:Hd (pY w6 w.heap.size p):=⟨_,_,h6,rfl,rfl,rfl,rfl,rfl,rfl⟩;clear h0 h1 h2 h3 h4 h5 h6 o1 o2 o3 o4 o5 o6 t0;unfold jd iI at e1 e2 e3 e4 e5 e6;have CA:∀(fn:Fn)(first cap:Array an)(w:aj),(Instr.makeFunc fn first cap).run prog w= .ok (.func fn first cap) w:=λ_ _ _ _=>rfl;have wj:=eQ 343 w;rw[<-uF]at wj;clear uF;go_enter func262,ntmps262;go_wp2;go_ret;exact⟨_,rfl,HM.o,bN,HO.o⟩
theorem aK.le {α:Type} [au α]{base':Nat}{xs:List α}(h:aK M base e w v xs)(hb:base'<=base):aK M base' e w v xs:=by
 obtain⟨css,⟨h1,h2⟩,h3,h4⟩:=h;refine⟨css,⟨h1,?_⟩,h3,h4⟩;rcases h2 with h2|⟨g,cap,cur,h5,h6,h7⟩
 .exact .inl h2
 .exact .inr ⟨g,cap,cur,h5,by omega,h7⟩
def VD {size:Nat}{cs:Array an}(h:bR w g (.cells cs t (0,0)))(hs:cs.size=size)(hF:F g):cA F w size (xL (some ⟨g,0,none⟩) 1 1) 1 cs.toList:=by
 refine⟨by simp[hs],some ⟨g,0,none⟩,1,rfl,bN,by unfold maxLen;omega,λ_=>⟨g,0,rfl,hF,(Qaa.1 h).1,λj u hu=> ?_⟩⟩;simp only[World.cell?,h,Nat.zero_add];simpa using hu
def It(hb:Below w.drew.heap.size w.drew w'):aq w w':=(Qbg _ w).drew.trans hb
def Zy(hb:Below (w.drew.alloc o).heap.size (w.drew.alloc o) w'):aq w w':=((Qbg _ w).drew.alloc bN o).trans (hb.mono (by show w.heap.size<=(w.alloc o).heap.size;simp))
def Zz(hb:Below (w.alloc o).drew.heap.size (w.alloc o).drew w'):aq w w':=((Qbg _ w).alloc bN o).drew.trans (hb.mono (by show w.heap.size<=(w.alloc o).heap.size;simp))
def oX2(hb:Below (w.drew.alloc o).heap.size (w.drew.alloc o) w'):w'.heap[w.heap.size]? =some o:=(hb.block w.heap.size (by show w.heap.size<(w.alloc o).heap.size;simp)).trans (Qbh w.drew o)
def oX3(hb:Below (w.alloc o).drew.heap.size (w.alloc o).drew w'):w'.heap[w.heap.size]? =some o:=(hb.block w.heap.size (by show w.heap.size<(w.alloc o).heap.size;simp)).trans (Qbh w o)
def VE(M:aN)(w:aj)(hM:Bd M w)(c:ax)(fv:an)(x:aC)(a:Int)(b:Bool)(g1 g2:an)(p:Nat)(hk:x.kind=1)(Nd:x.name.size<=maxLen)(h8:c.fields.length<=8)
 (hp:bR w p (qR c.name fv x a b g1 g2))(cq:ab M w fv c.fields):
 xG 291 #[xP p] w λv w'=>ab M w' v (bZ c x).fields:=by
 obtain⟨i0,ed,ej,dO,er⟩:=info_parts iz;have ij:p<w.heap.size:=(Qaa.1 hp).1;have HW:=af (cN hp);have q1:=HW.o.c1;have q4:=HW.o.c4;have q6:=HW.o.c6;have q7:=HW.o.c7;have HC:Hd (∀W,aq w W->xC 330 #[fv] W (cg W λv w'=>aK M w.heap.size 60 w' v c.fields)):=λW hb=>(jK M W fv c.fields (cq.below hb) (by omega)).mono λe w' h=>by
  obtain⟨v,h1,h2,h3⟩:=h;exact⟨v,h1,h2.le hb.size,h3⟩
 have qp:=af (show(bZ c x).fields=c.fields++[⟨x.name,x.type,false⟩]by rw[pR hk]);have fU:Hd (x.name.size<=maxLen):=Nd;obtain⟨a0,c0,rfl,cV,lL,ho⟩:=cq.open_;obtain⟨n,hn⟩:=jO (c.fields.length);rw[hn]at q1 cV HC h8 HW;have HN:=af hn;clear hn;clear cq hp ho;go_enter func291,ntmps291;go_wp2_with fail;go_upto_region 1 with fail;have dr:Hd (∀W,aq w W->bt W p 1 (xL a0 n c0)/\bt W p 4 (xS x.name)/\bt W p 6 (xI x.type.kind)/\bt W p 7 (xI x.type.of)):=λW hb=>by
  have h:=HW.o.below ij hb;exact⟨h.c1,h.c4,h.c6,h.c7⟩
 have HJ:Hd (aq w w):=dQ;go_cut [2](λs2 wx=>Hd (ab M wx s2 (bZ c x).fields)/\Hd (aq w wx));case first=>
  go_region_held3(λw'=>w'.cell? ⟨p,1,none⟩=some (xL a0 n c0)/\w'.cell? ⟨p,4,none⟩=some (xS x.name)/\w'.cell? ⟨p,6,none⟩=some (xI x.type.kind)/\w'.cell? ⟨p,7,none⟩=some (xI x.type.of))
   (with_reducible first|exact dr.o _ rG.o|exact dr.o _ rG.o.drew|exact dr.o _ HJ.o|exact dr.o _ HJ.o.drew|exact dr.o _ (HJ.o.alloc HJ.o.size _)|exact dr.o _ ((HJ.o.alloc HJ.o.size _).drew)|exact dr.o _ (HJ.o.drew.alloc HJ.o.size _)|exact dr.o _ dE.o|exact dr.o _ dE.o.drew|exact dr.o _ (dE.o.alloc dE.o.size _)|exact dr.o _ ((dE.o.alloc dE.o.size _).drew))
   (first
     |(go_at_call 330;refine(HC.o _ (by with_reducible first|exact HJ.o.drew|exact HJ.o.drew.alloc HJ.o.size _|exact(HJ.o.alloc HJ.o.size _).drew)).mono ?_;rintro e w1⟨_,rfl,hacc,hb⟩;obtain⟨a1,c1,rfl,_⟩:=hacc.open_;have HA:=af hacc;try(with_reducible(have HX:=af (oX2 hb)))
       try(with_reducible(have HX:=af (oX3 hb)))
       have dE:Hd (aq w w1):=(by with_reducible first|exact af (It hb)|exact af (Zy hb)|exact af (Zz hb));clear hb hacc)
     |(refine dJ (α:=az) rfl _ _ _ rfl M w.heap.size 60 i0 _ 40 underlying45 ed ej dO er rfl (by decide) (.slice a1 c.fields.length c1) c.fields rfl (HA.o.alloc _) (λ_=>True) _ _ (⟨x.name,x.type,false⟩:az) rfl (cD _ _ _ _ rfl trivial) ⟨rfl,fU.o⟩ (by rw[HN.o];unfold maxLen;omega) (by rw[HN.o];omega) (by have:=dE.o.size;simp;omega) ?_;intro a2 c2 w2 bj dz bC;have dh:=af bj;have rG:Hd (aq w w2):=(dE.o.alloc dE.o.size _).trans bC;clear bj dz bC)
     |(refine dJ (α:=az) rfl _ _ _ rfl M w.heap.size 60 i0 _ 40 underlying45 ed ej dO er rfl (by decide) (.slice a1 c.fields.length c1) c.fields rfl HA.o (λ_=>True) _ _ (⟨x.name,x.type,false⟩:az) rfl (VD HX.o rfl trivial) ⟨rfl,fU.o⟩ (by rw[HN.o];unfold maxLen;omega) (by rw[HN.o];omega) dE.o.size ?_;intro a2 c2 w2 bj dz bC;have dh:=af bj;have rG:Hd (aq w w2):=dE.o.trans bC;clear bj dz bC));all_goals(go_wp2;go_meet)
  all_goals exact⟨af (by rw[qp.o];exact dh.o.slice hM),rG⟩
 case rest=>
  obtain⟨HS,HB⟩:=hcut;have hs:=HS.o.open_;obtain⟨sa,sc,rfl,_⟩:=hs;go_wp2;go_ret;exact⟨_,rfl,HS.o,HB.o⟩
def Ew(M:aN)(w:aj)(c:ax)(fv:an)(x:aC)(a:Int)(f1 f2:Nat)(b1 b2:Array an)(p:Nat)(fV:c.name.size<=maxLen)(h8:c.fields.length<8)
 (hp:bR w p (qR c.name fv x a true (.func (.func f1) #[] b1) (.func (.func f2) #[] b2)))(cq:ab M w fv c.fields)(hne:(x.name.toList==x.more.toList)=false)(hs:hasB c x.name=false\/x.name=x.field)(j6:hasB c x.more=false\/x.more=x.field):
 xC 302 #[xP p] w (cr (xB true) w):=by
 have ij:p<w.heap.size:=(Qaa.1 hp).1;have HW:=af (cN hp);have HFa:=gG (w:=w) (λW hb=>we M W c fv x a true _ _ p x.name x.field fV ((hb.block p ij).trans hp) (cq.below hb) hs);have HFb:=gG (w:=w) (λW hb=>we M W c fv x a true _ _ p x.more x.field fV ((hb.block p ij).trans hp) (cq.below hb) j6);have q0:=HW.o.cb;have q1:=HW.o.c1;have q3:=HW.o.c3;have q4:=HW.o.c4;have q5:=HW.o.c5;have q6:=HW.o.cc;have q7:=HW.o.cd;have qf:=nC;have s0:decide (((c.fields.length:Nat):Int)≥8)=false:=by simp;omega
 obtain⟨a0,c0,rfl,cV,lL,ho⟩:=cq.open_;obtain⟨n,hn⟩:=jO (c.fields.length);rw[hn]at q1 s0;have dr:Hd (∀W,aq w W->bt W p 3 (xS x.field)/\bt W p 4 (xS x.name)/\bt W p 5 (xS x.more)/\bt W p 12 (.func (.func f1) #[] b1)/\bt W p 13 (.func (.func f2) #[] b2)):=λW hb=>by
  have h:=HW.o.below ij hb;exact⟨h.c3,h.c4,h.c5,h.cc,h.cd⟩
 have HJ:Hd (aq w w):=dQ;clear cq hp ho hs j6;go_enter func302,ntmps302;go_wp2_with fail;go_quiet(fail);obtain⟨w2,nK⟩:=bS (w.drewN nq);have HJ:=af (show aq w w2 by rw[nK];exact⟨rfl,rfl,rfl,bN,λ_ _=>rfl⟩);rw[<-nK];have q3:=(dr.o _ HJ.o).1;have q4:=(dr.o _ HJ.o).2.1;have q5:=(dr.o _ HJ.o).2.2.1;have q6:=(dr.o _ HJ.o).2.2.2.1;have q7:=(dr.o _ HJ.o).2.2.2.2;clear nK;go_upto_region 3 with fail;have HJ2:Hd (aq w w2):=HJ;go_cut [2](λs2 wx=>s2=xB true/\Hd (aq w wx));case first=>
  go_region_held3(λw'=>w'.cell? ⟨p,3,none⟩=some (xS x.field)/\w'.cell? ⟨p,4,none⟩=some (xS x.name)/\w'.cell? ⟨p,5,none⟩=some (xS x.more)/\w'.cell? ⟨p,12,none⟩=some (.func (.func f1) #[] b1)/\w'.cell? ⟨p,13,none⟩=some (.func (.func f2) #[] b2))
   (with_reducible first|exact dr.o _ HJ.o|exact dr.o _ HJ.o.drew|exact dr.o _ fx.o|exact dr.o _ fx.o.drew|exact dr.o _ dE.o|exact dr.o _ dE.o.drew)
   (first
     |(go_at_call 329;with_reducible refine bY (HFa.o _ (by with_reducible first|exact HJ.o|exact HJ.o.drew)) λw3 hb=> ?_
       have fx:=af (show aq w w3 by first|with_reducible exact HJ.o.trans (hb.mono HJ.o.size)|exact HJ.o.drew.trans (hb.mono HJ.o.size));clear hb)
     |(go_at_call 329;with_reducible refine bY (HFb.o _ (by with_reducible first|exact fx.o|exact fx.o.drew)) λw4 hb=> ?_
       have dE:=af (show aq w w4 by first|with_reducible exact fx.o.trans (hb.mono fx.o.size)|exact fx.o.drew.trans (hb.mono fx.o.size));clear hb));all_goals(go_wp2;go_meet)
  all_goals exact⟨rfl,dE⟩
 case rest=>
  obtain⟨rfl,HB⟩:=hcut;go_wp2;go_ret;exact⟨rfl,HB.o⟩
def Ex {n:Nat}{xs:List az}(h:ab M w (xL a n cap) xs)(hx:xs[i]? =some f):
 ∃g off,a=some ⟨g,off,none⟩/\g<w.heap.size/\bt w g (off+i*4) (xS f.name)/\bt w g (off+i*4+1) (xI f.type.kind)/\bt w g (off+i*4+2) (xI f.type.of)/\bt w g (off+i*4+3) (xB f.indexed):=by
 have hl:=(Qad.1 hx).1;obtain⟨a',ig,hv,_,_,ho⟩:=h.open_;obtain⟨b,off,h1,_,h3,h4⟩:=ho (by omega);obtain⟨cs,⟨rfl,_⟩,h5⟩:=h4 i f hx;injection hv with ha _ _;exact⟨b,off,ha.trans h1,h3,h5 0 _ rfl,h5 1 _ rfl,h5 2 _ rfl,h5 3 _ rfl⟩
def Ey(M:aN)(w:aj)(c:ax)(fv:an)(x:aC)(i:Nat)(f:az)(g1 g2:an)(p:Nat)(h8:c.fields.length<=8)(hi:c.fields[i]? =some f)(h3:f.type.kind<=3)
 (hp:bR w p (qR c.name fv x i true g1 g2))(cq:ab M w fv c.fields):
 xC 305 #[xP p] w (cr (xB true) w):=by
 have q0:=(cN hp).cb;have q1:=(cN hp).c1;have q2:=(cN hp).ca;have hl:=(Qad.1 hi).1;obtain⟨a0,c0,rfl,cV,lL,_⟩:=cq.open_;obtain⟨g,off,rfl,hg,z0,z1,z2,z3⟩:=Ex cq hi;obtain⟨n,hn⟩:=jO (c.fields.length);rw[hn]at hl cV q1 h8;go_enter func305,ntmps305;go_wp2_with fail;go_region;all_goals
  go_wp2;go_ret;exact⟨rfl,by first|exact Qbg _ _|exact dQ.drew⟩
def SL(hc:cG c)(hp:qM c x)(hb:iZ c x=true):Zw x:=by
 have hE:∀s:aM,rU c x.type s->s=⟨#[]⟩\/∃e,ee s.data.toList=some e:=λs h=>by
  rcases h with h|⟨e,h,_⟩
  .exact .inl (fg h)
  .exact .inr ⟨e,h⟩
 refine⟨hp.sh,λhk=> ?_,hp.name,hp.more,hp.type,hE _ hp.expr,hE _ hp.other,hp.s1,hp.s2,hp.s3⟩;have hh:hasB c x.field=true:=by
  unfold iZ at hb;have nX:=hp.sh;simp only[np]at nX;rw[if_neg hk]at hb;repeat'(split at hb)
  all_goals simp_all
 exact Di hc.right hh
def zz(k:Int):Nat:=if k=1 then 290 else if k=2 then 293 else if k=3 then 296 else if k=4 then 299 else if k=5 then 302 else 305
def qB(c:ax)(x:aC):Int:=if fieldAt c x.field<0 then 0 else fieldAt c x.field
def Kg {u:aM}(h:(!hasB c s||s.toList==u.toList)=true):hasB c s=false\/s=u:=by
 rw[Bool.or_eq_true]at h;rcases h with h|h
 .exact .inl (by simpa using h)
 .exact .inr (tZ h)
def SM(M:aN)(w:aj)(c:ax)(hc:cG c)(fv:an)(x:aC)(hx:qM c x)(hb:iZ c x=true)(f1 f2:Nat)(b1 b2:Array an)(p:Nat)
 (hp:bR w p (qR c.name fv x (qB c x) (hasB c x.field) (.func (.func f1) #[] b1) (.func (.func f2) #[] b2)))(cq:ab M w fv c.fields):
 xC (zz x.kind) #[xP p] w (cr (xB true) w):=by
 have fV:=cF hc.small;have h8:=((bo c).1 hc.right).2.1;have hk:x.kind=1\/x.kind=2\/x.kind=3\/x.kind=4\/x.kind=5\/x.kind=6:=by have:=hx.sh;simp only[np]at this;omega
 unfold iZ at hb;rcases hk with hk|hk|hk|hk|hk|hk<;>rw[hk]at hb⊢
 .simp only[if_true,Qce,decide_eq_true_eq,Bool.not_eq_true']at hb;exact Mg M w c fv x _ _ f1 b1 _ p fV (by omega) hp cq hb.2
 .have hh:hasB c x.field=true:=by simpa using hb
  rw[hh]at hp;exact Ik w c.name fv x _ true _ _ p hp
 .have hh:hasB c x.field=true/\hasB c x.name=false:=by simpa using hb
  rw[hh.1]at hp;exact B4 M w c fv x _ _ _ p fV hp cq hh.2
 .have hh:hasB c x.field=true:=by simpa using hb
  rw[hh]at hp;exact Il w c.name fv x _ f1 b1 _ p hp
 .simp only[show¬((5:Int)=1)by decide,show¬((5:Int)=2)by decide,show¬((5:Int)=3)by decide,show¬((5:Int)=4)by decide,if_false,if_true]at hb;rw[Qce,Qce,Qce,Qce]at hb;obtain⟨⟨⟨⟨h1,h2⟩,h3⟩,h4⟩,h5⟩:=hb;rw[h1]at hp;have h2:=of_decide_eq_true h2;exact Ew M w c fv x _ f1 f2 b1 b2 p fV (by omega) hp cq (by simpa using h3) (Kg h4) (Kg h5)
 .simp only[show¬((6:Int)=1)by decide,show¬((6:Int)=2)by decide,show¬((6:Int)=3)by decide,show¬((6:Int)=4)by decide,show¬((6:Int)=5)by decide,if_false]at hb;rw[Qce]at hb;obtain⟨i,f,h1,h2,h3⟩:=Bz hb.1;have h4:=of_decide_eq_true hb.2;rw[hb.1,show qB c x=(i:Int)by unfold qB;rw[h1,if_neg (by omega)]]at hp;exact Ey M w c fv x i f _ _ p (by omega) h2 (by
   unfold wW at h4;rw[h1]at h4;simpa [h2]using h4) hp cq
def dW:lS dC prog 3:=AK dC (.int .i64) oY underlying3
def ym {es:List (Int×an×Nat)}(h:bD dC w b es clk)(n:Int)(v:an)(hv:aZ es n=some v):(Instr.lookup 87 (.map (some b)) (xI n) true).run prog w= .ok (.tuple #[v,xB true]) w:=
 bD.Er dC underlying87 dW ey h n v hv
def IG(w:aj)(K b:Nat)(es:List (Int×an×Nat))(clk:Nat)(n v:Int)(hK:bt w K 1 (.map (some b)))(hm:bD dC w b es clk)(hv:aZ es n=some (xI v)):
 xC 127 #[xI n,xP K] w (cr (xB false) w):=by
 have hl:=ym hm n _ hv;have Bh:=ym (w:=w.drew) hm n _ hv;go_enter func127,ntmps127;go_wp2;go_ret;exact⟨rfl,dQ⟩
def iY(lv:an)(pm:Nat):Obj:=xK #[lv, .map (some pm)] 89
end
end Go.Proofs.YtepaofffbkfodaaGreatDoor
