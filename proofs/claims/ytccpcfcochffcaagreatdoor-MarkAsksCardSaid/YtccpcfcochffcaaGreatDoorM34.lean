/- A part of MarkAsks's proof; no condition. -/
import Derived.Test.YtccpcfcochffcaaGreatDoorM27
import Derived.Laws.EntriesVeiled
import Derived.Sort.CutIn
set_option linter.all false
set_option maxHeartbeats 8000000
set_option maxRecDepth 100000
namespace Go.Proofs.YtccpcfcochffcaaGreatDoor
open Go.Proofs.Tryz
open Go.RowKit Go.Shelf
variable{W w' A w wx:aj}{M N:aS}{clk p B j i cap R fr te:Nat}{t:TypeId}{c0 c1 c2 a0 a1 a2 fv cv:an}{a:dC}{us vs:List au}{x:aB}{many:Int}
def C3(a b c:an):Obj:=xK #[a,b,c] 295
def Wk(M:aS)(w:aj)(n K:Nat):Nat->Prop:=λi=>dP M w n i\/i=K
theorem Jh {w:aj}{n K:Nat}(hM:Bd M w)(h:w.heap.size+n<=W.heap.size)(hK:K<W.heap.size):Bd (Wk M w n K) W:=λi hi=>by
 rcases hi with hi|rfl
 .exact dp hM h i hi
 .exact hK
theorem Ji {w:aj}{n K:Nat}(h:aq w W)(hK:w.heap.size<=K):Ev M w (Wk M w n K) W:=⟨ai.ao h,λi hi=>by
 rcases hi with(hi|hi)|rfl
 .exact .inl hi
 .exact .inr hi.1
 .exact .inr hK⟩
structure qJ(w:aj)(os:List Obj)(K:Nat)(nm:aT)(fv:an)(x:aB)(a:Int)(b:Bool)(g1 g2:an)(wr:aj):Prop where
 bx:Bx w os wr
 blk:wr.heap[K]? =some (rb nm fv x a b g1 g2)
 hK:w.heap.size+os.length<=K
section
variable {w:aj}{os:List Obj}{K:Nat}{nm:aT}{fv:an}{x:aB}{a a':Int}{b b':Bool}{g1 g2 g':an}{wr wx:aj}
theorem qJ.below(h:qJ w os K nm fv x a b g1 g2 wr)(k:aq wr wx):qJ w os K nm fv x a b g1 g2 wx:=
 ⟨h.bx.below k,(k.block K (Qaa.1 h.blk).1).trans h.blk,h.hK⟩
theorem qJ.lt(h:qJ w os K nm fv x a b g1 g2 wr):K<wr.heap.size:=(Qaa.1 h.blk).1
theorem qJ.setAt(h:qJ w os K nm fv x a b g1 g2 wr)(hW:wx=(wr.setCell ⟨K,10,none⟩ (xI a')).setCell ⟨K,11,none⟩ (xB b')):qJ w os K nm fv x a' b' g1 g2 wx/\ai (λi=>i=K) wr wx:=by
 subst hW;refine⟨⟨h.bx.cP (B:=K) ((dK.setCell (Qab K) _).setCell (Qab K) _) h.hK,?_,h.hK⟩,((ai.refl (λi=>i=K) wr).setCell (p:=⟨K,10,none⟩) (.inl rfl) _).setCell (p:=⟨K,11,none⟩) (.inl rfl) _⟩;have h1:=Qca wr K 10 _ _ (xI a') h.blk;have h2:=Qca _ K 11 _ _ (xB b') h1;simpa [rb]using h2
theorem qJ.ZW(h:qJ w os K nm fv x a b g1 g2 wr)(hW:wx=wr.setCell ⟨K,12,none⟩ g'):qJ w os K nm fv x a b g' g2 wx/\ai (λi=>i=K) wr wx:=by
 subst hW;refine⟨⟨h.bx.cP (B:=K) (dK.setCell (Qab K) _) h.hK,?_,h.hK⟩,(ai.refl (λi=>i=K) wr).setCell (p:=⟨K,12,none⟩) (.inl rfl) _⟩;have h1:=Qca wr K 12 _ _ g' h.blk;simpa [rb]using h1
theorem qJ.Pw(h:qJ w os K nm fv x a b g1 g2 wr)(hW:wx=wr.setCell ⟨K,13,none⟩ g'):qJ w os K nm fv x a b g1 g' wx/\ai (λi=>i=K) wr wx:=by
 subst hW;refine⟨⟨h.bx.cP (B:=K) (dK.setCell (Qab K) _) h.hK,?_,h.hK⟩,(ai.refl (λi=>i=K) wr).setCell (p:=⟨K,13,none⟩) (.inl rfl) _⟩;have h1:=Qca wr K 13 _ _ g' h.blk;simpa [rb]using h1
end
theorem FK {k:Int}:∀args w,(callFunc (AL k) args).run prog w= .ok (.enter (AL k) args) w:=by
 unfold AL;repeat' split
 .exact enters_of func241 (by kernel_rfl) rfl
 .exact enters_of func244 (by kernel_rfl) rfl
 .exact enters_of func247 (by kernel_rfl) rfl
 .exact enters_of func250 (by kernel_rfl) rfl
 .exact enters_of func253 (by kernel_rfl) rfl
 .exact enters_of func256 (by kernel_rfl) rfl
theorem FL {k:Int}:∀args w,(callFunc (wM k) args).run prog w= .ok (.enter (wM k) args) w:=by
 unfold wM;repeat' split
 .exact enters_of func242 (by kernel_rfl) rfl
 .exact enters_of func245 (by kernel_rfl) rfl
 .exact enters_of func248 (by kernel_rfl) rfl
 .exact enters_of func251 (by kernel_rfl) rfl
 .exact enters_of func254 (by kernel_rfl) rfl
 .exact enters_of func257 (by kernel_rfl) rfl
theorem FM {k:Int}:∀args w,(callFunc (tD k) args).run prog w= .ok (.enter (tD k) args) w:=by
 unfold tD;repeat' split
 .exact enters_of func243 (by kernel_rfl) rfl
 .exact enters_of func246 (by kernel_rfl) rfl
 .exact enters_of func249 (by kernel_rfl) rfl
 .exact enters_of func252 (by kernel_rfl) rfl
 .exact enters_of func255 (by kernel_rfl) rfl
 .exact enters_of func249 (by kernel_rfl) rfl
theorem cg.below {α:Type} [DecidableEq α]{K:α->an}{w:aj}{b:Nat}{es:List (α×an×Nat)}(h:cg K w b es clk)(hb:aq w w'):cg K w' b es clk:=
 (hb.block b (Qaa.1 h).1).trans h
theorem qq.below {w:aj}{b:Nat}(h:qq w b p)(hb:aq w w'):qq w' b p:=by
 obtain⟨es,clk,h0,h1⟩:=h;exact⟨es,clk,h0.below hb,h1⟩
theorem BW {K:Nat}(h:cI W K (xK #[c0,c1,c2] t))(a0 a1 a2:an):(((W.setCell ⟨K,0,none⟩ a0).setCell ⟨K,1,none⟩ a1).setCell ⟨K,2,none⟩ a2).heap[K]? =some (xK #[a0,a1,a2] t):=by
 have h1:=Qca _ K 0 _ _ a0 h;have h2:=Qca _ K 1 _ _ a1 h1;have h3:=Qca _ K 2 _ _ a2 h2;simpa using h3
theorem nW {K:Nat}{w:aj}(h:Below B w W)(hK:B<=K):Below B w (((W.setCell ⟨K,0,none⟩ a0).setCell ⟨K,1,none⟩ a1).setCell ⟨K,2,none⟩ a2):=((h.setCell hK _).setCell hK _).setCell hK _
structure Wl(W8:aj)(L:Nat)(a b c:an)(wx:aj):Prop where
 blk:wx.heap[L]? =some (C3 a b c)
 below:aq W8 wx
 hL:W8.heap.size<=L
theorem Jj {W8 w9:aj}{a b c:an}(hj:aq W8 w9):Wl W8 w9.heap.size a b c (w9.alloc (xK #[a,b,c] 295)):=⟨Qbh w9 _,hj.alloc hj.size _,hj.size⟩
theorem P7 {W8 w9:aj}{L:Nat}{a b c x y z:an}(hj:aq W8 w9)(hx:cI w9 L (xK #[x,y,z] 295))(hL:W8.heap.size<=L):Wl W8 L a b c (((w9.setCell ⟨L,0,none⟩ a).setCell ⟨L,1,none⟩ b).setCell ⟨L,2,none⟩ c):=⟨BW hx _ _ _,nW hj hL,hL⟩
def Wm(M:aS)(c:az)(many:Int)(x:aB)(fv:an)(w:aj)(v:an)(w':aj):Prop:=
 ∃(p:Nat)(g1 g2:an)(N:aS),v= .tuple #[jm p (AL x.kind) (wM x.kind) (tD x.kind),xB true]/\(∀i,M i->N i)/\(∀i,N i->M i\/w.heap.size<=i)/\Bd N w'/\
  iZ N c many x.type x.expr w' g1/\iZ N c many x.type x.other w' g2/\w'.heap[p]? =some (rb c.name fv x (qI c x) (hasB c x.field) g1 g2)
theorem FN(M:aS)(w:aj)(hM:Bd M w)(c:az)(hc:cA c)(many:Int)(hm:many<=100000)(x:aB)(hx:iT c x)(hb:jf c x=true)(fv:an)(bR:ab M w fv c.fields)(hT:Tb w):
 xG 204 #[.agg #[xS c.name,fv], .agg #[xI x.kind,xS x.field,xS x.name,xS x.more,xI x.type.kind,xI x.type.of,xS x.expr,xS x.other]] w (Wm M c many x fv w):=by
 have HM:=af hM;have im:=af bR;have fS:=cz hc.small;have HR:Hd (∀W,aq w W->xC 185 #[.agg #[xS c.name,fv]] W (cN (xB true) W)):=λW hb=>by
  have h:=fW M fv W c (bR.below hb) fS;rw[hc.right]at h;exact h
 have HWF:=fV (w:=w) (λW h=>AE x (Ts hc hx.pre hb) W (hT.below h));have HF:=fV (w:=w) (λW h=>jJ M fv W c x.field (qI c x) (hasB c x.field) (bR.below h) fS rfl rfl);have As:Hd (∀K W,w.heap.size+3<=K->K<W.heap.size->aq w W->_):=λK W h1 h2 h3=>BL c hc many hm x.type x.expr hx.expr (Wk M w 3 K) W fv (Jh hM (by omega) h2) (bR.ev (Ji h3 (by omega))) (hT.below h3);have K4:Hd (∀K W,w.heap.size+3<=K->K<W.heap.size->aq w W->_):=λK W h1 h2 h3=>BL c hc many hm x.type x.other hx.other (Wk M w 3 K) W fv (Jh hM (by omega) h2) (bR.ev (Ji h3 (by omega))) (hT.below h3);have HMY:Hd (∀(N:aS)W(f1 f2:Nat)(b1 b2:Array an)(p:Nat),ab N W fv c.fields->cI W p (rb c.name fv x (qI c x) (hasB c x.field) (.func (.func f1) #[] b1) (.func (.func f2) #[] b2))->_):=λN W f1 f2 b1 b2 p h1 h2=>Tt N W c hc fv x hx.pre hb f1 f2 b1 b2 p h2 h1;have hk:x.kind=1\/x.kind=2\/x.kind=3\/x.kind=4\/x.kind=5\/x.kind=6:=by have:=hx.pre.sh;simp only[nB]at this;omega
 have N1:=af hk;obtain⟨fa,fc,rfl,_⟩:=bR.open_;have bN:=af (Bx.gI w (cS c.name (xL fa c.fields.length fc)) (tV x) (C3 .nilFunc .nilFunc .nilFunc));clear bR hM hT hx hb hc hk;go_enter func204,ntmps204;go_wp2_with fail;refine cG (HR.o _ bN.o.1) λw1 aC=> ?_;have aO:=af (bN.o.below aC);obtain⟨p0,p1,p2,p3,p4,p5,p6,p7⟩:=ak (aO.o.cE rfl);clear aC;go_wp2_with fail;refine cG (HWF.o _ aO.o.1) λw2 aY=> ?_;have aL:=af (aO.o.below aY);clear aY p0 p1 p2 p3 p4 p5 p6 p7;obtain⟨p0,p1,p2,p3,p4,p5,p6,p7⟩:=ak (aL.o.cE rfl);obtain⟨c0,c1⟩:=ah (aL.o.bJ rfl);go_upto_region 4 with fail;obtain⟨K,hK⟩:=fx (w2.heap.size);obtain⟨W,hW⟩:=cM (w2.alloc (rb c.name (xL fa c.fields.length fc) x 0 false .nilFunc .nilFunc));have HS:Hd (qJ w [cS c.name (xL fa c.fields.length fc),tV x,C3 .nilFunc .nilFunc .nilFunc] K c.name (xL fa c.fields.length fc) x 0 false .nilFunc .nilFunc W):=⟨by rw[hW];exact aL.o.alloc _,by rw[hW,<-hK];exact Qbh w2 _,by have:=aL.o.bY;omega⟩;unfold rb at hW;rw[<-hW,hK];clear hW p0 p1 p2 p3 p4 p5 p6 p7 c0 c1;obtain⟨p0,p1,p2,p3,p4,p5,p6,p7⟩:=ak (HS.o.bx.cE rfl);obtain⟨c0,c1⟩:=ah (HS.o.bx.bJ rfl);go_wp2_with fail;refine cG (HF.o _ HS.o.bx.1) λw3 bG=> ?_;have iq:=af (HS.o.below bG);have f10:=ag iq.o.blk 10;have f11:=ag iq.o.blk 11;have k10:=(cH iq.o.blk).ca;have k11:=(cH iq.o.blk).cb;have Vt:=iq.o.lt;have Vb:=iq.o.hK;simp only[Qcc,Qcd]at Vb;clear bG p0 p1 p2 p3 p4 p5 p6 p7 c0 c1 aL aO bN hK;obtain⟨p0,p1,p2,p3,p4,p5,p6,p7⟩:=ak (iq.o.bx.cE rfl);obtain⟨c0,c1⟩:=ah (iq.o.bx.bJ rfl);have n0:w.heap.size≠K:=by omega
 have n1:w.heap.size+1≠K:=by omega
 have n2:w.heap.size+1+1≠K:=by omega
 go_upto_region 5 with fail;obtain⟨W4,lR⟩:=cM ((w3.setCell ⟨K,10,none⟩ (xI (qI c x))).setCell ⟨K,11,none⟩ (xB (hasB c x.field)));have jV:=af (iq.o.setAt lR).1;rw[<-lR];have HN:=af (show w.heap.size+3<=K by omega);clear lR iq HS f10 f11 k10 k11 Vt p0 p1 p2 p3 p4 p5 p6 p7 c0 c1;obtain⟨p0,p1,p2,p3,p4,p5,p6,p7⟩:=ak (jV.o.bx.cE rfl);obtain⟨c0,c1⟩:=ah (jV.o.bx.bJ rfl);go_wp2_with fail;refine(As.o K _ HN.o jV.o.lt jV.o.bx.1).mono ?_;rintro e w5⟨g1,rfl,DP,lL⟩;have qet:=DP;obtain⟨gf1,lb1,rfl,_⟩:=qet;have qO:=af (jV.o.below lL);have HA5:=af DP;have f12:=ag qO.o.blk 12;have k12:=(cH qO.o.blk).cc;have Vt:=qO.o.lt;clear p0 p1 p2 p3 p4 p5 p6 p7 c0 c1;clear lL DP;go_upto_region 6 with fail;obtain⟨W6,tQ⟩:=cM (w5.setCell ⟨K,12,none⟩ (.func (.func gf1) #[] lb1));have Gw:=af (qO.o.ZW tQ).1;have HA6:=af (HA5.o.only ((qO.o.ZW tQ).2.mono λi hi=> .inr hi));rw[<-tQ];clear tQ qO HA5 jV f12 k12 Vt;obtain⟨p0,p1,p2,p3,p4,p5,p6,p7⟩:=ak (Gw.o.bx.cE rfl);obtain⟨c0,c1⟩:=ah (Gw.o.bx.bJ rfl);go_wp2_with fail;refine(K4.o K _ HN.o Gw.o.lt Gw.o.bx.1).mono ?_;rintro e w7⟨g2,rfl,DQ,iK⟩;have qeu:=DQ;obtain⟨Zd,Ze,rfl,_⟩:=qeu;have tS:=af (Gw.o.below iK);have HA7:=af (HA6.o.only (ai.ao iK));have HC7:=af DQ;have f13:=ag tS.o.blk 13;have k13:=(cH tS.o.blk).cd;have Vt:=tS.o.lt;clear iK DQ p0 p1 p2 p3 p4 p5 p6 p7 c0 c1;go_upto_region 7 with fail;obtain⟨W8,Ll⟩:=cM (w7.setCell ⟨K,13,none⟩ (.func (.func Zd) #[] Ze));have An:=af (tS.o.Pw Ll).1;have HA8:=af (HA7.o.only ((tS.o.Pw Ll).2.mono λi hi=> .inr hi));have HC8:=af (HC7.o.only ((tS.o.Pw Ll).2.mono λi hi=> .inr hi));rw[<-Ll];clear Ll tS HA7 HC7 Gw HA6 f13 k13 Vt;obtain⟨p0,p1,p2,p3,p4,p5,p6,p7⟩:=ak (An.o.bx.cE rfl);have HP:Hd (∀W,aq W8 W->DD W w 0 (xI x.kind)):=λW hb=>(ak ((An.o.bx.below hb).cE rfl)).1;have HJ:Hd (aq W8 W8):=dK;go_cut [7](λs7 wx=>∃L:Nat,s7=xP L/\Hd (Wl W8 L (iH (AL x.kind) K) (iH (wM x.kind) K) (iH (tD x.kind) K) wx));case first=>
  clear p1 p2 p3 p4 p5 p6 p7;have pz:=λo=>HP.o (W8.alloc o) (HJ.o.alloc HJ.o.size o);go_region_law(first
   |(go_simp;go_at_call 221;refine(PG _ K).mono ?_;rintro en w9⟨bb,rfl,hka,ub,xQ⟩;have XV:Hd (aq W8 w9):=(by with_reducible first|exact af (AK xQ)|exact af (Tq xQ)|exact af (Tp xQ));try with_reducible have Vu:=af (Yq xQ)
     try with_reducible have Vu:=af (Yr xQ)
     have p0':=HP.o w9 XV.o;have pa0:=λo=>HP.o (w9.alloc o) (XV.o.alloc XV.o.size o);have lk:=BV hka N1.o;have lka:=λo=>BV (hka.below ((Qbg w9.heap.size w9).alloc bq o)) N1.o;unfold jm iH at lk lka;try have z0:=(aD Vu.o).1
     try have z1:=(aD Vu.o).2.1
     try have z2:=(aD Vu.o).2.2
     try have y0:=ag Vu.o 0
     try have y1:=ag Vu.o 1
     try have y2:=ag Vu.o 2
     clear hka ub xQ));all_goals(go_wp2;go_meet)
  all_goals first
   |exact⟨_,rfl,(Jj XV.o)⟩
   |exact⟨_,rfl,(P7 XV.o Vu.o bq)⟩
 case rest=>
  obtain⟨L,rfl,HK⟩:=hcut;obtain⟨wx,Gt⟩:=cM (wc);subst Gt;have DT:=af (An.o.below HK.o.below);have HA9:=af (HA8.o.only (ai.ao HK.o.below));have HC9:=af (HC8.o.only (ai.ao HK.o.below));have hLw:=HK.o.hL;have hLl:=(Qaa.1 HK.o.blk).1;have hz8:=An.o.bx.bY;simp only[Qcc,Qcd]at hz8;have bt:=af (HMY.o (Wk M w 3 K) wx.drew gf1 Zd lb1 Ze K ((im.o.ev (Ji DT.o.bx.1.drew (by omega)))) DT.o.blk);have Q1:=FK (k:=x.kind);clear p0 p1 p2 p3 p4 p5 p6 p7 HP;generalize hgm:AL x.kind=gm at HK bt Q1;obtain⟨k0,k1,k2⟩:=aD HK.o.blk;unfold iH at k0 k1 k2;have Nw:Hd (∀W,aq wx W->cI W L (C3 (iH gm K) (iH (wM x.kind) K) (iH (tD x.kind) K))):=λW hb=>(hb.block L hLl).trans HK.o.blk;have HJ:Hd (aq wx wx):=dK;obtain⟨b0,b1,b2⟩:=aD (DT.o.bx.gy rfl);obtain⟨e0,e1⟩:=nu (DT.o.bx.gy rfl);have e2:=ag (DT.o.bx.gy rfl) 2;have nL:w.heap.size+1+1≠L:=by omega
  go_upto_region 8 with fail;go_cut [5](λs5 wy=>s5=xB true/\Hd (∃vu,qJ w [cS c.name (xL fa c.fields.length fc),tV x,C3 .nilFunc .nilFunc .nilFunc] K c.name (xL fa c.fields.length fc) x (qI c x) (hasB c x.field) (.func (.func gf1) #[] lb1) (.func (.func Zd) #[] Ze) vu/\aq wx vu/\wy=((vu.setCell ⟨w.heap.size+1+1,0,none⟩ (iH gm K)).setCell ⟨w.heap.size+1+1,1,none⟩ (iH (wM x.kind) K)).setCell ⟨w.heap.size+1+1,2,none⟩ (iH (tD x.kind) K)));case first=>
   go_region_law(first
    |(go_simp;refine bt.o.mono ?_;rintro en vu⟨rfl,RF⟩;have A9:Hd (aq wx vu):=(Qbg wx.heap.size wx).drew.trans RF;have Ny:=af (DT.o.below A9.o);have l0:=(aD (Nw.o vu A9.o)).1;have l1:=(aD (Nw.o vu A9.o)).2.1;have l2:=(aD (Nw.o vu A9.o)).2.2;unfold iH at l0 l1 l2;have r0:=(aD (Ny.o.bx.gy rfl)).1;have r1:=(aD (Ny.o.bx.gy rfl)).2.1;have r2:=(aD (Ny.o.bx.gy rfl)).2.2;obtain⟨y0,y1⟩:=nu (Ny.o.bx.gy rfl);have y2:=ag (Ny.o.bx.gy rfl) 2;clear RF));all_goals(go_wp2;go_meet)
   all_goals exact⟨rfl,(show∃_,_ from⟨vu,Ny.o,A9.o,rfl⟩)⟩
  case rest=>
   obtain⟨rfl,HZ⟩:=hcut;obtain⟨vu,h1,h2,h3⟩:=HZ.o;have h4:=h1.bx.gy rfl;have HY:=af (show cI wc (w.heap.size+1+1) (C3 (iH gm K) (iH (wM x.kind) K) (iH (tD x.kind) K))by rw[h3];exact BW h4 _ _ _);have ho:ai (λi=>i=w.heap.size+1+1) vu wc:=by
    rw[h3];exact(((ai.refl (λi=>i=w.heap.size+1+1) vu).setCell (p:=⟨w.heap.size+1+1,0,none⟩) (.inl rfl) _).setCell (p:=⟨w.heap.size+1+1,1,none⟩) (.inl rfl) _).setCell (p:=⟨w.heap.size+1+1,2,none⟩) (.inl rfl) _
   have hoN:ai (Wk M w 3 K) wx wc:=(ai.ao h2).trans (ho.mono λi hi=> .inl (.inr (by have:i=w.heap.size+1+1:=hi;omega)));have qev:=af (HA9.o.only hoN);have Um:=af (HC9.o.only hoN);have qbv:=af (ho.at_ h1.blk (λh=>by have:K=w.heap.size+1+1:=h;omega));have qew:=af (show aq w wc by rw[h3];exact nW h1.bx.1 (by omega));have hKz:K<wc.heap.size:=(Qaa.1 qbv.o).1;obtain⟨m0,m1,m2⟩:=aD HY.o;unfold iH at m0 m1 m2;clear h1 h2 h3 h4 ho hoN HZ b0 b1 b2 e0 e1 e2 k0 k1 k2;go_wp2_with fail;refine Qae (v:= .tuple #[.agg #[.func (.func gm) #[xP K] #[], .func (.func (wM x.kind)) #[xP K] #[], .func (.func (tD x.kind)) #[xP K] #[]],xB true]) (by simp[results,results204,go_sem,m0,m1,m2]) rfl ⟨_,rfl,⟨K,_,_,Wk M w 3 K,?_,λi hi=> .inl (.inl hi),λi hi=> ?_,Jh HM.o (by omega) hKz,qev.o,Um.o,qbv.o⟩,qew.o⟩
   .rw[<-hgm];rfl
   .rcases hi with(hi|hi)|hi
    .exact .inl hi
    .exact .inr hi.1
    .exact .inr (by omega)
theorem MR(M:aS)(w:aj)(hM:Bd M w)(c:az)(hc:cA c)(x:aB)(hx:iT c x)(hb:jf c x=true)(fv:an)(bR:ab M w fv c.fields)(hT:Tb w):
 xG 206 #[.agg #[xS c.name,fv], .agg #[xI x.kind,xS x.field,xS x.name,xS x.more,xI x.type.kind,xI x.type.of,xS x.expr,xS x.other]] w λv w'=>∃jY,v= .tuple #[.agg #[xS c.name,jY],xI 0]/\ab M w' jY (bT c x).fields:=by
 have fS:=cz hc.small;have np:=af hM;have im:=af bR;have HR:Hd (∀W,aq w W->xC 185 #[.agg #[xS c.name,fv]] W (cN (xB true) W)):=λW hb=>by
  have h:=fW M fv W c (bR.below hb) fS;rw[hc.right]at h;exact h
 have HB:Hd (∀W,aq w W->w.heap.size+3<=W.heap.size->_):=λW h h3=>FN (dP M w 3) W (dp hM h3) c hc 1 (by omega) x hx hb fv (bR.ev (cW h)) (hT.below h);have Ar:Hd (∀(N:aS)W g1 g2(p:Nat),Bd N W->ab N W fv c.fields->cI W p (rb c.name fv x (qI c x) (hasB c x.field) g1 g2)->_):=λN W g1 g2 p h1 h2 h3=>Jg N W h1 c hc fv x hx.pre hb g1 g2 p h3 h2;have Q1:=FL (k:=x.kind);obtain⟨fa,fc,rfl,_⟩:=bR.open_;have bN:=af (Bx.gI w (cS c.name (xL fa c.fields.length fc)) (tV x) (cS ⟨#[]⟩ (xL none 0 0)));clear bR hM hT hx hb hc;go_enter func206,ntmps206;go_wp2_with fail;refine cG (HR.o _ bN.o.1) λw1 aC=> ?_;have aO:=af (bN.o.below aC);obtain⟨p0,p1,p2,p3,p4,p5,p6,p7⟩:=ak (aO.o.cE rfl);obtain⟨c0,c1⟩:=ah (aO.o.bJ rfl);clear aC;go_wp2_with fail;refine(HB.o _ aO.o.1 aO.o.bY).mono ?_;rintro e w2⟨_,rfl,⟨p,g1,g2,N,rfl,Rm,NY,Nz,DP,DQ,lJ⟩,aY⟩;have aL:=af (aO.o.below aY);have JS:=af Nz;have XW:=af lJ;have N2:Hd (∀W,aq w W->Ev M w N W):=λW h=>⟨ai.ao h,λi hi=>by
  rcases NY i hi with(h|h)|h
  .exact .inl h
  .exact .inr h.1
  .exact .inr (Qcg aO.o.1.size h)⟩;have rU:Hd (∀i,M i->N i):=λi h=>Rm i (.inl h);have DU:Hd (N (w.heap.size+1+1)):=Rm _ (.inr ⟨by omega,by omega⟩);have dA:=aL.o.bY;simp only[Qcc,Qcd]at dA;clear aY Nz lJ Rm NY DP DQ p0 p1 p2 p3 p4 p5 p6 p7 c0 c1;generalize wM x.kind=gf at Ar Q1⊢;unfold jm iH;go_upto_region 6 with fail;obtain⟨W3,lK⟩:=cM (w2.alloc (C3 (iH (AL x.kind) p) (iH gf p) (iH (tD x.kind) p)));have bI:=af (show Bx w [cS c.name (xL fa c.fields.length fc),tV x,cS ⟨#[]⟩ (xL none 0 0)] W3 by rw[lK];exact aL.o.alloc _);have lO:=af (show dY W3 w2 (C3 (iH (AL x.kind) p) (iH gf p) (iH (tD x.kind) p))by rw[lK];exact Qbh w2 _);have HL3:=af (show aq w2 W3 by rw[lK];exact bO);have bt:=af (Ar.o N W3.drew g1 g2 p (JS.o.below (w':=W3.drew) HL3.o.drew) (im.o.ev (N2.o W3.drew bI.o.1.drew)) ((HL3.o.block p (Qaa.1 XW.o).1).trans XW.o));unfold C3 iH at lK;rw[<-lK];clear lK;obtain⟨k0,k1,k2⟩:=aD lO.o;obtain⟨c0,c1⟩:=ah (bI.o.bJ rfl);unfold iH at k0 k1 k2;go_cut [5](λs5 wx=>∃(ya:dC)(yc:Nat),s5=xI 0/\Hd (cI wx (w.heap.size+1+1) (cS c.name (xL ya (bT c x).fields.length yc))/\ab M wx (xL ya (bT c x).fields.length yc) (bT c x).fields/\aq w wx));case first=>
  go_region_law(first
   |(go_simp;refine bt.o.mono ?_;rintro en w4⟨_,rfl,bo,dT⟩;obtain⟨ya,yc,rfl,_⟩:=bo.open_;have eE:=af bo;have eH:Hd (Bx w [cS c.name (xL fa c.fields.length fc),tV x,cS ⟨#[]⟩ (xL none 0 0)] w4):=bI.o.drew.below dT;have q0:=(ah (eH.o.bJ rfl)).1;have r0:=(ah (eH.o.gy rfl)).1;have r1:=(ah (eH.o.gy rfl)).2;obtain⟨f0,f1⟩:=nu (eH.o.gy rfl);clear bo dT));all_goals(go_wp2;go_meet)
  all_goals
   refine⟨ya,yc,rfl,?_⟩;refine(show _/\_/\_ from⟨xh (eH.o.gy rfl) _ _,((eE.o.ev (((Ev.refl N w4).setCell (p:=⟨w.heap.size+1+1,0,none⟩) (.inl DU.o) _).setCell (p:=⟨w.heap.size+1+1,1,none⟩) (.inl DU.o) _)).ev (Ev.eG _ rU.o)),(eH.o.1.setCell (by show w.heap.size<=w.heap.size+1+1;omega) _).setCell (by show w.heap.size<=w.heap.size+1+1;omega) _⟩)
 case rest=>
  obtain⟨ya,yc,rfl,HR⟩:=hcut;obtain⟨r0,r1⟩:=ah HR.o.1;go_wp2_with fail;refine Qae (v:= .tuple #[.agg #[xS c.name,xL ya (bT c x).fields.length yc],xI 0]) (by simp[results,results206,go_sem,r0,r1]) rfl ⟨_,rfl,⟨_,rfl,HR.o.2.1⟩,HR.o.2.2⟩
theorem P8(M:aS)(w:aj)(hM:Bd M w)(c:az)(hc:cA c)(many:Int)(hm:many<=100000)(x:aB)(hx:iT c x)(hb:jf c x=true)(fv vv:an)(vs:List au)(bR:ab M w fv c.fields)(dt:ab M w vv vs)(hv:aW c.fields many vs)(hG:Gd w):
 xG 183 #[.agg #[xS c.name,fv], .agg #[xI x.kind,xS x.field,xS x.name,xS x.more,xI x.type.kind,xI x.type.of,xS x.expr,xS x.other],vv] w λv w'=>∃us uv,v= .tuple #[uv,xI 0]/\gW c x many vs us/\ab M w' uv us:=by
 have fS:=cz hc.small;have np:=af hM;have im:=af bR;have AZ:=af dt;have QA:=fV (w:=w) (λW h=>mw c hc.right fS many hm vs hv M W fv vv (bR.below h) (dt.below h) (hG.tb.below h));have HB:=fV (w:=w) (λW h=>FN M W (hM.below h) c hc many hm x hx hb fv (bR.below h) (hG.tb.below h));have JO:Hd (∀(N:aS)W g1 g2(p:Nat),Bd N W->aq w W->iZ N c many x.type x.expr W g1->iZ N c many x.type x.other W g2->cI W p (rb c.name fv x (qI c x) (hasB c x.field) g1 g2)->ab N W vv vs->_):=λN W g1 g2 p h1 h2 h3 h4 h5 h6=>P6 N W h1 c hc fv vv x hx.pre hb g1 g2 many p vs h3 h4 (hG.below h2) h5 hv h6;have Q1:=FM (k:=x.kind);obtain⟨fa,fc,rfl,_⟩:=bR.open_;obtain⟨va,vc,rfl,_⟩:=dt.open_;have bN:=af (Bx.dh w (cS c.name (xL fa c.fields.length fc)) (tV x));clear bR dt hM hG hx hb hc hv;go_enter func183,ntmps183;go_wp2_with fail;refine cG (QA.o _ bN.o.1) λw1 aC=> ?_;have aO:=af (bN.o.below aC);obtain⟨p0,p1,p2,p3,p4,p5,p6,p7⟩:=ak (aO.o.cE rfl);obtain⟨c0,c1⟩:=ah (aO.o.bJ rfl);clear aC;go_wp2_with fail;refine(HB.o _ aO.o.1).mono ?_;rintro e w2⟨_,rfl,⟨p,g1,g2,N,rfl,Rm,NY,Nz,DP,DQ,lJ⟩,aY⟩;have aL:=af (aO.o.below aY);have qhs:Hd (aq w2 w2):=dK;have N2:Hd (ab N w2 (xL va vs.length vc) vs):=AZ.o.ev ⟨ai.ao aL.o.1,λi hi=>(NY i hi).imp_right λh=>Qcg aO.o.1.size h⟩;have rU:Hd (∀i,M i->N i):=Rm;have Nx:=af (λo=>JO.o N (w2.alloc o) g1 g2 p (Nz.below (dK.alloc bq o)) ((aL.o.alloc o).1) (DP.only (ai.ao (dK.alloc bq o))) (DQ.only (ai.ao (dK.alloc bq o))) (((Qbg w2.heap.size w2).alloc bq o).block p (Qaa.1 lJ).1|>.trans lJ) (N2.o.ev ((Ev.refl _ _).alloc o)));generalize tD x.kind=gf at Nx Q1⊢;clear aY Nz DP DQ lJ Rm NY p0 p1 p2 p3 p4 p5 p6 p7 c0 c1;unfold jm iH;go_wp2_with fail;refine(Nx.o _).mono ?_;rintro e w3⟨u,rfl,⟨us,Dy,bo⟩,bG⟩;obtain⟨ua,uc,rfl,_⟩:=bo.open_;have eE:=af bo;have HUS:=af Dy;have bI:Hd (aq w w3):=((aL.o.alloc _).below bG).1;clear bo Dy bG;go_wp2;go_ret2;exact⟨_,rfl,⟨_,_,rfl,HUS.o,eE.o.ev (Ev.eG w3 rU.o)⟩,bI.o⟩
section
attribute [local go_sem]Oper.semAt_some
theorem pS(nm:aT)(fv cv:an)(w:aj):xC 184 #[.agg #[xS nm,fv,cv]] w λe w'=>e=xR (.func (.func 205) #[] #[xP w.heap.size])/\w.alloc (cD nm fv cv)=w':=by
 have DK:∀(fn:Fn)(first cap:Array an)(w:aj),(Instr.makeFunc fn first cap).run prog w= .ok (.func fn first cap) w:=λ_ _ _ _=>rfl;go_enter func184,ntmps184;go_wp2;go_ret;exact⟨rfl,rfl⟩
def rh(M S:aS)(w:aj):Nat->Prop:=λi=>M i\/S i\/SU w 1 i
def pT(l:aK)(N:aS)(i:Nat)(args:Array an)(j:Nat)(A:aj):Prop:=j=i+1/\i<=l.changes.length/\∃jY,args= #[.agg #[xS l.first.name,jY],xI 0]/\ab N A jY (aI l i).fields
structure u6(l:aK)(N:aS)(p:Nat)(w0 w:aj)(fv cv:an)(i:Nat)(fvc:an)(A:aj):Prop where
 below:aq w0 A
 line:A.heap[p]? =some (cD l.first.name fv cv)
 cls:A.heap[w.heap.size+2]? =some (cS l.first.name fvc)
 sl:ab N A fvc (aI l i).fields
section
variable {l:aK}{M S:aS}{p:Nat}{w0 w:aj}{fv cv:an}{i:Nat}{fvc:an}{A B:aj}
theorem u6.size(h:u6 l (rh M S w) p w0 w fv cv i fvc A):w.heap.size+2<A.heap.size:=(Qaa.1 h.cls).1
theorem u6.round(h:u6 l (rh M S w) p w0 w fv cv i fvc A)(ho:ai (ZC S w) A B)(hS:∀i,S i->w0.heap.size<=i/\i<w.heap.size)(hw:w0.heap.size<=w.heap.size)(hp:p<w.heap.size)(hSp:¬S p):u6 l (rh M S w) p w0 w fv cv i fvc B:=by
 have hz:=h.size;refine⟨⟨ho.os.trans h.below.os,ho.tape.trans h.below.tape,ho.output.trans h.below.output,Qcg h.below.size ho.size,λj hj=>(ho.block j (by omega) (λhS'=> ?_)).trans (h.below.block j hj)⟩,ho.at_ h.line (λh=> ?_),ho.at_ h.cls (λh=> ?_),h.sl.ev ⟨ho.mono λj hj=> ?_,λj hj=> .inl hj⟩⟩
 .rcases hS' with hS'|hS'
  .have:=(hS j hS').1;omega
  .omega
 .rcases h with h|h
  .exact hSp h
  .omega
 .rcases h with h|h
  .have:=(hS _ h).2;omega
  .omega
 .rcases hj with hj|hj
  .exact .inr (.inl hj)
  .exact .inr (.inr ⟨by omega,by omega⟩)
theorem u6.own(h:u6 l (rh M S w) p w0 w fv cv i fvc A)(hb:aq A B)(hw:w0.heap.size<=w.heap.size)(hp:p<w.heap.size):u6 l (rh M S w) p w0 w fv cv i fvc B:=by
 have hz:=h.size;exact⟨h.below.trans (hb.mono (by omega)),(hb.block p (by omega)).trans h.line,(hb.block _ hz).trans h.cls,h.sl.below hb⟩
theorem Wn(hM:Bd M w0)(hS:∀i,S i->w0.heap.size<=i/\i<w.heap.size)(hw:w0.heap.size<=w.heap.size)(hA:w.heap.size+2<A.heap.size):Bd (rh M S w) A:=λi hi=>by
 rcases hi with hi|hi|hi
 .have:=hM i hi;omega
 .have:=(hS i hi).2;omega
 .have:=hi.2;omega
theorem Wo(hS:∀i,S i->w0.heap.size<=i/\i<w.heap.size)(hw:w0.heap.size<=w.heap.size)(hb:aq w0 A):Ev M w0 (rh M S w) A:=⟨ai.ao hb,λi hi=>by
 rcases hi with hi|hi|hi
 .exact .inl hi
 .exact .inr (hS i hi).1
 .exact .inr (by have:=hi.1;omega)⟩
theorem u6.next(h:u6 l (rh M S w) p w0 w fv cv i fvc A){fvn:an}(hs:ab (rh M S w) A fvn (aI l j).fields)(hw:w0.heap.size<=w.heap.size)(hp:p<w.heap.size)
 (hB:B=(A.setCell ⟨w.heap.size+2,0,none⟩ (xS l.first.name)).setCell ⟨w.heap.size+2,1,none⟩ fvn):u6 l (rh M S w) p w0 w fv cv j fvn B/\ai (ZB w 1) A B:=by
 subst hB;have ho:ai (ZB w 1) A ((A.setCell ⟨w.heap.size+2,0,none⟩ (xS l.first.name)).setCell ⟨w.heap.size+2,1,none⟩ fvn):=((ai.refl (ZB w 1) A).setCell (p:=⟨w.heap.size+2,0,none⟩) (.inl ⟨by simp,by simp⟩) _).setCell (p:=⟨w.heap.size+2,1,none⟩) (.inl ⟨by simp,by simp⟩) _;refine⟨⟨h.below.trans (((dK.setCell (by show w0.heap.size<=w.heap.size+2;omega) _).setCell (by show w0.heap.size<=w.heap.size+2;omega) _)),ho.at_ h.line (λh=>by have:=h.1;omega),xh h.cls _ _,hs.ev ⟨ho.mono λj hj=> .inr (.inr ⟨by have:=hj.1;omega,by have:=hj.2;omega⟩),λj hj=> .inl hj⟩⟩,ho⟩
end
theorem nX(l:aK)(hl:eh l)(M S:aS)(p:Nat)(w0 w:aj)(hM:Bd M w0)(hw:aq w0 w)(hT:Tb w0)(fv cv:an)(bR:ab M w0 fv l.first.fields)(bD:ab M w0 cv l.changes)
 (hp:cI w p (cD l.first.name fv cv))(hSp:¬S p)(hS:∀i,S i->w0.heap.size<=i/\i<w.heap.size):
 LZ prog 205 #[xP p] w S 1 0 (pT l (rh M S w)) (λi=>i=l.changes.length+1):=by
 intro J Jx W hz hb hJ Xl hY h0;have HJ:=af hJ;have HJX:=af Xl;have HY:=af hY;have Gv:=hw.size;have gO:p<w.heap.size:=(Qaa.1 hp).1;have TY:Hd (cI W p (cD l.first.name fv cv)):=(hb.block p gO).trans hp;have Ce:Hd (aq w0 W):=hw.trans (hb.mono Gv);have h5:=hl.len;have HR:Hd (∀A,aq w0 A->xC 185 #[.agg #[xS l.first.name,fv]] A (cN (xB true) A)):=λA hb=>by
  have h:=fW M fv A l.first (bR.below hb) (cz hl.first.small);rw[hl.first.right]at h;exact h
 have rT:Hd (∀(i:Nat)(x:aB)A fvc,l.changes[i]? =some x->aq w0 A->w.heap.size+2<A.heap.size->ab (rh M S w) A fvc (aI l i).fields->xC 206 #[.agg #[xS l.first.name,fvc], .agg #[xI x.kind,xS x.field,xS x.name,xS x.more,xI x.type.kind,xI x.type.of,xS x.expr,xS x.other]] A (bW A λv w'=>∃jY,v= .tuple #[.agg #[xS l.first.name,jY],xI 0]/\ab (rh M S w) w' jY (aI l (i+1)).fields)):=λi x A fvc hx hb hA hs=>by
  obtain⟨h1,h2,h3⟩:=hl.step hx;have h:=MR (rh M S w) A (Wn hM hS Gv hA) (aI l i) (hl.oF i) x h1 h2 fvc hs (hT.below hb);rw[hl.name i]at h;rw[h3];exact h
 have sd:Hd (∀k x,l.changes[k]? =some x->_):=λk x h=>pC bD h;have qbw:Hd (∀A,aq w0 A->ab (rh M S w) A fv (aI l 0).fields):=λA hb=>bR.ev (Wo hS Gv hb);have HH0:=af h0;obtain⟨fa,fc,rfl,_⟩:=bR.open_;obtain⟨ca,cc,rfl,_⟩:=bD.open_;obtain⟨l0,l1,l2⟩:=aD TY.o;clear hJ Xl hY h0 hT hp hb bR bD hw hl;refine callsIn_of_wp func205 rfl trivial ?_ rfl;simp only[ntmps205,List.size_toArray,Qcc,Qcd,Nat.reduceAdd,Nat.reduceSub,Array.replicate_succ,Array.replicate_zero,List.push_toArray,List.append_toArray,List.nil_append,List.cons_append];gi_wp2_with fail;obtain⟨W1,dS⟩:=cM (W.alloc (cS l.first.name (xL fa l.first.fields.length fc)));have Un:aq W W1:=by rw[dS];exact bO
 have hB1:aq w0 W1:=Ce.o.trans (Un.mono (by omega));have Rs:Hd (u6 l (rh M S w) p w0 w (xL fa l.first.fields.length fc) (xL ca l.changes.length cc) 0 (xL fa l.first.fields.length fc) W1):=⟨hB1,(Un.block p (by omega)).trans TY.o,by rw[dS,<-hz];exact Qbh W _,qbw.o W1 hB1⟩;have Vc:Hd (J 0 W1):=HJ.o 0 W W1 HH0.o (ai.ao Un);unfold cS at dS;rw[<-dS];clear dS Un hB1 l0 l1 l2;refine⟨trivial,rfl,(callsIn_wide.2 (HR.o _ Rs.o.below)).mono ?_⟩;rintro e w1⟨rfl,aC⟩;have Vv:=af (Rs.o.own aC Gv gO);have HJ2:Hd (J 0 w1):=HJ.o 0 W1 w1 Vc.o (ai.ao aC);obtain⟨c0,c1⟩:=ah Vv.o.cls;obtain⟨fn,tmps,assign,body,hy,hR⟩:=HY.o 0 #[.agg #[xS l.first.name,xL fa l.first.fields.length fc],xI 0] 1 w1 HJ2.o ⟨rfl,Qbf _,_,rfl,Vv.o.sl⟩;have pZ:=af hR;clear hR aC;gi_wp2_with fail;refine⟨rfl,pZ.o.mono ?_⟩;rintro e W3(⟨rfl,Xm,DL⟩|⟨rfl,JT⟩)
 .have YY:=af Xm;have Rt:=af (Vv.o.round DL hS Gv gO hSp);obtain⟨l0,l1,l2⟩:=aD Rt.o.line;clear Xm DL hy c0 c1;gi_wp2_with fail;gi_loopw [4,6,24](λe4 _ k wr=>∃(i n cap:Nat)(a:dC),e4=xI 0/\k=xI i/\i<=l.changes.length/\Hd (J (i+1) wr)/\Hd (u6 l (rh M S w) p w0 w (xL fa l.first.fields.length fc) (xL ca l.changes.length cc) i (xL a n cap) wr))(λ_ _ k _=>l.changes.length-(intOf k).toNat);case atStart=>exact⟨0,l.first.fields.length,fc,fa,rfl,rfl,Qbf _,YY,Rt⟩
  case round=>
   obtain⟨i,n,cap,a,rfl,rfl,hi,HJi,HVi⟩:=hrel;clear l0 l1 l2;by_cases aX:i<l.changes.length
   .obtain⟨x,hx⟩:=dQ l.changes i aX;obtain⟨b,off,fq,wT,cw,aw⟩:=sd.o i x hx;obtain⟨rfl,rfl⟩:=gY wT;obtain⟨q0,q1,q2,q3,q4,q5,q6,q7⟩:=aw wr HVi.o.below;have hzr:=HVi.o.size;have hOA:=λo=>HVi.o.own ((Qbg wr.heap.size wr).alloc bq o) Gv gO;have d0:=λo=>(ah (hOA o).cls).1;have d1:=λo=>(ah (hOA o).cls).2;have Vw:=af (hOA (tV x));have HJ5:Hd (J (i+1) (wr.alloc (tV x))):=HJ.o _ wr _ HJi.o (ai.ao ((Qbg wr.heap.size wr).alloc bq _));have bt:=af (rT.o i x (wr.alloc (tV x)) _ hx Vw.o.below Vw.o.size Vw.o.sl);unfold tV at Vw HJ5 bt;clear wT aw hx hOA;gi_wp2_with fail;refine⟨trivial,rfl,(callsIn_wide.2 bt.o).mono ?_⟩;rintro e w6⟨_,rfl,⟨fvn,rfl,hsn⟩,sj⟩;obtain⟨ya,yc,rfl,_⟩:=hsn.open_;have HV6:=af (Vw.o.own sj Gv gO);have G0:Hd (J (i+1) w6):=HJ.o _ _ w6 HJ5.o (ai.ao sj);have XX:=af hsn;obtain⟨m0,m1⟩:=ah HV6.o.cls;obtain⟨f0,f1⟩:=nu HV6.o.cls;obtain⟨W7,Au⟩:=cM ((w6.setCell ⟨w.heap.size+2,0,none⟩ (xS l.first.name)).setCell ⟨w.heap.size+2,1,none⟩ (xL ya (aI l (i+1)).fields.length yc));obtain⟨hv7,QI⟩:=HV6.o.next (j:=i+1) XX.o Gv gO Au;have HV7:=af hv7;have HJ7:Hd (J (i+1) W7):=HJ.o _ _ W7 G0.o QI;obtain⟨fn,tmps,assign,body,hy,hR⟩:=HY.o (i+1) #[.agg #[xS l.first.name,xL ya (aI l (i+1)).fields.length yc],xI 0] (i+1+1) W7 HJ7.o ⟨rfl,aX,_,rfl,HV7.o.sl⟩;have Xp:=af hR;obtain⟨s0,s1⟩:=ah HV7.o.cls;have vp:=af Au;clear hsn sj hv7 QI hR d0 d1 q0 q1 q2 q3 q4 q5 q6 q7 Au;gi_upto_region 8 with fail;rw[<-vp.o];clear m0 m1 f0 f1;gi_wp2_with fail;refine⟨rfl,Xp.o.mono ?_⟩;rintro e W9(⟨rfl,hJ9,hk9⟩|⟨rfl,qbx⟩)
    .have XV:=af hJ9;have HV9:=af (HV7.o.round hk9 hS Gv gO hSp);clear hJ9 hk9 hy s0 s1;gi_wp2_with fail;go_roundw;case rel=>exact⟨i+1,_,yc,ya,rfl,by go_num,aX,XV,HV9⟩
     case measure=>simp[intOf];omega
    .have qex:=af qbx;clear qbx hy;gi_wp2_with fail;refine Qae (results_none rfl _ _ _) rfl ?_;exact⟨⟨_,rfl⟩, .inr qex.o⟩
   .obtain rfl:i=l.changes.length:=by omega
    have HJe:=HJi;clear HVi HJi rT sd HR HY qbw TY Ce YY Rt;gi_wp2_with fail;refine bodyPost_end (results_none rfl _ _ _) rfl ?_;exact⟨⟨_,rfl⟩, .inl ⟨_,rfl,HJe.o⟩⟩
 .have Ra:=af JT;clear JT hy;gi_wp2_with fail;refine Qae (results_none rfl _ _ _) rfl ?_;exact⟨⟨_,rfl⟩, .inr Ra.o⟩
end
theorem pU {l:aK}{args:Array an}(h:pT l N i args j A):args.size=2:=by obtain⟨_,_,_,rfl,_⟩:=h;rfl
theorem MS(l:aK)(hl:eh l)(M:aS)(w:aj)(hM:Bd M w)(hT:Tb w)(fv cv:an)(bR:ab M w fv l.first.fields)(bD:ab M w cv l.changes):
 xC 141 #[.agg #[xS l.first.name,fv,cv]] w (cN (xB true) w):=by
 have h5:=hl.len;have Ah:Hd (∀p W,aq w W->cI W p (cD l.first.name fv cv)->LZ prog 205 #[xP p] W xF 1 0 (pT l (rh M xF W)) (λi=>i=l.changes.length+1)):=λp W h1 h2=>
  nX l hl M xF p w W hM h1 hT fv cv bR bD h2 (λh=>h) (λi h=>h.elim);obtain⟨fa,fc,rfl,_⟩:=bR.open_;obtain⟨ca,cc,rfl,_⟩:=bD.open_;have Dv:(l.changes.length:Int)<=12:=by omega
 refine callsIn_wide.1 (callsIn_of_wp_marks (n:=0) func141 rfl trivial (wpIn_wide.2 ?_) rfl);simp only[ntmps141,List.size_toArray,Qcc,Qcd,Nat.reduceAdd,Nat.reduceSub,Array.replicate_succ,Array.replicate_zero,List.push_toArray,List.append_toArray,List.nil_append,List.cons_append];go_wp2_with fail;refine dJ (pS _ _ _ _) ?_;go_wp2_with fail;obtain⟨w2,oo⟩:=cM (((w.alloc (cD l.first.name (xL fa l.first.fields.length fc) (xL ca l.changes.length cc))).alloc (NG false)).alloc (cD l.first.name (xL fa l.first.fields.length fc) (xL ca l.changes.length cc)));have aL:=af (show Bx w [cD l.first.name (xL fa l.first.fields.length fc) (xL ca l.changes.length cc),NG false,cD l.first.name (xL fa l.first.fields.length fc) (xL ca l.changes.length cc)] w2 by rw[oo];exact Bx.gI w _ _ _);have dA:w2.heap.size=w.heap.size+3:=by rw[oo];simp
 unfold cD at oo⊢;unfold NG at oo;rw[<-oo];have T7:=af (Ah.o _ w2 aL.o.1 (aL.o.gy rfl));refine wpIn_wide.1 (nJ rfl (enters_of func205 (by kernel_rfl) rfl) xF 1 0 (pT l (rh M xF w2)) (λi=>i=l.changes.length+1) T7.o (λi args i' W h=>pU h) (λi hi=>hi.elim)
  (λ_ W=>Bx w [cD l.first.name (xL fa l.first.fields.length fc) (xL ca l.changes.length cc),NG false,cD l.first.name (xL fa l.first.fields.length fc) (xL ca l.changes.length cc)] W) (λ_ _=>False) (λi A B h ho=>h.only ho (λj hj=>by have:=hj.1;simp;omega)) (λc A B h _=>h) (aL.o) ?hround ?hdone ?hstop);case hstop=>intro c W h;exact h.elim
 case hround=>
  intro k i args i' W hI No hsz;obtain⟨rfl,hi,jY,rfl,_⟩:=No;have HI:=af hI;gi_wp2_with(rw[Oper.semAt_eq _ _ _ (λc h=>by cases h)];go_simp;try go_bits);refine⟨ai.refl _ _,λW2 iM NN=> ?_⟩;have oQ:Hd (Bx w [cD l.first.name (xL fa l.first.fields.length fc) (xL ca l.changes.length cc),NG false,cD l.first.name (xL fa l.first.fields.length fc) (xL ca l.changes.length cc)] W2):=HI.o.only iM (λj hj=>by have:j=w2.heap.size+1:=hj;simp;omega);gi_wp2_with(rw[Oper.semAt_eq _ _ _ (λc h=>by cases h)];go_simp;try go_bits);exact⟨ai.refl _ _,oQ.o⟩
 case hdone=>
  intro i W hE hI hD;have HI:=af hI;have HD:=af hD;have b0:DD W w 0 (xB false):=one_cell (HI.o.cE rfl);have f0:=ag (HI.o.cE rfl) 0;go_wp2_with fail;obtain⟨W',iL⟩:=cM (W.setCell ⟨w.heap.size+1,0,none⟩ (xB true));have o1:ai (λj=>j=w.heap.size+1) W W':=by rw[iL];exact(ai.refl (λj=>j=w.heap.size+1) W).setCell (p:=⟨w.heap.size+1,0,none⟩) (.inl rfl) _
  have g1:W'.heap[w.heap.size+1]? =some (NG true):=by
   rw[iL];have:=Qca W (w.heap.size+1) 0 _ _ (xB true) (HI.o.cE rfl);simpa [NG]using this
  rw[<-iL];have gd:=o1.at_ HD.o (by omega);refine⟨by simp, .inl ⟨_,_,rfl,run_takeDeferred gd,?_⟩⟩;obtain⟨W2,fT⟩:=cM (W'.putObj w2.heap.size (.deferred none));have o2:ai (λj=>j=w2.heap.size) W' W2:=by rw[fT];exact(ai.refl (λj=>j=w2.heap.size) W').putObj (.inl rfl) _
  have k1:=one_cell (o2.at_ g1 (by omega));rw[<-fT];refine⟨xB true,by simp[results,results141,go_sem,k1],rfl,?_⟩;exact cX (cX HI.o.1 HI.o.1.size o1 (λj hj=>by have:j=w.heap.size+1:=hj;omega)) (Qcg HI.o.1.size o1.size) o2 (λj hj=>by have:j=w2.heap.size:=hj;omega)
def my(n:Int):Obj:=xK #[xI n] 3
def P9(w:aj):Nat->Prop:=λj=>j=w.heap.size+1+1\/j=w.heap.size+1+1+1
def MdX(l:aK)(ver:Nat)(N:aS)(w:aj)(c:Code)(W:aj):Prop:=
 c= .ret/\aq w W/\∃a n cap,W.heap[w.heap.size+1+1]? =some (cS l.first.name (xL a n cap))/\ab N W (xL a n cap) (aI l ver).fields
theorem MdX.only {l:aK}{ver:Nat}{B:aj}{c:Code}{S:aS}(h:MdX l ver N w c A)(ho:ai S A B)(hS:∀j,S j->w.heap.size+3<=j/\N j):MdX l ver N w c B:=by
 obtain⟨h1,h2,a,n,cap,h3,h4⟩:=h;exact⟨h1,cX h2 h2.size ho (λj hj=>by have:=(hS j hj).1;omega),a,n,cap,ho.at_ h3 (λh=>by have:=(hS _ h).1;omega),h4.ev ⟨ho.mono λj hj=>(hS j hj).2,λj hj=> .inl hj⟩⟩
theorem Tv(l:aK)(hl:eh l)(ver:Nat)(hv:ver<=l.changes.length)(M:aS)(w:aj)(hM:Bd M w)(hT:Tb w)(fv cv:an)(bR:ab M w fv l.first.fields)(bD:ab M w cv l.changes):
 xG 153 #[.agg #[xS l.first.name,fv,cv],xI ver] w λv w'=>∃jY,v= .agg #[xS l.first.name,jY]/\ab M w' jY (aI l ver).fields:=by
 have h5:=hl.len;have Ah:Hd (∀p W,aq w W->w.heap.size+5=W.heap.size->p=w.heap.size+1+1+1+1->cI W p (cD l.first.name fv cv)->LZ prog 205 #[xP p] W (P9 w) 1 0 (pT l (rh M (P9 w) W)) (λi=>i=l.changes.length+1)):=λp W h1 h3 h4 h2=>
  nX l hl M (P9 w) p w W hM h1 hT fv cv bR bD h2 (λh=>by rcases h with h|h<;>omega) (λi h=>by rcases h with h|h<;>omega);obtain⟨fa,fc,rfl,_⟩:=bR.open_;obtain⟨ca,cc,rfl,_⟩:=bD.open_;obtain⟨os,Sp⟩:∃os:Int->List Obj,os=λk=>[cD l.first.name (xL fa l.first.fields.length fc) (xL ca l.changes.length cc),my ver,cS ⟨#[]⟩ (xL none 0 0),my k,cD l.first.name (xL fa l.first.fields.length fc) (xL ca l.changes.length cc)]:=⟨_,rfl⟩;refine callsIn_wide.1 (callsIn_of_wp_marks (n:=0) func153 rfl trivial (wpIn_wide.2 ?_) rfl);simp only[ntmps153,List.size_toArray,Qcc,Qcd,Nat.reduceAdd,Nat.reduceSub,Array.replicate_succ,Array.replicate_zero,List.push_toArray,List.append_toArray,List.nil_append,List.cons_append];go_wp2_with fail;refine dJ (pS _ _ _ _) ?_;go_wp2_with fail;obtain⟨w2,oo⟩:=cM (((((w.alloc (cD l.first.name (xL fa l.first.fields.length fc) (xL ca l.changes.length cc))).alloc (my ver)).alloc (cS ⟨#[]⟩ (xL none 0 0))).alloc (my 0)).alloc (cD l.first.name (xL fa l.first.fields.length fc) (xL ca l.changes.length cc)));have aL:=af (show Bx w (os 0) w2 by rw[oo,Sp];exact Bx.Zw w _ _ _ _ _);have dA:w2.heap.size=w.heap.size+5:=by rw[oo];simp
 unfold cD at oo⊢;unfold my cS at oo;rw[<-oo];have T7:=af (Ah.o _ w2 aL.o.1 dA.symm rfl (by have h:=aL.o.at4 (o:=cD l.first.name (xL fa l.first.fields.length fc) (xL ca l.changes.length cc)) (by rw[Sp];rfl);exact h));refine wpIn_wide.1 (nJ rfl (enters_of func205 (by kernel_rfl) rfl) (P9 w) 1 0 (pT l (rh M (P9 w) w2)) (λi=>i=l.changes.length+1) T7.o (λi args i' W h=>pU h) (λi hi=>by rcases hi with hi|hi<;>omega)
  (λi W=>i<=ver/\Bx w (os i) W) (MdX l ver (rh M (P9 w) w2) w) (λi A B h ho=>⟨h.1,h.2.only ho (λj hj=>by have:=hj.1;rw[Sp];simp;omega)⟩) (λc A B h ho=>h.only ho (λj hj=>⟨by have:=hj.1;omega, .inr (.inr hj)⟩)) ⟨Qbf _,aL.o⟩ ?hround ?hdone ?hstop);case hdone=>
  intro i W hE hI hD;exfalso;have:=hI.1;omega
 case hround=>
  intro k i args i' W hI No hsz;obtain⟨rfl,hi,jY,rfl,bo⟩:=No;obtain⟨hiv,wE⟩:=hI;obtain⟨ya,yc,rfl,_⟩:=bo.open_;have HI:=af wE;have eE:=af bo;gi_wp2_with(rw[Oper.semAt_eq _ _ _ (λc h=>by cases h)];go_simp;try go_bits);refine⟨(ai.refl _ W).alloc _,λW2 iM NN=> ?_⟩;have oQ:Hd (Bx w (os i) W2):=(HI.o.alloc _).only iM (λj hj=>by have:j=w2.heap.size+1:=hj;rw[Sp];simp;omega);have GP:=af (iM.at_ (Qbh W (cS l.first.name (xL ya (aI l i).fields.length yc))) (by show¬W.heap.size=w2.heap.size+1;omega));have Rn:Hd (ab (rh M (P9 w) w2) W2 (xL ya (aI l i).fields.length yc) (aI l i).fields):=eE.o.ev ⟨((ai.refl _ W).alloc _).trans (iM.mono λj hj=> .inr (.inr (by have:j=w2.heap.size+1:=hj;exact⟨by omega,by omega⟩))),λj hj=> .inl hj⟩;obtain⟨p0,p1⟩:=ah GP.o;have v0:DD W2 w 0 (xI ver):=one_cell (oQ.o.cE (by rw[Sp];rfl));have t0:aU W2 (w.heap.size+1+1+1) 0 (xI i):=one_cell (oQ.o.Ay (by rw[Sp];rfl));have t1:=ag (oQ.o.Ay (o:=my i) (by rw[Sp];rfl)) 0;have K7:=oQ.o.gy (o:=cS ⟨#[]⟩ (xL none 0 0)) (by rw[Sp];rfl);have zY:=af K7;obtain⟨r0,r1⟩:=ah K7;obtain⟨f0,f1⟩:=nu K7;by_cases he:i=ver
  .subst he;gi_wp2_with(rw[Oper.semAt_eq _ _ _ (λc h=>by cases h)];go_simp;try go_bits);obtain⟨B,hB⟩:=cM ((W2.setCell ⟨w.heap.size+1+1,0,none⟩ (xS l.first.name)).setCell ⟨w.heap.size+1+1,1,none⟩ (xL ya (aI l i).fields.length yc));have o1:ai (P9 w) W2 B:=by rw[hB];exact((ai.refl (P9 w) W2).setCell (p:=⟨w.heap.size+1+1,0,none⟩) (.inl (.inl rfl)) _).setCell (p:=⟨w.heap.size+1+1,1,none⟩) (.inl (.inl rfl)) _
   have g1:cI B (w.heap.size+1+1) (cS l.first.name (xL ya (aI l i).fields.length yc)):=by rw[hB];exact xh zY.o _ _
   rw[<-hB];exact⟨o1,rfl,cX oQ.o.1 oQ.o.1.size o1 (λj hj=>by rcases hj with hj|hj<;>omega),ya,_,yc,g1,Rn.o.ev ⟨o1.mono λj hj=> .inr (.inl hj),λj hj=> .inl hj⟩⟩
  .have he2:((i:Int)==(ver:Int))=false:=by simp;omega
   gi_wp2_with(rw[Oper.semAt_eq _ _ _ (λc h=>by cases h)];go_simp;try go_bits);obtain⟨B,hB⟩:=cM (W2.setCell ⟨w.heap.size+1+1+1,0,none⟩ (xI ((i:Int)+1)));have o1:ai (P9 w) W2 B:=by rw[hB];exact(ai.refl (P9 w) W2).setCell (p:=⟨w.heap.size+1+1+1,0,none⟩) (.inl (.inr rfl)) _
   have g1:Bx w (os ((i+1:Nat):Int)) B:=by
    have h:=oQ.o.set 3 0 (cs:= #[xI (i:Int)]) (t:=3) (by rw[Sp];rfl) (xI ((i:Int)+1));rw[hB];rw[Sp]at h⊢;exact h
   rw[<-hB];exact⟨o1,by omega,g1⟩
 case hstop=>
  intro c W hX hD;obtain⟨rfl,hb,a,n,cap,h1,h2⟩:=hX;have HD:=af hD;refine wpIn_wide.2 ?_;dsimp only;go_wp2_with fail;obtain⟨W2,fT⟩:=cM (W.putObj w2.heap.size (.deferred none));have o2:ai (λj=>j=w2.heap.size) W W2:=by rw[fT];exact(ai.refl (λj=>j=w2.heap.size) W).putObj (.inl rfl) _
  obtain⟨k0,k1⟩:=ah (o2.at_ h1 (by omega));refine⟨by simp, .inl ⟨_,_,rfl,run_takeDeferred HD.o,?_⟩⟩;rw[<-fT];refine⟨.agg #[xS l.first.name,xL a n cap],by simp[results,results153,go_sem,k0,k1],_,rfl,⟨_,rfl,(h2.ev ⟨o2.mono λj hj=> .inr (.inr (by have:j=w2.heap.size:=hj;exact⟨by omega,by omega⟩)),λj hj=> .inl hj⟩).ev (Ev.eG W2 λj hj=> .inl hj)⟩,?_⟩;exact cX hb hb.size o2 (λj hj=>by have:j=w2.heap.size:=hj;omega)
theorem Qa(M:aS)(v:an)(w:aj)(ls:List aK)(name:aT)(hs:ab M w v ls)(h8:ls.length<=8)(n:Nat)(hn:eu ls name=n):
 xC 56 #[.agg #[v],xS name] w (cN (.tuple #[xI n,xB true]) w):=by
 have HL:Hd (∀k l,ls[k]? =some l->_):=λk l h=>eC hs h;obtain⟨a,bQ,rfl,cK,hm,_⟩:=hs.open_;have HN:=af hn;go_enter func56,ntmps56;go_wp2;go_loopg [4,5,6,7,11]ls.length(λg r4 r5 _ _ iv wr=>∃k:Nat,k<=ls.length/\g=ls.length-k/\iv=xI k/\r4=xI 0/\r5=xB false/\Hd (Bx w [fK (xL a ls.length bQ)] wr)/\Hd (∀y∈ls.take k,bV y.first.name name=false));case atStart=>exact⟨0,Qbf _,rfl,rfl,rfl,rfl,(Bx.dR w _),(show∀y∈_,_ fromλy hy=>by simp at hy)⟩
 case round=>
  obtain⟨k,hk,rfl,rfl,rfl,rfl,HX,HK⟩:=hrel;have tX:=one_cell (HX.o.bJ rfl);by_cases aX:k<ls.length
  .obtain⟨l,hl⟩:=dQ ls k aX;obtain⟨b,off,cap,fa,fc,ca,cc,hv,cw,_,_,_,aw⟩:=HL.o k l hl;obtain⟨rfl,rfl⟩:=gY hv;obtain⟨q0,q1,q2⟩:=aw wr HX.o.1;have jT:=af (HX.o.alloc (xK #[xS l.first.name,xL fa l.first.fields.length fc,xL ca l.changes.length cc] 104));have DM:=af hl;by_cases hq:(l.first.name.toList==name.toList)=true
   .have e0:eu ls name=k:=idxOf_hit (p:=λl:aK=>bV l.first.name name) HK.o DM.o hq;have U7:=af e0;go_wp2;go_ret2;exact⟨xY (by have:=U7.o;have:=HN.o;omega) rfl,jT.o.1⟩
   .go_wp2;go_roundg(ls.length-(k+1));case measure=>omega
    case rel=>
     refine⟨k+1,by omega,rfl,by go_num,rfl,rfl,jT,(show∀y∈ls.take (k+1),_ fromλy hy=> ?_)⟩;rw[Qbb,DM.o]at hy;rcases Qch.1 hy with hy|hy
     .exact HK.o y hy
     .simp at hy;subst hy;simpa [bV]using hq
  .exfalso;have e0:eu ls name= -1:=kQ (p:=λl:aK=>bV l.first.name name) (by have:=HK.o;rw[show k=ls.length from by omega,List.take_length]at this;exact this);have:=HN.o;omega
theorem BX(ls:List aK)(h:eI ls)(M:Nat->Prop)(w:World)(hM:Bd M w)(hT:Tb w)(v:Value)(hs:ab M w v ls):
 xC 89 #[.agg #[v]] w (cN (.tuple #[xI 0,xI 0]) w):=by
 have h4:=h.len;have HL:Hd (∀k l,ls[k]? =some l->_):=λk l h=>eC hs h;have ek:Hd (∀(k:Nat)(l:aK)W(fv cv:Value),ls[k]? =some l->aq w W->ab M w fv l.first.fields->ab M w cv l.changes->_):=λk l W fv cv hk hb h1 h2=>MS l (h.lines l (Qaf hk)) M W (hM.below hb) (hT.below hb) fv cv (h1.below hb) (h2.below hb);have HF:Hd (∀(k:Nat)(l:aK)W,ls[k]? =some l->aq w W->_):=λk l W hk hb=>Qa M v W ls l.first.name (hs.below hb) (by omega) k (h.apart k l hk);obtain⟨a,bQ,rfl,cK,hm,_⟩:=hs.open_;have h8:(ls.length:Int)<=8:=by omega
 clear hs h;go_enter func89,ntmps89;go_wp2;go_loopg [2,3,4,5,6,7,15]ls.length(λg r2 r3 _ _ _ _ iv wr=>∃k:Nat,k<=ls.length/\g=ls.length-k/\iv=xI k/\r2=xI 0/\r3=xI 0/\Hd (Bx w [fK (xL a ls.length bQ)] wr));case atStart=>exact⟨0,Qbf _,rfl,rfl,rfl,rfl,(Bx.dR w _)⟩
 case round=>
  obtain⟨k,hk,rfl,rfl,rfl,rfl,HX⟩:=hrel;have tX:=one_cell (HX.o.bJ rfl);by_cases aX:k<ls.length
  .obtain⟨l,hl⟩:=dQ ls k aX;obtain⟨b,off,cap,fa,fc,ca,cc,hv,cw,wU,iB,_,aw⟩:=HL.o k l hl;obtain⟨rfl,rfl⟩:=gY hv;obtain⟨q0,q1,q2⟩:=aw wr HX.o.1;have Nr:=fV (w:=w) (λW hb=>ek.o k l W _ _ hl hb wU iB);have lI:=af (λW hb=>HF.o k l W hl hb);have Xb:=λo=>one_cell ((HX.o.alloc o).bJ rfl);clear wU iB hv hl aw;go_upto_region 6 with fail;obtain⟨W5,mD⟩:=cM (wr.alloc (xK #[xS l.first.name,xL fa l.first.fields.length fc,xL ca l.changes.length cc] 104));have Ab:=af (show Bx w [fK (xL (some ⟨b,off,none⟩) ls.length bQ)] W5 by rw[mD];exact HX.o.alloc _);have uh:=af (show W5.heap[wr.heap.size]? =some (cD l.first.name (xL fa l.first.fields.length fc) (xL ca l.changes.length cc))by rw[mD];exact Qbh wr _);rw[<-mD];clear mD q0 q1 q2 tX Xb;generalize wr.heap.size=Q at*;have tX:=one_cell (Ab.o.bJ rfl);obtain⟨q0,q1,q2⟩:=aD uh.o;go_wp2_with fail;refine(lI.o _ Ab.o.1).mono ?_;rintro e w6⟨rfl,sj⟩;have Y8:=af (Ab.o.below sj);have N1:=af ((sj.block Q (Qaa.1 uh.o).1).trans uh.o);clear sj q0 q1 q2 tX;obtain⟨q0,q1,q2⟩:=aD N1.o;go_wp2_with fail;refine(Nr.o _ Y8.o.1).mono ?_;rintro e w7⟨rfl,iK⟩;have HX7:=af (Y8.o.below iK);clear iK;go_wp2;go_roundg(ls.length-(k+1));case measure=>omega
   case rel=>exact⟨k+1,by omega,rfl,by go_num,rfl,rfl,HX7⟩
  .obtain rfl:k=ls.length:=by omega
   go_wp2;go_ret2;exact⟨rfl,HX.o.1⟩
theorem zH(ls:List aK)(h:eI ls)(n:Nat)(l:aK)(hn:ls[n]? =some l)(M:aS)(w:aj)(hM:Bd M w)(hT:Tb w)(v:an)(hs:ab M w v ls):
 xC 137 #[.agg #[v],xI n] w λe w'=>(∃fa fc ca cc,e=xR (.tuple #[.agg #[xS l.first.name,xL fa l.first.fields.length fc,xL ca l.changes.length cc],xI 0])/\ab M w (xL fa l.first.fields.length fc) l.first.fields/\ab M w (xL ca l.changes.length cc) l.changes)/\aq w w':=by
 have HC:=fV (w:=w) (λW hb=>BX ls h M W (hM.below hb) (hT.below hb) v (hs.below hb));have aX:=(Qad.1 hn).1;obtain⟨b,off,cap,fa,fc,ca,cc,rfl,cw,wU,iB,_,aw⟩:=eC hs hn;have lI:=af wU;have rA:=af iB;have tP:=af aw;have bN:=af (Bx.dh w (fK (xL (some ⟨b,off,none⟩) ls.length cap)) (cD ⟨#[]⟩ (xL none 0 0) (xL none 0 0)));have dz:(0:Int)<=(n:Int):=Qba _;have TU:(n:Int)<(ls.length:Int):=by omega
 go_enter func137,ntmps137;go_wp2_with fail;refine cG (HC.o _ bN.o.1) λw1 aC=> ?_;have aO:=af (bN.o.below aC);have tX:=one_cell (aO.o.bJ rfl);obtain⟨q0,q1,q2⟩:=tP.o w1 aO.o.1;obtain⟨r0,r1,r2⟩:=aD (aO.o.cE rfl);obtain⟨f0,f1⟩:=nu (aO.o.cE rfl);have f2:=ag (aO.o.cE rfl) 2;go_wp2_with fail;refine Qae (v:= .tuple #[.agg #[xS l.first.name,xL fa l.first.fields.length fc,xL ca l.changes.length cc],xI 0]) (by simp[results,results137,go_sem,r0,r1,r2]) rfl ⟨⟨fa,fc,ca,cc,rfl,lI.o,rA.o⟩,nW aO.o.1 (by omega)⟩
theorem FO(ls:List aK)(h:eI ls)(n:Nat)(l:aK)(hn:ls[n]? =some l)(M:aS)(w:aj)(hM:Bd M w)(hT:Tb w)(v:an)(hs:ab M w v ls):
 xC 84 #[.agg #[v],xI n] w (cN (.tuple #[xI l.changes.length,xI 0]) w):=by
 have HC:=fV (w:=w) (λW hb=>zH ls h n l hn M W (hM.below hb) (hT.below hb) v (hs.below hb));obtain⟨a,bQ,rfl,cK,hm,_⟩:=hs.open_;have bN:=af (Bx.dR w (fK (xL a ls.length bQ)));go_enter func84,ntmps84;go_wp2_with fail;refine(HC.o _ bN.o.1).mono ?_;rintro e w1⟨⟨fa,fc,ca,cc,rfl,_,_⟩,aC⟩;have aO:=af (bN.o.below aC);go_wp2;go_ret2;exact⟨rfl,(aO.o.alloc _).1⟩
theorem Qb(ls:List aK)(h:eI ls)(n:Nat)(l:aK)(hn:ls[n]? =some l)(ver:Nat)(hv:ver<=l.changes.length)(M:aS)(w:aj)(hM:Bd M w)(hT:Tb w)(v:an)(hs:ab M w v ls):
 xG 103 #[.agg #[v],xI n,xI ver] w λv w'=>∃jY,v= .tuple #[.agg #[xS l.first.name,jY],xI 0]/\ab M w' jY (aI l ver).fields:=by
 have ug:=h.lines l (Qaf hn);have HC:Hd (∀W,aq w W->w.heap.size+2<=W.heap.size->_):=λW hb hz=>zH ls h n l hn (dP M w 2) W (dp hM hz) (hT.below hb) v (hs.ev (cW hb));have HMD:Hd (∀W fv cv,aq w W->w.heap.size+2<=W.heap.size->ab (dP M w 2) W fv l.first.fields->ab (dP M w 2) W cv l.changes->_):=λW fv cv hb hz h1 h2=>Tv l ug ver hv (dP M w 2) W (dp hM hz) (hT.below hb) fv cv h1 h2;have h8:=((bc (aI l ver)).1 (ug.oF ver).right).2.1;have Q2:Hd (∀W fv,w.heap.size+2<=W.heap.size->ab (dP M w 2) W fv (aI l ver).fields->_):=λW fv hz h1=>qW l.first.name (aI l ver).fields (by omega) (dP M w 2) W fv (dp hM hz) h1;obtain⟨a,bQ,rfl,cK,hm,_⟩:=hs.open_;have bN:=af (Bx.dh w (fK (xL a ls.length bQ)) (cS ⟨#[]⟩ (xL none 0 0)));have dz:(0:Int)<=(ver:Int):=Qba _;have TU:(ver:Int)<=(l.changes.length:Int):=by omega
 have np:=af hM;go_enter func103,ntmps103;go_wp2_with fail;refine(HC.o _ bN.o.1 bN.o.bY).mono ?_;rintro e w1⟨⟨fa,fc,ca,cc,rfl,wU,iB⟩,aC⟩;have aO:=af (bN.o.below aC);have HMC:Hd (∀o,_):=λo=>HMD.o (w1.alloc o) _ _ (aO.o.alloc o).1 (by have:=aO.o.bY;simp at this⊢;omega) (wU.below (aC.alloc aC.size o)) (iB.below (aC.alloc aC.size o));go_wp2_with fail;refine(HMC.o _).mono ?_;rintro e w2⟨_,rfl,⟨fv,rfl,bo⟩,aY⟩;obtain⟨ya,yc,rfl,_⟩:=bo.open_;have aL:=af ((aO.o.alloc _).below aY);have xN:=af (Q2.o w2 _ aL.o.bY bo);go_wp2_with fail;refine(xN.o).mono ?_;rintro e w3⟨_,rfl,⟨fv3,rfl,qby⟩,bG⟩;obtain⟨za,zc,rfl,_⟩:=qby.open_;have bI:=af (aL.o.below bG);have iq:=af qby;obtain⟨r0,r1⟩:=ah (bI.o.cE rfl);obtain⟨f0,f1⟩:=nu (bI.o.cE rfl);go_wp2_with fail;refine Qae (v:= .tuple #[.agg #[xS l.first.name,xL za (aI l ver).fields.length zc],xI 0]) (by simp[results,results103,go_sem,r0,r1]) rfl ⟨_,rfl,⟨_,rfl,?_⟩,(bI.o.1.setCell (by show w.heap.size<=w.heap.size+1;omega) _).setCell (by show w.heap.size<=w.heap.size+1;omega) _⟩;exact(iq.o.ev (((Ev.refl _ _).setCell (.inl (.inr ⟨by show w.heap.size<=w.heap.size+1;omega,by show w.heap.size+1<w.heap.size+2;omega⟩)) _).setCell (.inl (.inr ⟨by show w.heap.size<=w.heap.size+1;omega,by show w.heap.size+1<w.heap.size+2;omega⟩)) _)).ev (Ev.eG _ λi hi=> .inl hi)
def AN(n:Int):Obj:=xK #[xI n] 44
def eL(l:aK)(fr te i:Nat):List aB:=(l.changes.drop fr).take (min i te-fr)
structure kC(l:aK)(fr te:Nat)(many:Int)(vs:List au)(N:aS)(V R H F T L:Nat)(fv cv:an)(i:Nat)(W:aj):Prop where
 gv:W.heap[V]? =some (my i)
 gr:W.heap[R]? =some (my fr)
 gf:W.heap[F]? =some (AN 0)
 gt:W.heap[T]? =some (my te)
 gl:W.heap[L]? =some (cD l.first.name fv cv)
 gh:∃us a n cap,W.heap[H]? =some (GI (xL a n cap))/\ab N W (xL a n cap) us/\gi (aI l fr) (eL l fr te i) many vs us
def qx(V H F:Nat):Nat->Prop:=λj=>j=V\/j=H\/j=F
structure FP(V R H F T L:Nat):Prop where
 vr:V≠R
 vh:V≠H
 vf:V≠F
 vt:V≠T
 vl:V≠L
 hr:H≠R
 hf:H≠F
 ht:H≠T
 hl:H≠L
 fr:F≠R
 ft:F≠T
 fl:F≠L
section
variable {l:aK}{fr te:Nat}{many:Int}{vs:List au}{N:aS}{V R H F T L:Nat}{fv cv:an}{i:Nat}{W W':aj}
theorem kC.only {S:aS}(h:kC l fr te many vs N V R H F T L fv cv i W)(ho:ai S W W')(hS:∀j,S j->j≠V/\j≠R/\j≠H/\j≠F/\j≠T/\j≠L)(hN:∀j,S j->N j):kC l fr te many vs N V R H F T L fv cv i W':=by
 obtain⟨us,a,n,cap,h1,h2,h3⟩:=h.gh;exact⟨ho.at_ h.gv (λh=>(hS _ h).1 rfl),ho.at_ h.gr (λh=>(hS _ h).2.1 rfl),ho.at_ h.gf (λh=>(hS _ h).2.2.2.1 rfl),ho.at_ h.gt (λh=>(hS _ h).2.2.2.2.1 rfl),ho.at_ h.gl (λh=>(hS _ h).2.2.2.2.2 rfl),us,a,n,cap,ho.at_ h1 (λh=>(hS _ h).2.2.1 rfl),h2.ev ⟨ho.mono hN,λj hj=> .inl hj⟩,h3⟩
theorem kC.below(h:kC l fr te many vs N V R H F T L fv cv i W)(hb:aq W W'):kC l fr te many vs N V R H F T L fv cv i W':=
 h.only (S:=λ_=>False) (ai.ao hb) (λ_ h=>h.elim) (λ_ h=>h.elim)
theorem kC.tick(h:kC l fr te many vs N V R H F T L fv cv i W)(hn:FP V R H F T L)(hN:∀j,qx V H F j->N j)(hc:eL l fr te j=eL l fr te i)(hW:W'=W.setCell ⟨V,0,none⟩ (xI j)):kC l fr te many vs N V R H F T L fv cv j W'/\ai (qx V H F) W W':=by
 have ho:ai (λj=>j=V) W W':=by rw[hW];exact(ai.refl (λj=>j=V) W).setCell (p:=⟨V,0,none⟩) (.inl rfl) _
 obtain⟨us,a,n,cap,h1,h2,h3⟩:=h.gh;refine⟨⟨?_,ho.at_ h.gr (λh=>hn.vr h.symm),ho.at_ h.gf (λh=>hn.vf h.symm),ho.at_ h.gt (λh=>hn.vt h.symm),ho.at_ h.gl (λh=>hn.vl h.symm),us,a,n,cap,ho.at_ h1 (λh=>hn.vh h.symm),h2.ev ⟨ho.mono λj hj=>hN j (.inl hj),λj hj=> .inl hj⟩,by rw[hc];exact h3⟩,ho.mono λj hj=> .inl hj⟩;have:=Qca W V 0 _ _ (xI j) h.gv;rw[hW];simpa [my]using this
theorem kC.VL(h:kC l fr te many vs N V R H F T L fv cv i W)(hn:FP V R H F T L)(hN:∀j,qx V H F j->N j)(hW:W'=W.setCell ⟨F,0,none⟩ (xI 0)):kC l fr te many vs N V R H F T L fv cv i W'/\ai (qx V H F) W W':=by
 have ho:ai (λj=>j=F) W W':=by rw[hW];exact(ai.refl (λj=>j=F) W).setCell (p:=⟨F,0,none⟩) (.inl rfl) _
 obtain⟨us,a,n,cap,h1,h2,h3⟩:=h.gh;refine⟨⟨ho.at_ h.gv hn.vf,ho.at_ h.gr (λh=>hn.fr h.symm),?_,ho.at_ h.gt (λh=>hn.ft h.symm),ho.at_ h.gl (λh=>hn.fl h.symm),us,a,n,cap,ho.at_ h1 hn.hf,h2.ev ⟨ho.mono λj hj=>hN j (.inr (.inr hj)),λj hj=> .inl hj⟩,h3⟩,ho.mono λj hj=> .inr (.inr hj)⟩;have:=Qca W F 0 _ _ (xI 0) h.gf;rw[hW];simpa [AN]using this
theorem kC.hold(h:kC l fr te many vs N V R H F T L fv cv i W)(hn:FP V R H F T L)(hN:∀j,qx V H F j->N j){n:Nat}(hs:ab N W (xL a n cap) us)(hc:gi (aI l fr) (eL l fr te (i+1)) many vs us)
 (hW:W'=(W.setCell ⟨H,0,none⟩ (xL a n cap)).setCell ⟨F,0,none⟩ (xI 0)):(∃W1,W1=W'.setCell ⟨V,0,none⟩ (xI ((i+1:Nat):Int))/\kC l fr te many vs N V R H F T L fv cv (i+1) W1/\ai (qx V H F) W W1)/\(W'.heap[V]? =some (my i)/\W'.heap[F]? =some (AN 0)/\W'.heap[T]? =some (my te)):=by
 have h1:ai (qx V H F) W (W.setCell ⟨H,0,none⟩ (xL a n cap)):=(ai.refl (qx V H F) W).setCell (p:=⟨H,0,none⟩) (.inl (.inr (.inl rfl))) _;have ho:ai (λj=>j=H\/j=F) W W':=by rw[hW];exact((ai.refl (λj=>j=H\/j=F) W).setCell (p:=⟨H,0,none⟩) (.inl (.inl rfl)) _).setCell (p:=⟨F,0,none⟩) (.inl (.inr rfl)) _
 obtain⟨_,a0,n0,c0,h0,_,_⟩:=h.gh;have gH:W'.heap[H]? =some (GI (xL a n cap)):=by
  have e1:=Qca W H 0 _ _ (xL a n cap) h0;rw[hW];refine(Qag _ _ _ _ (by show H≠F;exact hn.hf)).trans ?_;simpa [GI]using e1
 have gF:W'.heap[F]? =some (AN 0):=by
  have e0:(W.setCell ⟨H,0,none⟩ (xL a n cap)).heap[F]? =some (AN 0):=(Qag _ _ _ _ (by show F≠H;exactλh=>hn.hf h.symm)).trans h.gf;have e1:=Qca _ F 0 _ _ (xI 0) e0;rw[hW];simpa [AN]using e1
 have gV:=ho.at_ h.gv (λh=>h.elim hn.vh hn.vf);have gT:=ho.at_ h.gt (λh=>h.elim (λh=>hn.ht h.symm) (λh=>hn.ft h.symm));have gR:=ho.at_ h.gr (λh=>h.elim (λh=>hn.hr h.symm) (λh=>hn.fr h.symm));have gL:=ho.at_ h.gl (λh=>h.elim (λh=>hn.hl h.symm) (λh=>hn.fl h.symm));have hoS:ai (qx V H F) W W':=ho.mono λj hj=> .inr hj;obtain⟨W1,dS⟩:=cM (W'.setCell ⟨V,0,none⟩ (xI ((i+1:Nat):Int)));have o1:ai (λj=>j=V) W' W1:=by rw[dS];exact(ai.refl (λj=>j=V) W').setCell (p:=⟨V,0,none⟩) (.inl rfl) _
 have gV1:cI W1 V (my ((i+1:Nat):Int)):=by
  have:=Qca W' V 0 _ _ (xI ((i+1:Nat):Int)) gV;rw[dS];simpa [my]using this
 have qbz:ai (qx V H F) W W1:=hoS.trans (o1.mono λj hj=> .inl hj);exact⟨⟨W1,dS,⟨gV1,o1.at_ gR (λh=>hn.vr h.symm),o1.at_ gF (λh=>hn.vf h.symm),o1.at_ gT (λh=>hn.vt h.symm),o1.at_ gL (λh=>hn.vl h.symm),us,a,n,cap,o1.at_ gH (λh=>hn.vh h.symm),hs.ev ⟨qbz.mono hN,λj hj=> .inl hj⟩,hc⟩,qbz⟩,gV,gF,gT⟩
end
theorem BY {l:aK}{fr te i:Nat}(h:i<=fr):eL l fr te i=[]:=by unfold eL;rw[show min i te-fr=0 by omega];rfl
theorem pV {l:aK}{fr te i:Nat}(h:i<fr\/te<=i):eL l fr te (i+1)=eL l fr te i:=by
 unfold eL;rcases h with h|h
 .rw[show min (i+1) te-fr=0 by omega,show min i te-fr=0 by omega]
 .rw[show min (i+1) te=min i te by omega]
theorem FQ {l:aK}{fr te i:Nat}(h1:fr<=i)(h2:i<te)(hx:l.changes[i]? =some x):eL l fr te (i+1)=eL l fr te i++[x]:=by
 unfold eL;rw[show min (i+1) te-fr=(i-fr)+1 by omega,show min i te-fr=i-fr by omega,Qbb];congr 1;rw[List.getElem?_drop,show fr+(i-fr)=i by omega,hx];rfl
theorem Jk {l:aK}(hl:eh l){fr te i:Nat}(h1:fr<=i)(h2:i<=te):cU (aI l fr) (eL l fr te i) (aI l i):=by
 have h:=(hl.from_ fr).at_ (i-fr);rw[pG,show fr+(i-fr)=i by omega]at h;unfold eL;rw[show min i te=i by omega];exact h
def FR(l:aK)(fr te:Nat)(many:Int)(vs:List au)(N:aS)(V R H F T L:Nat)(fv cv:an)(i:Nat)(W wx:aj):Prop:=
 (∃W1,W1=wx.setCell ⟨V,0,none⟩ (xI ((i+1:Nat):Int))/\kC l fr te many vs N V R H F T L fv cv (i+1) W1/\ai (qx V H F) W W1)/\(wx.heap[V]? =some (my i)/\wx.heap[F]? =some (AN 0)/\wx.heap[T]? =some (my te))
theorem kC.UC {l:aK}{V H F T L:Nat}(h:kC l fr te many vs N V R H F T L fv cv i wx)(hn:FP V R H F T L)(hN:∀j,qx V H F j->N j)(ho:ai (qx V H F) W wx)(hc:eL l fr te (i+1)=eL l fr te i):FR l fr te many vs N V R H F T L fv cv i W wx:=by
 obtain⟨h1,h2⟩:=h.tick hn hN hc (W':=wx.setCell ⟨V,0,none⟩ (xI ((i+1:Nat):Int))) rfl;exact⟨⟨_,rfl,h1,ho.trans h2⟩,h.gv,h.gf,h.gt⟩
theorem MT(l:aK)(hl:eh l)(fr te i:Nat)(R7:fr<=te)(hte:te<=l.changes.length)(hi:i<=te)(many:Int)(hm:many<=100000)(vs:List au)(M N:Nat->Prop)(V R H F T L:Nat)(fv cv fvc:Value)(hn:FP V R H F T L)(w0 W:World)
 (hS:∀j,qx V H F j->N j)(hSw:∀j,qx V H F j->w0.heap.size<=j)(hN:Bd N W)(kD:aq w0 W)(hG:Gd w0)(bD:ab M w0 cv l.changes)(bo:ab N W fvc (aI l i).fields)(cm:kC l fr te many vs N V R H F T L fv cv i W):
 xC 181 #[.agg #[xS l.first.name,fvc],xP V,xP R,xP H,xP F,xP T,xP L] W λe W'=>e=xR (xB (decide (i+1<=te)))/\kC l fr te many vs N V R H F T L fv cv (i+1) W'/\ai (qx V H F) W W':=by
 have hi5:(i:Int)<=5:=by have:=hl.len;omega
 obtain⟨Sq,Sr,rfl,_⟩:=bo.open_;obtain⟨W1,dS⟩:=cM (W.alloc (cS l.first.name (xL Sq (aI l i).fields.length Sr)));have DI:aq W W1:=by rw[dS];exact bO
 have fu:Hd (kC l fr te many vs N V R H F T L fv cv i W1):=cm.below DI;have HQ:=af (show W1.heap[W.heap.size]? =some (cS l.first.name (xL Sq (aI l i).fields.length Sr))by rw[dS];exact Qbh W _);have eE:Hd (ab N W1 (xL Sq (aI l i).fields.length Sr) (aI l i).fields):=bo.below DI;have iA:Hd (aq w0 W1):=kD.trans (DI.mono kD.size);have oP:Hd (ai (qx V H F) W W1):=ai.ao DI;have JR:Hd (Bd N W1):=hN.below DI;have hQz:W.heap.size<W1.heap.size:=(Qaa.1 HQ.o).1;have HQS:Hd (∀j,qx V H F j->j≠W.heap.size):=λj hj h=>by
  have h2:=hN j (hS j hj);omega
 generalize hQ:W.heap.size=Q at HQ hQz HQS;have QA:Hd (∀A us hv,aq w0 A->ab N A (xL Sq (aI l i).fields.length Sr) (aI l i).fields->ab N A hv us->aW (aI l i).fields many us->xC 182 #[.agg #[xS l.first.name,xL Sq (aI l i).fields.length Sr],hv] A (cN (.tuple #[xI 0,xI 0]) A)):=λA us hv h1 h2 h3 h4=>by
  have h:=mw (aI l i) (hl.oF i).right (cz (hl.oF i).small) many hm us h4 N A _ hv h2 h3 (hG.tb.below h1);rw[hl.name i]at h;exact h
 have HVX:Hd (∀x A us hv,l.changes[i]? =some x->aq w0 A->Bd N A->ab N A (xL Sq (aI l i).fields.length Sr) (aI l i).fields->ab N A hv us->aW (aI l i).fields many us->xC 183 #[.agg #[xS l.first.name,xL Sq (aI l i).fields.length Sr], .agg #[xI x.kind,xS x.field,xS x.name,xS x.more,xI x.type.kind,xI x.type.of,xS x.expr,xS x.other],hv] A (bW A λv w'=>∃us' uv,v= .tuple #[uv,xI 0]/\gW (aI l i) x many us us'/\ab N w' uv us')):=λx A us hv hx h1 hA h2 h3 h4=>by
  obtain⟨g1,g2,_⟩:=hl.step hx;have h:=P8 N A hA (aI l i) (hl.oF i) many hm x g1 g2 _ hv us h2 h3 h4 (hG.below h1);rw[hl.name i]at h;exact h
 have sd:Hd (∀x,l.changes[i]? =some x->_):=λx h=>pC bD h;have HCS:Hd (fr<=i->cU (aI l fr) (eL l fr te i) (aI l i)):=λh=>Jk hl h hi;have HWX:=af dS;have XX:=af hS;have vq:=af hn;have HSW:=af hSw;have HQE:=af hQ;clear DI cm bo dS hQ bD hG hl kD hN hS hSw hn;go_enter func181,ntmps181;go_upto_region 1 with fail;have dS:=HWX.o;unfold cS at dS;rw[<-dS,HQE.o];clear dS;have v0:=one_cell fu.o.gv;have r0:=one_cell fu.o.gr;go_upto_if 11 with fail;go_cut [](λwx=>Hd (kC l fr te many vs N V R H F T L fv cv i wx/\ai (qx V H F) W1 wx));case first=>
  by_cases he:i=fr
  .have e1:((i:Int)==(fr:Int))=true:=by simp;omega
   obtain⟨us,ha,hn',hc',XY,hh2,Zf⟩:=fu.o.gh;have Sh:aW (aI l i).fields many us:=by
    have h:=Zf.1;rw[BY (by omega)]at h;rw[he];exact h
   have rA:=af (QA.o W1 us _ iA.o eE.o hh2 Sh);have h0:=one_cell XY;obtain⟨q0,q1⟩:=ah HQ.o;clear XY hh2 Zf Sh he;go_wp2_with fail;refine(rA.o).mono ?_;rintro e w3⟨rfl,bG⟩;have iq:=af (fu.o.below bG);have mC:=af (ai.ao (S:=qx V H F) bG);have k0:=one_cell iq.o.gf;have f0:=ag iq.o.gf 0;clear bG;go_wp2;go_meet;have hf:=iq.o.VL vq.o (λj hj=>XX.o j hj) (W':=w3.setCell ⟨F,0,none⟩ (xI 0)) rfl;exact(show _/\_ from⟨hf.1,mC.o.trans hf.2⟩)
  .have e1:((i:Int)==(fr:Int))=false:=by simp;omega
   go_wp2;go_meet;exact(show _/\_ from⟨fu.o,ai.refl _ _⟩)
 case rest=>
  obtain⟨wx,Gt⟩:=cM (wc);subst Gt;have eB:=af hcut.o.1;have ue:=af hcut.o.2;have HQ2:Hd (wx.heap[Q]? =some (cS l.first.name (xL Sq (aI l i).fields.length Sr))):=ue.o.at_ HQ.o (λh=>HQS.o _ h rfl);have Rn:Hd (ab N wx (xL Sq (aI l i).fields.length Sr) (aI l i).fields):=eE.o.ev ⟨ue.o.mono XX.o,λj hj=> .inl hj⟩;have aL:Hd (aq w0 wx):=cX iA.o iA.o.size ue.o (λj hj=>HSW.o j hj);have qey:Hd (Bd N wx):=λj hj=>Qde (JR.o j hj) ue.o.size;have mC:Hd (ai (qx V H F) W wx):=oP.o.trans ue.o;clear hcut v0 r0;have v0:=one_cell eB.o.gv;have r0:=one_cell eB.o.gr;have f0:=one_cell eB.o.gf;have t0:=one_cell eB.o.gt;by_cases JW:fr<=i
  .have e1:(fr:Int)<=(i:Int):=by omega
   by_cases hit:i<te
   .have e2:(i:Int)<(te:Int):=by omega
    go_upto_if 29 with fail;go_cut [](λwy=>Hd (FR l fr te many vs N V R H F T L fv cv i W wy));case first=>
     obtain⟨x,hx⟩:=dQ l.changes i (by omega);obtain⟨b,off,fq,wT,cw,aw⟩:=sd.o x hx;obtain⟨us,ha,hn',hc',XY,hh2,Zf⟩:=eB.o.gh;have QO:=HCS.o JW;have Sh:aW (aI l i).fields many us:=by rw[QO.cls];exact Zf.1
     have HUC:=af Zf;have HCH:=af QO;have HXX:=af hx;have GS:=af (HVX.o x wx.drew us _ hx aL.o.drew (qey.o.below (w':=wx.drew) dK.drew) (Rn.o.ev ((Ev.refl _ _).drew)) (hh2.ev ((Ev.refl _ _).drew)) Sh);have hHb:=af XY;have h0:=one_cell XY;have k0:=ag XY 0;obtain⟨q0,q1⟩:=ah HQ2.o;have hKS:∀W',ai (λj=>j=H\/j=F) wx W'->(W'.cell? ⟨Q,0,none⟩=some (xS l.first.name)/\W'.cell? ⟨Q,1,none⟩=some (xL Sq (aI l i).fields.length Sr)/\W'.cell? ⟨L,2,none⟩=some cv/\W'.cell? ⟨V,0,none⟩=some (xI i)/\W'.cell? ⟨b,off+i*8,none⟩=some (xI x.kind)/\W'.cell? ⟨b,off+i*8+1,none⟩=some (xS x.field)/\W'.cell? ⟨b,off+i*8+2,none⟩=some (xS x.name)/\W'.cell? ⟨b,off+i*8+3,none⟩=some (xS x.more)/\W'.cell? ⟨b,off+i*8+4,none⟩=some (xI x.type.kind)/\W'.cell? ⟨b,off+i*8+5,none⟩=some (xI x.type.of)/\W'.cell? ⟨b,off+i*8+6,none⟩=some (xS x.expr)/\W'.cell? ⟨b,off+i*8+7,none⟩=some (xS x.other)):=λW' ho=>by
      obtain⟨y0,y1⟩:=ah (ho.at_ HQ2.o (λh=>h.elim (λh=>HQS.o H (.inr (.inl rfl)) h.symm) (λh=>HQS.o F (.inr (.inr rfl)) h.symm)));have y2:=(aD (ho.at_ eB.o.gl (λh=>h.elim (λh=>vq.o.hl h.symm) (λh=>vq.o.fl h.symm)))).2.2;have y3:=one_cell (ho.at_ eB.o.gv (λh=>h.elim (λh=>vq.o.vh h) (λh=>vq.o.vf h)));obtain⟨z0,z1,z2,z3,z4,z5,z6,z7⟩:=aw wx aL.o;have wE:b<wx.heap.size:=Qde cw aL.o.size;have iG:¬(b=H\/b=F):=λh=>h.elim (λh=>by have:=HSW.o H (.inr (.inl rfl));omega) (λh=>by have:=HSW.o F (.inr (.inr rfl));omega);have g:∀o,W'.cell? ⟨b,o,none⟩=wx.cell? ⟨b,o,none⟩:=λo=>ho.cell (p:=⟨b,o,none⟩) wE iG;exact⟨y0,y1,y2,y3,(g _).trans z0,(g _).trans z1,(g _).trans z2,(g _).trans z3,(g _).trans z4,(g _).trans z5,(g _).trans z6,(g _).trans z7⟩
     have HKS:=af hKS;have HJ:Hd (ai (λj=>j=H\/j=F) wx wx):=ai.refl _ _;obtain⟨y0,y1,y2,y3,z0,z1,z2,z3,z4,z5,z6,z7⟩:=hKS wx HJ.o;have i0:(0:Int)<=(i:Int):=Qba _;have i1:(i:Int)<(l.changes.length:Int):=by omega
     subst wT;have kf:=ag eB.o.gf 0;have nHF:=vq.o.hf;have nFH:F≠H:=λh=>nHF h.symm;clear aw XY hh2 Zf Sh QO hx q0 q1 hKS cw;go_upto_region 4 with fail;clear HKS HJ;go_region_law(first
      |(go_simp;go_at_call 183;refine GS.o.mono ?_;rintro en w4⟨_,rfl,⟨us2,uv,rfl,YZ,ui⟩,dT⟩;obtain⟨ua,uc,rfl,_⟩:=ui.open_;have eH:Hd (aq wx w4):=(Qbg wx.heap.size wx).drew.trans dT;have eM:Hd (ai (λj=>j=H\/j=F) wx w4):=ai.ao eH.o;have jV:=af (eB.o.below eH.o);have HL4:=af ui;have Ss:=af YZ;have h4:=one_cell ((eH.o.block H (Qaa.1 hHb.o).1).trans hHb.o);have k4:=ag ((eH.o.block H (Qaa.1 hHb.o).1).trans hHb.o) 0;have f4:=one_cell jV.o.gf;have g4:=ag jV.o.gf 0;clear YZ ui dT));all_goals(go_wp2;go_meet)
     all_goals
      have qez:gi (aI l fr) (eL l fr te (i+1)) many vs us2:=by rw[FQ JW hit HXX.o];exact gi.snoc HCH.o HUC.o Ss.o
      obtain⟨⟨W9,e9,s9,o9⟩,g9⟩:=jV.o.hold vq.o XX.o HL4.o qez rfl;exact(show FR _ _ _ _ _ _ _ _ _ _ _ _ _ _ _ _ _ from⟨⟨W9,e9,s9,(mC.o.trans (ai.ao eH.o)).trans o9⟩,g9⟩)
    case rest=>
     obtain⟨wy,Xe⟩:=cM (wc);subst Xe;have HM:=af hcut.o;obtain⟨⟨W5,h5,Gl,Dm⟩,gv,gf,gt⟩:=hcut.o;have qO:=af Gl;have Ca:=af Dm;have qD:=af h5;have v5:=one_cell gv;have fv5:=ag gv 0;clear hcut h5 Gl Dm gf gt gv v0 r0 f0 t0;go_upto_region 6 with fail;have mD:=qD.o;rw[show((i+1:Nat):Int)=(i:Int)+1 by omega]at mD;rw[<-mD];clear mD qD v5 fv5 HM;have v6:=one_cell qO.o.gv;have f6:=one_cell qO.o.gf;have t6:=one_cell qO.o.gt;rw[show((i+1:Nat):Int)=(i:Int)+1 by omega]at v6;by_cases hle:i+1<=te
     .have e6:(i:Int)+1<=(te:Int):=by omega
      go_wp2_with fail;all_goals
       go_ret;exact⟨by simp[hle],qO.o,Ca.o⟩
     .have e6:(te:Int)<(i:Int)+1:=by omega
      go_wp2_with fail;all_goals
       go_ret;exact⟨by simp[hle],qO.o,Ca.o⟩
   .have e2:(te:Int)<=(i:Int):=by omega
    go_upto_if 29 with fail;go_cut [](λwy=>Hd (FR l fr te many vs N V R H F T L fv cv i W wy));case first=>
     go_wp2;go_meet;exact(eB.o.UC vq.o XX.o mC.o (pV (by omega)))
    case rest=>
     obtain⟨wy,Xe⟩:=cM (wc);subst Xe;have HM:=af hcut.o;obtain⟨⟨W5,h5,Gl,Dm⟩,gv,gf,gt⟩:=hcut.o;have qO:=af Gl;have Ca:=af Dm;have qD:=af h5;have v5:=one_cell gv;have fv5:=ag gv 0;clear hcut h5 Gl Dm gf gt gv v0 r0 f0 t0;go_upto_region 6 with fail;have mD:=qD.o;rw[show((i+1:Nat):Int)=(i:Int)+1 by omega]at mD;rw[<-mD];clear mD qD v5 fv5 HM;have v6:=one_cell qO.o.gv;have f6:=one_cell qO.o.gf;have t6:=one_cell qO.o.gt;rw[show((i+1:Nat):Int)=(i:Int)+1 by omega]at v6;by_cases hle:i+1<=te
     .have e6:(i:Int)+1<=(te:Int):=by omega
      go_wp2_with fail;all_goals
       go_ret;exact⟨by simp[hle],qO.o,Ca.o⟩
     .have e6:(te:Int)<(i:Int)+1:=by omega
      go_wp2_with fail;all_goals first|(exfalso;omega)|(go_ret;exact⟨by simp[hle],qO.o,Ca.o⟩)
  .have e1:(i:Int)<(fr:Int):=by omega
   go_upto_if 29 with fail;go_cut [](λwy=>Hd (FR l fr te many vs N V R H F T L fv cv i W wy));case first=>
    go_wp2;go_meet;exact(eB.o.UC vq.o XX.o mC.o (pV (by omega)))
   case rest=>
    obtain⟨wy,Xe⟩:=cM (wc);subst Xe;have HM:=af hcut.o;obtain⟨⟨W5,h5,Gl,Dm⟩,gv,gf,gt⟩:=hcut.o;have qO:=af Gl;have Ca:=af Dm;have qD:=af h5;have v5:=one_cell gv;have fv5:=ag gv 0;clear hcut h5 Gl Dm gf gt gv v0 r0 f0 t0;go_upto_region 6 with fail;have mD:=qD.o;rw[show((i+1:Nat):Int)=(i:Int)+1 by omega]at mD;rw[<-mD];clear mD qD v5 fv5 HM;have v6:=one_cell qO.o.gv;have f6:=one_cell qO.o.gf;have t6:=one_cell qO.o.gt;rw[show((i+1:Nat):Int)=(i:Int)+1 by omega]at v6;by_cases hle:i+1<=te
    .have e6:(i:Int)+1<=(te:Int):=by omega
     go_wp2_with fail;all_goals
      go_ret;exact⟨by simp[hle],qO.o,Ca.o⟩
    .have e6:(te:Int)<(i:Int)+1:=by omega
     go_wp2_with fail;all_goals
      go_ret;exact⟨by simp[hle],qO.o,Ca.o⟩
end Go.Proofs.YtccpcfcochffcaaGreatDoor
