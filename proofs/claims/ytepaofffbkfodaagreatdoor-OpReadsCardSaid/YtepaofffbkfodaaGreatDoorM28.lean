/- A part of OpReads's proof; no condition. -/
import Derived.Test.YtepaofffbkfodaaGreatDoorM27
import Derived.Laws.EntriesVeiled
set_option linter.all false
set_option maxHeartbeats 8000000
set_option maxRecDepth 100000
namespace Go.Proofs.YtepaofffbkfodaaGreatDoor
open Go.Proofs.Tryz
open Go.RowKit Go.Shelf
variable{W w':aj}{M:aN}{clk p B:Nat}{t:TypeId}{c0 c1 c2 a0 a1 a2:an}
def B8(a b c:an):Obj:=xK #[a,b,c] 296
def VF(M:aN)(w:aj)(n K:Nat):Nat->Prop:=λi=>ew M w n i\/i=K
def Iw {w:aj}{n K:Nat}(hM:Bd M w)(h:w.heap.size+n<=W.heap.size)(hK:K<W.heap.size):Bd (VF M w n K) W:=λi hi=>by
 rcases hi with hi|rfl
 .exact dN hM h i hi
 .exact hK
def Iy {w:aj}{n K:Nat}(h:aq w W)(hK:w.heap.size<=K):Ev M w (VF M w n K) W:=⟨ai.ao h,λi hi=>by
 rcases hi with(hi|hi)|rfl
 .exact .inl hi
 .exact .inr hi.1
 .exact .inr hK⟩
structure qC(w:aj)(os:List Obj)(K:Nat)(nm:aM)(fv:an)(x:aC)(a:Int)(b:Bool)(g1 g2:an)(wr:aj):Prop where
 bx:Bx w os wr
 blk:wr.heap[K]? =some (qR nm fv x a b g1 g2)
 hK:w.heap.size+os.length<=K
section
variable {w:aj}{os:List Obj}{K:Nat}{nm:aM}{fv:an}{x:aC}{a a':Int}{b b':Bool}{g1 g2 g':an}{wr wx:aj}
theorem qC.below(h:qC w os K nm fv x a b g1 g2 wr)(k:aq wr wx):qC w os K nm fv x a b g1 g2 wx:=
 ⟨h.bx.below k,(k.block K (Qaa.1 h.blk).1).trans h.blk,h.hK⟩
theorem qC.lt(h:qC w os K nm fv x a b g1 g2 wr):K<wr.heap.size:=(Qaa.1 h.blk).1
theorem qC.setAt(h:qC w os K nm fv x a b g1 g2 wr)(hW:wx=(wr.setCell ⟨K,10,none⟩ (xI a')).setCell ⟨K,11,none⟩ (xB b')):qC w os K nm fv x a' b' g1 g2 wx/\ai (λi=>i=K) wr wx:=by
 subst hW;refine⟨⟨h.bx.du (B:=K) ((dQ.setCell (Qab K) _).setCell (Qab K) _) h.hK,?_,h.hK⟩,((ai.refl (λi=>i=K) wr).setCell (p:=⟨K,10,none⟩) (.inl rfl) _).setCell (p:=⟨K,11,none⟩) (.inl rfl) _⟩;have h1:=Qca wr K 10 _ _ (xI a') h.blk;have h2:=Qca _ K 11 _ _ (xB b') h1;simpa [qR]using h2
theorem qC.ZA(h:qC w os K nm fv x a b g1 g2 wr)(hW:wx=wr.setCell ⟨K,12,none⟩ g'):qC w os K nm fv x a b g' g2 wx/\ai (λi=>i=K) wr wx:=by
 subst hW;refine⟨⟨h.bx.du (B:=K) (dQ.setCell (Qab K) _) h.hK,?_,h.hK⟩,(ai.refl (λi=>i=K) wr).setCell (p:=⟨K,12,none⟩) (.inl rfl) _⟩;have h1:=Qca wr K 12 _ _ g' h.blk;simpa [qR]using h1
theorem qC.Ps(h:qC w os K nm fv x a b g1 g2 wr)(hW:wx=wr.setCell ⟨K,13,none⟩ g'):qC w os K nm fv x a b g1 g' wx/\ai (λi=>i=K) wr wx:=by
 subst hW;refine⟨⟨h.bx.du (B:=K) (dQ.setCell (Qab K) _) h.hK,?_,h.hK⟩,(ai.refl (λi=>i=K) wr).setCell (p:=⟨K,13,none⟩) (.inl rfl) _⟩;have h1:=Qca wr K 13 _ _ g' h.blk;simpa [qR]using h1
end
def ED {k:Int}:∀args w,(callFunc (zz k) args).run prog w= .ok (.enter (zz k) args) w:=by
 unfold zz;repeat' split
 .exact enters_of func290 (by kernel_rfl) rfl
 .exact enters_of func293 (by kernel_rfl) rfl
 .exact enters_of func296 (by kernel_rfl) rfl
 .exact enters_of func299 (by kernel_rfl) rfl
 .exact enters_of func302 (by kernel_rfl) rfl
 .exact enters_of func305 (by kernel_rfl) rfl
def EE {k:Int}:∀args w,(callFunc (vE k) args).run prog w= .ok (.enter (vE k) args) w:=by
 unfold vE;repeat' split
 .exact enters_of func291 (by kernel_rfl) rfl
 .exact enters_of func294 (by kernel_rfl) rfl
 .exact enters_of func297 (by kernel_rfl) rfl
 .exact enters_of func300 (by kernel_rfl) rfl
 .exact enters_of func303 (by kernel_rfl) rfl
 .exact enters_of func306 (by kernel_rfl) rfl
def EF {k:Int}:∀args w,(callFunc (sP k) args).run prog w= .ok (.enter (sP k) args) w:=by
 unfold sP;repeat' split
 .exact enters_of func292 (by kernel_rfl) rfl
 .exact enters_of func295 (by kernel_rfl) rfl
 .exact enters_of func298 (by kernel_rfl) rfl
 .exact enters_of func301 (by kernel_rfl) rfl
 .exact enters_of func304 (by kernel_rfl) rfl
 .exact enters_of func298 (by kernel_rfl) rfl
theorem bD.below {α:Type} [DecidableEq α]{K:α->an}{w:aj}{b:Nat}{es:List (α×an×Nat)}(h:bD K w b es clk)(hb:aq w w'):bD K w' b es clk:=
 (hb.block b (Qaa.1 h).1).trans h
theorem pY.below {w:aj}{b:Nat}(h:pY w b p)(hb:aq w w'):pY w' b p:=by
 obtain⟨es,clk,h0,h1⟩:=h;exact⟨es,clk,h0.below hb,h1⟩
def AS {K:Nat}(h:bR W K (xK #[c0,c1,c2] t))(a0 a1 a2:an):(((W.setCell ⟨K,0,none⟩ a0).setCell ⟨K,1,none⟩ a1).setCell ⟨K,2,none⟩ a2).heap[K]? =some (xK #[a0,a1,a2] t):=by
 have h1:=Qca _ K 0 _ _ a0 h;have h2:=Qca _ K 1 _ _ a1 h1;have h3:=Qca _ K 2 _ _ a2 h2;simpa using h3
def nD {K:Nat}{w:aj}(h:Below B w W)(hK:B<=K):Below B w (((W.setCell ⟨K,0,none⟩ a0).setCell ⟨K,1,none⟩ a1).setCell ⟨K,2,none⟩ a2):=((h.setCell hK _).setCell hK _).setCell hK _
structure VG(W8:aj)(L:Nat)(a b c:an)(wx:aj):Prop where
 blk:wx.heap[L]? =some (B8 a b c)
 below:aq W8 wx
 hL:W8.heap.size<=L
def Iz {W8 w9:aj}{a b c:an}(hj:aq W8 w9):VG W8 w9.heap.size a b c (w9.alloc (xK #[a,b,c] 296)):=⟨Qbh w9 _,hj.alloc hj.size _,hj.size⟩
def PL {W8 w9:aj}{L:Nat}{a b c x y z:an}(hj:aq W8 w9)(hx:bR w9 L (xK #[x,y,z] 296))(hL:W8.heap.size<=L):VG W8 L a b c (((w9.setCell ⟨L,0,none⟩ a).setCell ⟨L,1,none⟩ b).setCell ⟨L,2,none⟩ c):=⟨AS hx _ _ _,nD hj hL,hL⟩
def VH(M:aN)(c:ax)(many:Int)(x:aC)(fv:an)(w:aj)(v:an)(w':aj):Prop:=
 ∃(p:Nat)(g1 g2:an)(N:aN),v= .tuple #[jd p (zz x.kind) (vE x.kind) (sP x.kind),xB true]/\(∀i,M i->N i)/\(∀i,N i->M i\/w.heap.size<=i)/\Bd N w'/\
  iW N c many x.type x.expr w' g1/\iW N c many x.type x.other w' g2/\w'.heap[p]? =some (qR c.name fv x (qB c x) (hasB c x.field) g1 g2)
def EG(M:aN)(w:aj)(hM:Bd M w)(c:ax)(hc:cG c)(many:Int)(hm:many<=100000)(x:aC)(hx:iR c x)(hb:iZ c x=true)(fv:an)(cq:ab M w fv c.fields)(hT:Tb w):
 xG 215 #[.agg #[xS c.name,fv], .agg #[xI x.kind,xS x.field,xS x.name,xS x.more,xI x.type.kind,xI x.type.of,xS x.expr,xS x.other]] w (VH M c many x fv w):=by
 have HM:=af hM;have iL:=af cq;have fV:=cF hc.small;have HR:Hd (∀W,aq w W->xC 45 #[.agg #[xS c.name,fv]] W (cr (xB true) W)):=λW hb=>by
  have h:=fX M fv W c (cq.below hb) fV;rw[hc.right]at h;exact h
 have HWF:=gG (w:=w) (λW h=>zw x (SL hc hx.pre hb) W (hT.below h));have HF:=gG (w:=w) (λW h=>mh M fv W c x.field (qB c x) (hasB c x.field) (cq.below h) fV rfl rfl);have Q3:Hd (∀K W,w.heap.size+3<=K->K<W.heap.size->aq w W->_):=λK W h1 h2 h3=>AI c hc many hm x.type x.expr hx.expr (VF M w 3 K) W fv (Iw hM (by omega) h2) (cq.ev (Iy h3 (by omega))) (hT.below h3);have Qz:Hd (∀K W,w.heap.size+3<=K->K<W.heap.size->aq w W->_):=λK W h1 h2 h3=>AI c hc many hm x.type x.other hx.other (VF M w 3 K) W fv (Iw hM (by omega) h2) (cq.ev (Iy h3 (by omega))) (hT.below h3);have HMY:Hd (∀(N:aN)W(f1 f2:Nat)(b1 b2:Array an)(p:Nat),ab N W fv c.fields->bR W p (qR c.name fv x (qB c x) (hasB c x.field) (.func (.func f1) #[] b1) (.func (.func f2) #[] b2))->_):=λN W f1 f2 b1 b2 p h1 h2=>SM N W c hc fv x hx.pre hb f1 f2 b1 b2 p h2 h1;have hk:x.kind=1\/x.kind=2\/x.kind=3\/x.kind=4\/x.kind=5\/x.kind=6:=by have:=hx.pre.sh;simp only[np]at this;omega
 have HK6:=af hk;obtain⟨fa,fc,rfl,_⟩:=cq.open_;have bW:=af (Bx.gO w (cU c.name (xL fa c.fields.length fc)) (tA x) (B8 .nilFunc .nilFunc .nilFunc));clear cq hM hT hx hb hc hk;go_enter func215,ntmps215;go_wp2_with fail;refine bY (HR.o _ bW.o.1) λw1 aF=> ?_;have aY:=af (bW.o.below aF);obtain⟨p0,p1,p2,p3,p4,p5,p6,p7⟩:=ak (aY.o.bU rfl);clear aF;go_wp2_with fail;refine bY (HWF.o _ aY.o.1) λw2 bC=> ?_;have aQ:=af (aY.o.below bC);clear bC p0 p1 p2 p3 p4 p5 p6 p7;obtain⟨p0,p1,p2,p3,p4,p5,p6,p7⟩:=ak (aQ.o.bU rfl);obtain⟨c0,c1⟩:=ah (aQ.o.bG rfl);go_upto_region 4 with fail;obtain⟨K,hK⟩:=jO (w2.heap.size);obtain⟨W,hW⟩:=bS (w2.alloc (qR c.name (xL fa c.fields.length fc) x 0 false .nilFunc .nilFunc));have HS:Hd (qC w [cU c.name (xL fa c.fields.length fc),tA x,B8 .nilFunc .nilFunc .nilFunc] K c.name (xL fa c.fields.length fc) x 0 false .nilFunc .nilFunc W):=⟨by rw[hW];exact aQ.o.alloc _,by rw[hW,<-hK];exact Qbh w2 _,by have:=aQ.o.bF;omega⟩;unfold qR at hW;rw[<-hW,hK];clear hW p0 p1 p2 p3 p4 p5 p6 p7 c0 c1;obtain⟨p0,p1,p2,p3,p4,p5,p6,p7⟩:=ak (HS.o.bx.bU rfl);obtain⟨c0,c1⟩:=ah (HS.o.bx.bG rfl);go_wp2_with fail;refine bY (HF.o _ HS.o.bx.1) λw3 bP=> ?_;have jC:=af (HS.o.below bP);have f10:=ag jC.o.blk 10;have f11:=ag jC.o.blk 11;have k10:=(cN jC.o.blk).ca;have k11:=(cN jC.o.blk).cb;have TO:=jC.o.lt;have WT:=jC.o.hK;simp only[Qcc,Qcd]at WT;clear bP p0 p1 p2 p3 p4 p5 p6 p7 c0 c1 aQ aY bW hK;obtain⟨p0,p1,p2,p3,p4,p5,p6,p7⟩:=ak (jC.o.bx.bU rfl);obtain⟨c0,c1⟩:=ah (jC.o.bx.bG rfl);have n0:w.heap.size≠K:=by omega
 have n1:w.heap.size+1≠K:=by omega
 have n2:w.heap.size+1+1≠K:=by omega
 go_upto_region 5 with fail;obtain⟨W4,j8⟩:=bS ((w3.setCell ⟨K,10,none⟩ (xI (qB c x))).setCell ⟨K,11,none⟩ (xB (hasB c x.field)));have qG:=af (jC.o.setAt j8).1;rw[<-j8];have HN:=af (show w.heap.size+3<=K by omega);clear j8 jC HS f10 f11 k10 k11 TO p0 p1 p2 p3 p4 p5 p6 p7 c0 c1;obtain⟨p0,p1,p2,p3,p4,p5,p6,p7⟩:=ak (qG.o.bx.bU rfl);obtain⟨c0,c1⟩:=ah (qG.o.bx.bG rfl);go_wp2_with fail;refine(Q3.o K _ HN.o qG.o.lt qG.o.bx.1).mono ?_;rintro e w5⟨g1,rfl,CW,jg⟩;have qek:=CW;obtain⟨gf1,lb1,rfl,_⟩:=qek;have mT:=af (qG.o.below jg);have HA5:=af CW;have f12:=ag mT.o.blk 12;have k12:=(cN mT.o.blk).cc;have TO:=mT.o.lt;clear p0 p1 p2 p3 p4 p5 p6 p7 c0 c1;clear jg CW;go_upto_region 6 with fail;obtain⟨W6,nY⟩:=bS (w5.setCell ⟨K,12,none⟩ (.func (.func gf1) #[] lb1));have vw:=af (mT.o.ZA nY).1;have HA6:=af (HA5.o.only ((mT.o.ZA nY).2.mono λi hi=> .inr hi));rw[<-nY];clear nY mT HA5 qG f12 k12 TO;obtain⟨p0,p1,p2,p3,p4,p5,p6,p7⟩:=ak (vw.o.bx.bU rfl);obtain⟨c0,c1⟩:=ah (vw.o.bx.bG rfl);go_wp2_with fail;refine(Qz.o K _ HN.o vw.o.lt vw.o.bx.1).mono ?_;rintro e w7⟨g2,rfl,CX,iJ⟩;have qel:=CX;obtain⟨YM,YN,rfl,_⟩:=qel;have zU:=af (vw.o.below iJ);have HA7:=af (HA6.o.only (ai.ao iJ));have HC7:=af CX;have f13:=ag zU.o.blk 13;have k13:=(cN zU.o.blk).cd;have TO:=zU.o.lt;clear iJ CX p0 p1 p2 p3 p4 p5 p6 p7 c0 c1;go_upto_region 7 with fail;obtain⟨W8,KT⟩:=bS (w7.setCell ⟨K,13,none⟩ (.func (.func YM) #[] YN));have YO:=af (zU.o.Ps KT).1;have HA8:=af (HA7.o.only ((zU.o.Ps KT).2.mono λi hi=> .inr hi));have UQ:=af (HC7.o.only ((zU.o.Ps KT).2.mono λi hi=> .inr hi));rw[<-KT];clear KT zU HA7 HC7 vw HA6 f13 k13 TO;obtain⟨p0,p1,p2,p3,p4,p5,p6,p7⟩:=ak (YO.o.bx.bU rfl);have HP:Hd (∀W,aq W8 W->zm W w 0 (xI x.kind)):=λW hb=>(ak ((YO.o.bx.below hb).bU rfl)).1;have HJ:Hd (aq W8 W8):=dQ;go_cut [7](λs7 wx=>∃L:Nat,s7=xP L/\Hd (VG W8 L (iI (zz x.kind) K) (iI (vE x.kind) K) (iI (sP x.kind) K) wx));case first=>
  clear p1 p2 p3 p4 p5 p6 p7;have pz:=λo=>HP.o (W8.alloc o) (HJ.o.alloc HJ.o.size o);go_region_law(first
   |(go_simp;go_at_call 262;refine(PC _ K).mono ?_;rintro en w9⟨bb,rfl,hka,FZ,vR⟩;have Xp:Hd (aq W8 w9):=(by with_reducible first|exact af (It vR)|exact af (Zz vR)|exact af (Zy vR));try with_reducible have FF:=af (oX2 vR)
     try with_reducible have FF:=af (oX3 vR)
     have p0':=HP.o w9 Xp.o;have pa0:=λo=>HP.o (w9.alloc o) (Xp.o.alloc Xp.o.size o);have lk:=AR hka HK6.o;have lka:=λo=>AR (hka.below ((Qbg w9.heap.size w9).alloc bN o)) HK6.o;unfold jd iI at lk lka;try have z0:=(aD FF.o).1
     try have z1:=(aD FF.o).2.1
     try have z2:=(aD FF.o).2.2
     try have y0:=ag FF.o 0
     try have y1:=ag FF.o 1
     try have y2:=ag FF.o 2
     clear hka FZ vR));all_goals(go_wp2;go_meet)
  all_goals first
   |exact⟨_,rfl,(Iz Xp.o)⟩
   |exact⟨_,rfl,(PL Xp.o FF.o bN)⟩
 case rest=>
  obtain⟨L,rfl,HK⟩:=hcut;obtain⟨wx,FB⟩:=bS (wc);subst FB;have UR:=af (YO.o.below HK.o.below);have HA9:=af (HA8.o.only (ai.ao HK.o.below));have YP:=af (UQ.o.only (ai.ao HK.o.below));have hLw:=HK.o.hL;have Ra:=(Qaa.1 HK.o.blk).1;have hz8:=YO.o.bx.bF;simp only[Qcc,Qcd]at hz8;have br:=af (HMY.o (VF M w 3 K) wx.drew gf1 YM lb1 YN K ((iL.o.ev (Iy UR.o.bx.1.drew (by omega)))) UR.o.blk);have QQ:=ED (k:=x.kind);clear p0 p1 p2 p3 p4 p5 p6 p7 HP;generalize hgm:zz x.kind=gm at HK br QQ;obtain⟨k0,k1,k2⟩:=aD HK.o.blk;unfold iI at k0 k1 k2;have NV:Hd (∀W,aq wx W->bR W L (B8 (iI gm K) (iI (vE x.kind) K) (iI (sP x.kind) K))):=λW hb=>(hb.block L Ra).trans HK.o.blk;have HJ:Hd (aq wx wx):=dQ;obtain⟨b0,b1,b2⟩:=aD (UR.o.bx.fR rfl);obtain⟨e0,e1⟩:=mV (UR.o.bx.fR rfl);have e2:=ag (UR.o.bx.fR rfl) 2;have nL:w.heap.size+1+1≠L:=by omega
  go_upto_region 8 with fail;go_cut [5](λs5 wy=>s5=xB true/\Hd (∃tK,qC w [cU c.name (xL fa c.fields.length fc),tA x,B8 .nilFunc .nilFunc .nilFunc] K c.name (xL fa c.fields.length fc) x (qB c x) (hasB c x.field) (.func (.func gf1) #[] lb1) (.func (.func YM) #[] YN) tK/\aq wx tK/\wy=((tK.setCell ⟨w.heap.size+1+1,0,none⟩ (iI gm K)).setCell ⟨w.heap.size+1+1,1,none⟩ (iI (vE x.kind) K)).setCell ⟨w.heap.size+1+1,2,none⟩ (iI (sP x.kind) K)));case first=>
   go_region_law(first
    |(go_simp;refine br.o.mono ?_;rintro en tK⟨rfl,tw⟩;have zX:Hd (aq wx tK):=(Qbg wx.heap.size wx).drew.trans tw;have Nw:=af (UR.o.below zX.o);have l0:=(aD (NV.o tK zX.o)).1;have l1:=(aD (NV.o tK zX.o)).2.1;have l2:=(aD (NV.o tK zX.o)).2.2;unfold iI at l0 l1 l2;have r0:=(aD (Nw.o.bx.fR rfl)).1;have r1:=(aD (Nw.o.bx.fR rfl)).2.1;have r2:=(aD (Nw.o.bx.fR rfl)).2.2;obtain⟨y0,y1⟩:=mV (Nw.o.bx.fR rfl);have y2:=ag (Nw.o.bx.fR rfl) 2;clear tw));all_goals(go_wp2;go_meet)
   all_goals exact⟨rfl,(show∃_,_ from⟨tK,Nw.o,zX.o,rfl⟩)⟩
  case rest=>
   obtain⟨rfl,HZ⟩:=hcut;obtain⟨tK,h1,h2,h3⟩:=HZ.o;have h4:=h1.bx.fR rfl;have HY:=af (show bR wc (w.heap.size+1+1) (B8 (iI gm K) (iI (vE x.kind) K) (iI (sP x.kind) K))by rw[h3];exact AS h4 _ _ _);have ho:ai (λi=>i=w.heap.size+1+1) tK wc:=by
    rw[h3];exact(((ai.refl (λi=>i=w.heap.size+1+1) tK).setCell (p:=⟨w.heap.size+1+1,0,none⟩) (.inl rfl) _).setCell (p:=⟨w.heap.size+1+1,1,none⟩) (.inl rfl) _).setCell (p:=⟨w.heap.size+1+1,2,none⟩) (.inl rfl) _
   have hoN:ai (VF M w 3 K) wx wc:=(ai.ao h2).trans (ho.mono λi hi=> .inl (.inr (by have:i=w.heap.size+1+1:=hi;omega)));have qem:=af (HA9.o.only hoN);have TP:=af (YP.o.only hoN);have qbj:=af (ho.at_ h1.blk (λh=>by have:K=w.heap.size+1+1:=h;omega));have qen:=af (show aq w wc by rw[h3];exact nD h1.bx.1 (by omega));have hKz:K<wc.heap.size:=(Qaa.1 qbj.o).1;obtain⟨m0,m1,m2⟩:=aD HY.o;unfold iI at m0 m1 m2;clear h1 h2 h3 h4 ho hoN HZ b0 b1 b2 e0 e1 e2 k0 k1 k2;go_wp2_with fail;refine Qae (v:= .tuple #[.agg #[.func (.func gm) #[xP K] #[], .func (.func (vE x.kind)) #[xP K] #[], .func (.func (sP x.kind)) #[xP K] #[]],xB true]) (by simp[results,results215,go_sem,m0,m1,m2]) rfl ⟨_,rfl,⟨K,_,_,VF M w 3 K,?_,λi hi=> .inl (.inl hi),λi hi=> ?_,Iw HM.o (by omega) hKz,qem.o,TP.o,qbj.o⟩,qen.o⟩
   .rw[<-hgm];rfl
   .rcases hi with(hi|hi)|hi
    .exact .inl hi
    .exact .inr hi.1
    .exact .inr (by omega)
def Mo(M:aN)(w:aj)(hM:Bd M w)(c:ax)(hc:cG c)(x:aC)(hx:iR c x)(hb:iZ c x=true)(fv:an)(cq:ab M w fv c.fields)(hT:Tb w):
 xG 153 #[.agg #[xS c.name,fv], .agg #[xI x.kind,xS x.field,xS x.name,xS x.more,xI x.type.kind,xI x.type.of,xS x.expr,xS x.other]] w λv w'=>∃jA,v= .tuple #[.agg #[xS c.name,jA],xI 0]/\ab M w' jA (bZ c x).fields:=by
 have fV:=cF hc.small;have lM:=af hM;have iL:=af cq;have HR:Hd (∀W,aq w W->xC 45 #[.agg #[xS c.name,fv]] W (cr (xB true) W)):=λW hb=>by
  have h:=fX M fv W c (cq.below hb) fV;rw[hc.right]at h;exact h
 have HB:Hd (∀W,aq w W->w.heap.size+3<=W.heap.size->_):=λW h h3=>EG (ew M w 3) W (dN hM h3) c hc 1 (by omega) x hx hb fv (cq.ev (dF h)) (hT.below h);have KR:Hd (∀(N:aN)W g1 g2(p:Nat),Bd N W->ab N W fv c.fields->bR W p (qR c.name fv x (qB c x) (hasB c x.field) g1 g2)->_):=λN W g1 g2 p h1 h2 h3=>Iv N W h1 c hc fv x hx.pre hb g1 g2 p h3 h2;have QQ:=EE (k:=x.kind);obtain⟨fa,fc,rfl,_⟩:=cq.open_;have bW:=af (Bx.gO w (cU c.name (xL fa c.fields.length fc)) (tA x) (cU ⟨#[]⟩ (xL none 0 0)));clear cq hM hT hx hb hc;go_enter func153,ntmps153;go_wp2_with fail;refine bY (HR.o _ bW.o.1) λw1 aF=> ?_;have aY:=af (bW.o.below aF);obtain⟨p0,p1,p2,p3,p4,p5,p6,p7⟩:=ak (aY.o.bU rfl);obtain⟨c0,c1⟩:=ah (aY.o.bG rfl);clear aF;go_wp2_with fail;refine(HB.o _ aY.o.1 aY.o.bF).mono ?_;rintro e w2⟨_,rfl,⟨p,g1,g2,N,rfl,Q8,NZ,vS,CW,CX,hblk⟩,bC⟩;have aQ:=af (aY.o.below bC);have KM:=af vS;have Gh:=af hblk;have YQ:Hd (∀W,aq w W->Ev M w N W):=λW h=>⟨ai.ao h,λi hi=>by
  rcases NZ i hi with(h|h)|h
  .exact .inl h
  .exact .inr h.1
  .exact .inr (Qcg aY.o.1.size h)⟩;have vP:Hd (∀i,M i->N i):=λi h=>Q8 i (.inl h);have uK:Hd (N (w.heap.size+1+1)):=Q8 _ (.inr ⟨by omega,by omega⟩);have er:=aQ.o.bF;simp only[Qcc,Qcd]at er;clear bC vS hblk Q8 NZ CW CX p0 p1 p2 p3 p4 p5 p6 p7 c0 c1;generalize vE x.kind=gf at KR QQ⊢;unfold jd iI;go_upto_region 6 with fail;obtain⟨W3,fw⟩:=bS (w2.alloc (B8 (iI (zz x.kind) p) (iI gf p) (iI (sP x.kind) p)));have bO:=af (show Bx w [cU c.name (xL fa c.fields.length fc),tA x,cU ⟨#[]⟩ (xL none 0 0)] W3 by rw[fw];exact aQ.o.alloc _);have vM:=af (show di W3 w2 (B8 (iI (zz x.kind) p) (iI gf p) (iI (sP x.kind) p))by rw[fw];exact Qbh w2 _);have HL3:=af (show aq w2 W3 by rw[fw];exact bM);have br:=af (KR.o N W3.drew g1 g2 p (KM.o.below (w':=W3.drew) HL3.o.drew) (iL.o.ev (YQ.o W3.drew bO.o.1.drew)) ((HL3.o.block p (Qaa.1 Gh.o).1).trans Gh.o));unfold B8 iI at fw;rw[<-fw];clear fw;obtain⟨k0,k1,k2⟩:=aD vM.o;obtain⟨c0,c1⟩:=ah (bO.o.bG rfl);unfold iI at k0 k1 k2;go_cut [5](λs5 wx=>∃(ya:fA)(yc:Nat),s5=xI 0/\Hd (bR wx (w.heap.size+1+1) (cU c.name (xL ya (bZ c x).fields.length yc))/\ab M wx (xL ya (bZ c x).fields.length yc) (bZ c x).fields/\aq w wx));case first=>
  go_region_law(first
   |(go_simp;refine br.o.mono ?_;rintro en w4⟨_,rfl,bI,eA⟩;obtain⟨ya,yc,rfl,_⟩:=bI.open_;have gp:=af bI;have dI:Hd (Bx w [cU c.name (xL fa c.fields.length fc),tA x,cU ⟨#[]⟩ (xL none 0 0)] w4):=bO.o.drew.below eA;have q0:=(ah (dI.o.bG rfl)).1;have r0:=(ah (dI.o.fR rfl)).1;have r1:=(ah (dI.o.fR rfl)).2;obtain⟨f0,f1⟩:=mV (dI.o.fR rfl);clear bI eA));all_goals(go_wp2;go_meet)
  all_goals
   refine⟨ya,yc,rfl,?_⟩;refine(show _/\_/\_ from⟨rX (dI.o.fR rfl) _ _,((gp.o.ev (((Ev.refl N w4).setCell (p:=⟨w.heap.size+1+1,0,none⟩) (.inl uK.o) _).setCell (p:=⟨w.heap.size+1+1,1,none⟩) (.inl uK.o) _)).ev (Ev.dD _ vP.o)),(dI.o.1.setCell (by show w.heap.size<=w.heap.size+1+1;omega) _).setCell (by show w.heap.size<=w.heap.size+1+1;omega) _⟩)
 case rest=>
  obtain⟨ya,yc,rfl,HR⟩:=hcut;obtain⟨r0,r1⟩:=ah HR.o.1;go_wp2_with fail;refine Qae (v:= .tuple #[.agg #[xS c.name,xL ya (bZ c x).fields.length yc],xI 0]) (by simp[results,results153,go_sem,r0,r1]) rfl ⟨_,rfl,⟨_,rfl,HR.o.2.1⟩,HR.o.2.2⟩
def PM(M:aN)(w:aj)(hM:Bd M w)(c:ax)(hc:cG c)(many:Int)(hm:many<=100000)(x:aC)(hx:iR c x)(hb:iZ c x=true)(fv vv:an)(vs:List aA)(cq:ab M w fv c.fields)(dA:ab M w vv vs)(hv:bh c.fields many vs)(hG:Gd w):
 xG 281 #[.agg #[xS c.name,fv], .agg #[xI x.kind,xS x.field,xS x.name,xS x.more,xI x.type.kind,xI x.type.of,xS x.expr,xS x.other],vv] w λv w'=>∃us uv,v= .tuple #[uv,xI 0]/\gP c x many vs us/\ab M w' uv us:=by
 have fV:=cF hc.small;have lM:=af hM;have iL:=af cq;have zj:=af dA;have FW:=gG (w:=w) (λW h=>hZ c hc.right fV many hm vs hv M W fv vv (cq.below h) (dA.below h) (hG.tb.below h));have HB:=gG (w:=w) (λW h=>EG M W (hM.below h) c hc many hm x hx hb fv (cq.below h) (hG.tb.below h));have CP:Hd (∀(N:aN)W g1 g2(p:Nat),Bd N W->aq w W->iW N c many x.type x.expr W g1->iW N c many x.type x.other W g2->bR W p (qR c.name fv x (qB c x) (hasB c x.field) g1 g2)->ab N W vv vs->_):=λN W g1 g2 p h1 h2 h3 h4 h5 h6=>PK N W h1 c hc fv vv x hx.pre hb g1 g2 many p vs h3 h4 (hG.below h2) h5 hv h6;have QQ:=EF (k:=x.kind);obtain⟨fa,fc,rfl,_⟩:=cq.open_;obtain⟨va,vc,rfl,_⟩:=dA.open_;have bW:=af (Bx.dq w (cU c.name (xL fa c.fields.length fc)) (tA x));clear cq dA hM hG hx hb hc hv;go_enter func281,ntmps281;go_wp2_with fail;refine bY (FW.o _ bW.o.1) λw1 aF=> ?_;have aY:=af (bW.o.below aF);obtain⟨p0,p1,p2,p3,p4,p5,p6,p7⟩:=ak (aY.o.bU rfl);obtain⟨c0,c1⟩:=ah (aY.o.bG rfl);clear aF;go_wp2_with fail;refine(HB.o _ aY.o.1).mono ?_;rintro e w2⟨_,rfl,⟨p,g1,g2,N,rfl,Q8,NZ,vS,CW,CX,hblk⟩,bC⟩;have aQ:=af (aY.o.below bC);have qhr:Hd (aq w2 w2):=dQ;have YQ:Hd (ab N w2 (xL va vs.length vc) vs):=zj.o.ev ⟨ai.ao aQ.o.1,λi hi=>(NZ i hi).imp_right λh=>Qcg aY.o.1.size h⟩;have vP:Hd (∀i,M i->N i):=Q8;have NX:=af (λo=>CP.o N (w2.alloc o) g1 g2 p (vS.below (dQ.alloc bN o)) ((aQ.o.alloc o).1) (CW.only (ai.ao (dQ.alloc bN o))) (CX.only (ai.ao (dQ.alloc bN o))) (((Qbg w2.heap.size w2).alloc bN o).block p (Qaa.1 hblk).1|>.trans hblk) (YQ.o.ev ((Ev.refl _ _).alloc o)));generalize sP x.kind=gf at NX QQ⊢;clear bC vS CW CX hblk Q8 NZ p0 p1 p2 p3 p4 p5 p6 p7 c0 c1;unfold jd iI;go_wp2_with fail;refine(NX.o _).mono ?_;rintro e w3⟨u,rfl,⟨us,Gg,bI⟩,bP⟩;obtain⟨ua,uc,rfl,_⟩:=bI.open_;have gp:=af bI;have HUS:=af Gg;have bO:Hd (aq w w3):=((aQ.o.alloc _).below bP).1;clear bI Gg bP;go_wp2;go_ret2;exact⟨_,rfl,⟨_,_,rfl,HUS.o,gp.o.ev (Ev.dD w3 vP.o)⟩,bO.o⟩
end Go.Proofs.YtepaofffbkfodaaGreatDoor
