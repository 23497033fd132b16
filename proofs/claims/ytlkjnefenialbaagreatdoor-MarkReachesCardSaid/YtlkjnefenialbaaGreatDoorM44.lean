/- What change.Begin, Apply and Vals answer; no condition beyond each theorem's own. -/
import Derived.Test.YtlkjnefenialbaaGreatDoorM43
import Derived.Laws.EntriesVeiled
set_option linter.unusedVariables false
set_option linter.unusedSimpArgs false
set_option maxHeartbeats 8000000
set_option maxRecDepth 100000
namespace Go.Proofs.YtlkjnefenialbaaGreatDoor
open Go.RowKit Go.Shelf
def zp(a b c:Value):Obj:= .cells #[a,b,c] 222 (0,0)
def Qe(M:Nat→Prop)(w:World)(n K:Nat):Nat→Prop:=fun i=>eP M w n i∨i=K
theorem Ei {M:Nat→Prop}{w W:World}{n K:Nat}(hM:Bd M w)(h:w.heap.size+n≤W.heap.size)(hK:K<W.heap.size):Bd (Qe M w n K) W:=fun i hi=>by
 rcases hi with hi|rfl
 ·exact dS hM h i hi
 ·exact hK
theorem Ej {M:Nat→Prop}{w W:World}{n K:Nat}(h:Below w.heap.size w W)(hK:w.heap.size≤K):Ev M w (Qe M w n K) W:=⟨ag.aj h,fun i hi=>by
 rcases hi with(hi|hi)|rfl
 ·exact .inl hi
 ·exact .inr hi.1
 ·exact .inr hK⟩
structure mX(w:World)(os:List Obj)(K:Nat)(nm:ByteArray)(fv:Value)(x:aq)(a:Int)(b:Bool)(g1 g2:Value)(wr:World):Prop where
 bx:Bx w os wr
 blk:wr.heap[K]? =some (oI nm fv x a b g1 g2)
 hK:w.heap.size+os.length≤K
section
variable {w:World}{os:List Obj}{K:Nat}{nm:ByteArray}{fv:Value}{x:aq}{a a':Int}{b b':Bool}{g1 g2 g':Value}{wr wx:World}
theorem mX.below(h:mX w os K nm fv x a b g1 g2 wr)(k:Below wr.heap.size wr wx):mX w os K nm fv x a b g1 g2 wx:=
 ⟨h.bx.below k,(k.block K (Array.getElem?_eq_some_iff.1 h.blk).1).trans h.blk,h.hK⟩
theorem mX.lt(h:mX w os K nm fv x a b g1 g2 wr):K<wr.heap.size:=(Array.getElem?_eq_some_iff.1 h.blk).1
theorem mX.setAt(h:mX w os K nm fv x a b g1 g2 wr)(hW:wx=(wr.setCell ⟨K,10,none⟩ (.int .i64 a')).setCell ⟨K,11,none⟩ (.bool b')):mX w os K nm fv x a' b' g1 g2 wx∧ag (fun i=>i=K) wr wx:=by
 subst hW
 refine⟨⟨h.bx.cJ (B:=K) (((Below.refl _ _).setCell (Nat.le_refl K) _).setCell (Nat.le_refl K) _) h.hK,?_,h.hK⟩,((ag.refl (fun i=>i=K) wr).setCell (p:=⟨K,10,none⟩) (.inl rfl) _).setCell (p:=⟨K,11,none⟩) (.inl rfl) _⟩
 have h1:=heap_setCell_same wr K 10 _ _ (.int .i64 a') h.blk
 have h2:=heap_setCell_same _ K 11 _ _ (.bool b') h1
 simpa [oI]using h2
theorem mX.Tu(h:mX w os K nm fv x a b g1 g2 wr)(hW:wx=wr.setCell ⟨K,12,none⟩ g'):mX w os K nm fv x a b g' g2 wx∧ag (fun i=>i=K) wr wx:=by
 subst hW
 refine⟨⟨h.bx.cJ (B:=K) ((Below.refl _ _).setCell (Nat.le_refl K) _) h.hK,?_,h.hK⟩,(ag.refl (fun i=>i=K) wr).setCell (p:=⟨K,12,none⟩) (.inl rfl) _⟩
 have h1:=heap_setCell_same wr K 12 _ _ g' h.blk
 simpa [oI]using h1
theorem mX.Kx(h:mX w os K nm fv x a b g1 g2 wr)(hW:wx=wr.setCell ⟨K,13,none⟩ g'):mX w os K nm fv x a b g1 g' wx∧ag (fun i=>i=K) wr wx:=by
 subst hW
 refine⟨⟨h.bx.cJ (B:=K) ((Below.refl _ _).setCell (Nat.le_refl K) _) h.hK,?_,h.hK⟩,(ag.refl (fun i=>i=K) wr).setCell (p:=⟨K,13,none⟩) (.inl rfl) _⟩
 have h1:=heap_setCell_same wr K 13 _ _ g' h.blk
 simpa [oI]using h1
end
theorem BR {k:Int}:∀args w,(callFunc (vX k) args).run Tryz.prog w= .ok (.enter (vX k) args) w:=by
 unfold vX
 repeat' split
 ·exact enters_of Tryz.func170 (by kernel_rfl) rfl
 ·exact enters_of Tryz.func173 (by kernel_rfl) rfl
 ·exact enters_of Tryz.func176 (by kernel_rfl) rfl
 ·exact enters_of Tryz.func179 (by kernel_rfl) rfl
 ·exact enters_of Tryz.func182 (by kernel_rfl) rfl
 ·exact enters_of Tryz.func185 (by kernel_rfl) rfl
theorem BS {k:Int}:∀args w,(callFunc (sJ k) args).run Tryz.prog w= .ok (.enter (sJ k) args) w:=by
 unfold sJ
 repeat' split
 ·exact enters_of Tryz.func171 (by kernel_rfl) rfl
 ·exact enters_of Tryz.func174 (by kernel_rfl) rfl
 ·exact enters_of Tryz.func177 (by kernel_rfl) rfl
 ·exact enters_of Tryz.func180 (by kernel_rfl) rfl
 ·exact enters_of Tryz.func183 (by kernel_rfl) rfl
 ·exact enters_of Tryz.func186 (by kernel_rfl) rfl
theorem BU {k:Int}:∀args w,(callFunc (qn k) args).run Tryz.prog w= .ok (.enter (qn k) args) w:=by
 unfold qn
 repeat' split
 ·exact enters_of Tryz.func172 (by kernel_rfl) rfl
 ·exact enters_of Tryz.func175 (by kernel_rfl) rfl
 ·exact enters_of Tryz.func178 (by kernel_rfl) rfl
 ·exact enters_of Tryz.func181 (by kernel_rfl) rfl
 ·exact enters_of Tryz.func184 (by kernel_rfl) rfl
 ·exact enters_of Tryz.func178 (by kernel_rfl) rfl
theorem bq.below {α:Type} [DecidableEq α]{K:α→Value}{w w':World}{b:Nat}{es:List (α×Value×Nat)}{clk:Nat}(h:bq K w b es clk)(hb:Below w.heap.size w w'):bq K w' b es clk:=
 (hb.block b (Array.getElem?_eq_some_iff.1 h).1).trans h
theorem lK.below {w w':World}{b p:Nat}(h:lK w b p)(hb:Below w.heap.size w w'):lK w' b p:=by
 obtain⟨es,clk,h0,h1⟩:=h
 exact⟨es,clk,h0.below hb,h1⟩
theorem xN {W:World}{K:Nat}{c0 c1 c2:Value}{t:TypeId}(h:W.heap[K]? =some (.cells #[c0,c1,c2] t (0,0)))(a0 a1 a2:Value):(((W.setCell ⟨K,0,none⟩ a0).setCell ⟨K,1,none⟩ a1).setCell ⟨K,2,none⟩ a2).heap[K]? =some (.cells #[a0,a1,a2] t (0,0)):=by
 have h1:=heap_setCell_same _ K 0 _ _ a0 h
 have h2:=heap_setCell_same _ K 1 _ _ a1 h1
 have h3:=heap_setCell_same _ K 2 _ _ a2 h2
 simpa using h3
theorem lM {B K:Nat}{w W:World}(h:Below B w W)(hK:B≤K){a0 a1 a2:Value}:Below B w (((W.setCell ⟨K,0,none⟩ a0).setCell ⟨K,1,none⟩ a1).setCell ⟨K,2,none⟩ a2):=((h.setCell hK _).setCell hK _).setCell hK _
structure KO(W8:World)(L:Nat)(a b c:Value)(wx:World):Prop where
 blk:wx.heap[L]? =some (zp a b c)
 below:Below W8.heap.size W8 wx
 hL:W8.heap.size≤L
theorem Ek {W8 w9:World}{a b c:Value}(hj:Below W8.heap.size W8 w9):KO W8 w9.heap.size a b c (w9.alloc (.cells #[a,b,c] 222)):=⟨heap_alloc_new w9 _,hj.alloc hj.size _,hj.size⟩
theorem KP {W8 w9:World}{L:Nat}{a b c x y z:Value}(hj:Below W8.heap.size W8 w9)(hx:w9.heap[L]? =some (.cells #[x,y,z] 222 (0,0)))(hL:W8.heap.size≤L):KO W8 L a b c (((w9.setCell ⟨L,0,none⟩ a).setCell ⟨L,1,none⟩ b).setCell ⟨L,2,none⟩ c):=⟨xN hx _ _ _,lM hj hL,hL⟩
def Qf(M:Nat→Prop)(c:ai)(many:Int)(x:aq)(fv:Value)(w:World)(v:Value)(w':World):Prop:=
 ∃(p:Nat)(g1 g2:Value)(N:Nat→Prop),v= .tuple #[ig p (vX x.kind) (sJ x.kind) (qn x.kind), .bool true]∧(∀i,M i→N i)∧(∀i,N i→M i∨w.heap.size≤i)∧Bd N w'∧
  gQ N c many x.type x.expr w' g1∧gQ N c many x.type x.other w' g2∧w'.heap[p]? =some (oI c.name fv x (nX c x) (hasB c x.field) g1 g2)
theorem BV(M:Nat→Prop)(w:World)(hM:Bd M w)(c:ai)(hc:bR c)(many:Int)(hm:many≤100000)(x:aq)(hx:gJ c x)(hb:gY c x=true)(fv:Value)(bz:ae M w fv c.fields)(hT:Tb w):
 Calls Tryz.prog 134 #[.agg #[.string c.name,fv], .agg #[.int .i64 x.kind, .string x.field, .string x.name, .string x.more, .int .i64 x.type.kind, .int .i64 x.type.of, .string x.expr, .string x.other]] w (aF w (Qf M c many x fv w)):=by
 have HM:=hD hM
 have ij:=hD bz
 have eU:=bQ hc.small
 have HR:Hid (∀W,Below w.heap.size w W→Calls Tryz.prog 95 #[.agg #[.string c.name,fv]] W fun e w'=>e= .returned (.bool true)∧Below W.heap.size W w'):=(show∀W,_→_ from fun W hb=>by
  have h:=eY M fv W c (bz.below hb) eU
  rw[hc.right]at h;exact h)
 have HWF:Hid (∀W,Below w.heap.size w W→_):=(show∀W,_→_ from fun W h=>vV x (Nx hc hx.pre hb) W (hT.below h))
 have HF:Hid (∀W,Below w.heap.size w W→_):=(show∀W,_→_ from fun W h=>kx M fv W c x.field (nX c x) (hasB c x.field) (bz.below h) eU rfl rfl)
 have U7:Hid (∀K W,w.heap.size+3≤K→K<W.heap.size→Below w.heap.size w W→_):=(show∀K W,_→_→_→_ from fun K W h1 h2 h3=>xH c hc many hm x.type x.expr hx.expr (Qe M w 3 K) W fv (Ei hM (by omega) h2) (bz.ev (Ej h3 (by omega))) (hT.below h3))
 have OX:Hid (∀K W,w.heap.size+3≤K→K<W.heap.size→Below w.heap.size w W→_):=(show∀K W,_→_→_→_ from fun K W h1 h2 h3=>xH c hc many hm x.type x.other hx.other (Qe M w 3 K) W fv (Ei hM (by omega) h2) (bz.ev (Ej h3 (by omega))) (hT.below h3))
 have HMY:Hid (∀(N:Nat→Prop)W(f1 f2:Nat)(b1 b2:Array Value)(p:Nat),ae N W fv c.fields→W.heap[p]? =some (oI c.name fv x (nX c x) (hasB c x.field) (.func (.func f1) #[] b1) (.func (.func f2) #[] b2))→_):=(show∀(N:Nat→Prop)W(f1 f2:Nat)(b1 b2:Array Value)(p:Nat),_→_→_ from fun N W f1 f2 b1 b2 p h1 h2=>Ny N W c hc fv x hx.pre hb f1 f2 b1 b2 p h2 h1)
 have hk:x.kind=1∨x.kind=2∨x.kind=3∨x.kind=4∨x.kind=5∨x.kind=6:=by have:=hx.pre.sh;simp only[lg]at this;omega
 have Xs:=hD hk
 obtain⟨fa,fc,rfl,_⟩:=bz.open_
 have cQ:=hD (Bx.fB w (cg c.name (.slice fa c.fields.length fc)) (qE x) (zp .nilFunc .nilFunc .nilFunc))
 clear bz hM hT hx hb hc hk
 go_enter Tryz.func134,Tryz.ntmps134
 go_wp2_with fail
 refine(HR.out _ cQ.out.1).mono ?_
 rintro e w1⟨rfl,aw⟩
 have aO:=hD (cQ.out.below aw)
 obtain⟨p0,p1,p2,p3,p4,p5,p6,p7⟩:=ah (aO.out.bh rfl)
 clear aw
 go_wp2_with fail
 refine(HWF.out _ aO.out.1).mono ?_
 rintro e w2⟨rfl,aM⟩
 have aA:=hD (aO.out.below aM)
 clear aM p0 p1 p2 p3 p4 p5 p6 p7
 obtain⟨p0,p1,p2,p3,p4,p5,p6,p7⟩:=ah (aA.out.bh rfl)
 obtain⟨c0,c1⟩:=af (aA.out.bJ rfl)
 go_upto_region 4 with fail
 obtain⟨K,hK⟩:∃K,w2.heap.size=K:=⟨_,rfl⟩
 obtain⟨W,hW⟩:∃W:World,W=w2.alloc (oI c.name (.slice fa c.fields.length fc) x 0 false .nilFunc .nilFunc):=⟨_,rfl⟩
 have HS:Hid (mX w [cg c.name (.slice fa c.fields.length fc),qE x,zp .nilFunc .nilFunc .nilFunc] K c.name (.slice fa c.fields.length fc) x 0 false .nilFunc .nilFunc W):=(show mX _ _ _ _ _ _ _ _ _ _ _ from⟨by rw[hW];exact aA.out.alloc _,by rw[hW,←hK];exact heap_alloc_new w2 _,by have:=aA.out.b8;omega⟩)
 unfold oI at hW
 rw[←hW,hK]
 clear hW p0 p1 p2 p3 p4 p5 p6 p7 c0 c1
 obtain⟨p0,p1,p2,p3,p4,p5,p6,p7⟩:=ah (HS.out.bx.bh rfl)
 obtain⟨c0,c1⟩:=af (HS.out.bx.bJ rfl)
 go_wp2_with fail
 refine(HF.out _ HS.out.bx.1).mono ?_
 rintro e w3⟨rfl,bP⟩
 have jr:=hD (HS.out.below bP)
 have f10:=aa jr.out.blk 10
 have f11:=aa jr.out.blk 11
 have k10:=(bV jr.out.blk).ca
 have k11:=(bV jr.out.blk).cb
 have Vp:=jr.out.lt
 have QV:=jr.out.hK
 simp only[List.length_cons,List.length_nil]at QV
 clear bP p0 p1 p2 p3 p4 p5 p6 p7 c0 c1 aA aO cQ hK
 obtain⟨p0,p1,p2,p3,p4,p5,p6,p7⟩:=ah (jr.out.bx.bh rfl)
 obtain⟨c0,c1⟩:=af (jr.out.bx.bJ rfl)
 have n0:w.heap.size≠K:=by omega
 have n1:w.heap.size+1≠K:=by omega
 have n2:w.heap.size+1+1≠K:=by omega
 go_upto_region 5 with fail
 obtain⟨W4,qA⟩:∃W4:World,W4=(w3.setCell ⟨K,10,none⟩ (.int .i64 (nX c x))).setCell ⟨K,11,none⟩ (.bool (hasB c x.field)):=⟨_,rfl⟩
 have od:=hD (jr.out.setAt qA).1
 rw[←qA]
 have HN:Hid (w.heap.size+3≤K):=(show _≤_ by omega)
 clear qA jr HS f10 f11 k10 k11 Vp p0 p1 p2 p3 p4 p5 p6 p7 c0 c1
 obtain⟨p0,p1,p2,p3,p4,p5,p6,p7⟩:=ah (od.out.bx.bh rfl)
 obtain⟨c0,c1⟩:=af (od.out.bx.bJ rfl)
 go_wp2_with fail
 refine(U7.out K _ HN.out od.out.lt od.out.bx.1).mono ?_
 rintro e w5⟨g1,rfl,zI,sA⟩
 have qac:=zI
 obtain⟨gf1,lb1,rfl,_⟩:=qac
 have tq:=hD (od.out.below sA)
 have HA5:=hD zI
 have f12:=aa tq.out.blk 12
 have k12:=(bV tq.out.blk).cc
 have Vp:=tq.out.lt
 clear p0 p1 p2 p3 p4 p5 p6 p7 c0 c1
 clear sA zI
 go_upto_region 6 with fail
 obtain⟨W6,FW⟩:∃W6:World,W6=w5.setCell ⟨K,12,none⟩ (.func (.func gf1) #[] lb1):=⟨_,rfl⟩
 have FY:=hD (tq.out.Tu FW).1
 have HA6:=hD (HA5.out.only ((tq.out.Tu FW).2.mono fun i hi=> .inr hi))
 rw[←FW]
 clear FW tq HA5 od f12 k12 Vp
 obtain⟨p0,p1,p2,p3,p4,p5,p6,p7⟩:=ah (FY.out.bx.bh rfl)
 obtain⟨c0,c1⟩:=af (FY.out.bx.bJ rfl)
 go_wp2_with fail
 refine(OX.out K _ HN.out FY.out.lt FY.out.bx.1).mono ?_
 rintro e w7⟨g2,rfl,zJ,oP⟩
 have qad:=zJ
 obtain⟨SO,SP,rfl,_⟩:=qad
 have CI:=hD (FY.out.below oP)
 have Xt:=hD (HA6.out.only (ag.aj oP))
 have HC7:=hD zJ
 have f13:=aa CI.out.blk 13
 have k13:=(bV CI.out.blk).cd
 have Vp:=CI.out.lt
 clear oP zJ p0 p1 p2 p3 p4 p5 p6 p7 c0 c1
 go_upto_region 7 with fail
 obtain⟨W8,Vq⟩:∃W8:World,W8=w7.setCell ⟨K,13,none⟩ (.func (.func SO) #[] SP):=⟨_,rfl⟩
 have IC:=hD (CI.out.Kx Vq).1
 have HA8:=hD (Xt.out.only ((CI.out.Kx Vq).2.mono fun i hi=> .inr hi))
 have HC8:=hD (HC7.out.only ((CI.out.Kx Vq).2.mono fun i hi=> .inr hi))
 rw[←Vq]
 clear Vq CI Xt HC7 FY HA6 f13 k13 Vp
 obtain⟨p0,p1,p2,p3,p4,p5,p6,p7⟩:=ah (IC.out.bx.bh rfl)
 have HP:Hid (∀W,Below W8.heap.size W8 W→W.cell? ⟨w.heap.size+1,0,none⟩=some (.int .i64 x.kind)):=(show∀W,_→_ from fun W hb=>(ah ((IC.out.bx.below hb).bh rfl)).1)
 have HJ:Hid (Below W8.heap.size W8 W8):=(show Below _ _ _ from Below.refl _ _)
 go_cut [7](fun s7 wx=>∃L:Nat,s7= .pointer (some ⟨L,0,none⟩)∧Hid (KO W8 L (gx (vX x.kind) K) (gx (sJ x.kind) K) (gx (qn x.kind) K) wx))
 case first=>
  clear p1 p2 p3 p4 p5 p6 p7
  have pz:=fun o=>HP.out (W8.alloc o) (HJ.out.alloc HJ.out.size o)
  go_region_law(first
   |(go_simp
     go_at_call 154
     refine(KI _ K).mono ?_
     rintro en w9⟨bb,rfl,hka,yd,I2⟩
     have RD:Hid (Below W8.heap.size W8 w9):=(by first|with_reducible exact hD (Cy I2)|with_reducible exact hD (RZ I2)|with_reducible exact hD (RY I2))
     try with_reducible have Py:=hD (X2 I2)
     try with_reducible have Py:=hD (X3 I2)
     have p0':=HP.out w9 RD.out
     have pa0:=fun o=>HP.out (w9.alloc o) (RD.out.alloc RD.out.size o)
     have lk:=xM hka Xs.out
     have lka:=fun o=>xM (hka.below ((Below.refl w9.heap.size w9).alloc (Nat.le_refl _) o)) Xs.out
     unfold ig gx at lk lka
     try have z0:=(ay Py.out).1
     try have z1:=(ay Py.out).2.1
     try have z2:=(ay Py.out).2.2
     try have y0:=aa Py.out 0
     try have y1:=aa Py.out 1
     try have y2:=aa Py.out 2
     clear hka yd I2))
  all_goals(go_wp2_with fail;go_meet)
  all_goals first
   |exact⟨_,rfl,(show KO _ _ _ _ _ _ from Ek RD.out)⟩
   |exact⟨_,rfl,(show KO _ _ _ _ _ _ from KP RD.out Py.out (Nat.le_refl _))⟩
 case rest=>
  obtain⟨L,rfl,HK⟩:=hcut
  obtain⟨wx,Cj⟩:∃wx:World,wx=wc:=⟨_,rfl⟩
  subst Cj
  have zL:=hD (IC.out.below HK.out.below)
  have HA9:=hD (HA8.out.only (ag.aj HK.out.below))
  have Xu:=hD (HC8.out.only (ag.aj HK.out.below))
  have hLw:=HK.out.hL
  have hLl:=(Array.getElem?_eq_some_iff.1 HK.out.blk).1
  have hz8:=IC.out.bx.b8
  simp only[List.length_cons,List.length_nil]at hz8
  have aS:=hD (HMY.out (Qe M w 3 K) wx.drew gf1 SO lb1 SP K ((ij.out.ev (Ej zL.out.bx.1.drew (by omega)))) zL.out.blk)
  have Lt:=BR (k:=x.kind)
  clear p0 p1 p2 p3 p4 p5 p6 p7 HP
  generalize hgm:vX x.kind=gm at HK aS Lt
  obtain⟨k0,k1,k2⟩:=ay HK.out.blk
  unfold gx at k0 k1 k2
  have SL:Hid (∀W,Below wx.heap.size wx W→W.heap[L]? =some (zp (gx gm K) (gx (sJ x.kind) K) (gx (qn x.kind) K))):=(show∀W,_→_ from fun W hb=>(hb.block L hLl).trans HK.out.blk)
  have HJ:Hid (Below wx.heap.size wx wx):=(show Below _ _ _ from Below.refl _ _)
  obtain⟨b0,b1,b2⟩:=ay (zL.out.bx.df rfl)
  have e0:=aa (zL.out.bx.df rfl) 0
  have e1:=aa (zL.out.bx.df rfl) 1
  have e2:=aa (zL.out.bx.df rfl) 2
  have nL:w.heap.size+1+1≠L:=by omega
  go_upto_region 8 with fail
  go_cut [5](fun s5 wy=>s5= .bool true∧Hid (∃qC,mX w [cg c.name (.slice fa c.fields.length fc),qE x,zp .nilFunc .nilFunc .nilFunc] K c.name (.slice fa c.fields.length fc) x (nX c x) (hasB c x.field) (.func (.func gf1) #[] lb1) (.func (.func SO) #[] SP) qC∧Below wx.heap.size wx qC∧wy=((qC.setCell ⟨w.heap.size+1+1,0,none⟩ (gx gm K)).setCell ⟨w.heap.size+1+1,1,none⟩ (gx (sJ x.kind) K)).setCell ⟨w.heap.size+1+1,2,none⟩ (gx (qn x.kind) K)))
  case first=>
   go_region_law(first
    |(go_simp
      refine aS.out.mono ?_
      rintro en qC⟨rfl,vB⟩
      have wG:Hid (Below wx.heap.size wx qC):=(show Below _ _ _ from(Below.refl wx.heap.size wx).drew.trans vB)
      have EZ:=hD (zL.out.below wG.out)
      have l0:=(ay (SL.out qC wG.out)).1
      have l1:=(ay (SL.out qC wG.out)).2.1
      have l2:=(ay (SL.out qC wG.out)).2.2
      unfold gx at l0 l1 l2
      have r0:=(ay (EZ.out.bx.df rfl)).1
      have r1:=(ay (EZ.out.bx.df rfl)).2.1
      have r2:=(ay (EZ.out.bx.df rfl)).2.2
      have y0:=aa (EZ.out.bx.df rfl) 0
      have y1:=aa (EZ.out.bx.df rfl) 1
      have y2:=aa (EZ.out.bx.df rfl) 2
      clear vB))
   all_goals(go_wp2_with fail;go_meet)
   all_goals exact⟨rfl,(show∃_,_ from⟨qC,EZ.out,wG.out,rfl⟩)⟩
  case rest=>
   obtain⟨rfl,HZ⟩:=hcut
   obtain⟨qC,h1,h2,h3⟩:=HZ.out
   have h4:=h1.bx.df rfl
   have HY:Hid (wc.heap[w.heap.size+1+1]? =some (zp (gx gm K) (gx (sJ x.kind) K) (gx (qn x.kind) K))):=(show _=_ by rw[h3];exact xN h4 _ _ _)
   have ho:ag (fun i=>i=w.heap.size+1+1) qC wc:=by
    rw[h3]
    exact(((ag.refl (fun i=>i=w.heap.size+1+1) qC).setCell (p:=⟨w.heap.size+1+1,0,none⟩) (.inl rfl) _).setCell (p:=⟨w.heap.size+1+1,1,none⟩) (.inl rfl) _).setCell (p:=⟨w.heap.size+1+1,2,none⟩) (.inl rfl) _
   have hoN:ag (Qe M w 3 K) wx wc:=(ag.aj h2).trans (ho.mono fun i hi=> .inl (.inr (by have:i=w.heap.size+1+1:=hi;omega)))
   have qae:=hD (HA9.out.only hoN)
   have Ou:=hD (Xu.out.only hoN)
   have Vr:=hD (ho.at_ h1.blk (fun h=>by have:K=w.heap.size+1+1:=h;omega))
   have qaf:Hid (Below w.heap.size w wc):=(show Below _ _ _ by rw[h3];exact lM h1.bx.1 (by omega))
   have hKz:K<wc.heap.size:=(Array.getElem?_eq_some_iff.1 Vr.out).1
   obtain⟨m0,m1,m2⟩:=ay HY.out
   unfold gx at m0 m1 m2
   clear h1 h2 h3 h4 ho hoN HZ b0 b1 b2 e0 e1 e2 k0 k1 k2
   go_wp2_with fail
   refine bodyPost_ret (v:= .tuple #[.agg #[.func (.func gm) #[.pointer (some ⟨K,0,none⟩)] #[], .func (.func (sJ x.kind)) #[.pointer (some ⟨K,0,none⟩)] #[], .func (.func (qn x.kind)) #[.pointer (some ⟨K,0,none⟩)] #[]], .bool true]) (by simp[results,Tryz.results134,go_sem,m0,m1,m2]) rfl ⟨_,rfl,⟨K,_,_,Qe M w 3 K,?_,fun i hi=> .inl (.inl hi),fun i hi=> ?_,Ei HM.out (by omega) hKz,qae.out,Ou.out,Vr.out⟩,qaf.out⟩
   ·rw[←hgm];rfl
   ·rcases hi with(hi|hi)|hi
    ·exact .inl hi
    ·exact .inr hi.1
    ·exact .inr (by omega)
theorem Hx(M:Nat→Prop)(w:World)(hM:Bd M w)(c:ai)(hc:bR c)(x:aq)(hx:gJ c x)(hb:gY c x=true)(fv:Value)(bz:ae M w fv c.fields)(hT:Tb w):
 Calls Tryz.prog 122 #[.agg #[.string c.name,fv], .agg #[.int .i64 x.kind, .string x.field, .string x.name, .string x.more, .int .i64 x.type.kind, .int .i64 x.type.of, .string x.expr, .string x.other]] w (aF w fun v w'=>∃jc,v= .tuple #[.agg #[.string c.name,jc], .int .i64 0]∧ae M w' jc (bC c x).fields):=by
 have eU:=bQ hc.small
 have kU:=hD hM
 have ij:=hD bz
 have HR:Hid (∀W,Below w.heap.size w W→Calls Tryz.prog 95 #[.agg #[.string c.name,fv]] W fun e w'=>e= .returned (.bool true)∧Below W.heap.size W w'):=(show∀W,_→_ from fun W hb=>by
  have h:=eY M fv W c (bz.below hb) eU
  rw[hc.right]at h;exact h)
 have HB:Hid (∀W,Below w.heap.size w W→w.heap.size+3≤W.heap.size→_):=(show∀W,_→_→_ from fun W h h3=>BV (eP M w 3) W (dS hM h3) c hc 1 (by omega) x hx hb fv (bz.ev (dR h)) (hT.below h))
 have I1:Hid (∀(N:Nat→Prop)W g1 g2(p:Nat),Bd N W→ae N W fv c.fields→W.heap[p]? =some (oI c.name fv x (nX c x) (hasB c x.field) g1 g2)→_):=(show∀(N:Nat→Prop)W g1 g2(p:Nat),_→_→_→_ from fun N W g1 g2 p h1 h2 h3=>Eh N W h1 c hc fv x hx.pre hb g1 g2 p h3 h2)
 have Lt:=BS (k:=x.kind)
 obtain⟨fa,fc,rfl,_⟩:=bz.open_
 have cQ:=hD (Bx.fB w (cg c.name (.slice fa c.fields.length fc)) (qE x) (cg ⟨#[]⟩ (.slice none 0 0)))
 clear bz hM hT hx hb hc
 go_enter Tryz.func122,Tryz.ntmps122
 go_wp2_with fail
 refine(HR.out _ cQ.out.1).mono ?_
 rintro e w1⟨rfl,aw⟩
 have aO:=hD (cQ.out.below aw)
 obtain⟨p0,p1,p2,p3,p4,p5,p6,p7⟩:=ah (aO.out.bh rfl)
 obtain⟨c0,c1⟩:=af (aO.out.bJ rfl)
 clear aw
 go_wp2_with fail
 refine(HB.out _ aO.out.1 aO.out.b8).mono ?_
 rintro e w2⟨_,rfl,⟨p,g1,g2,N,rfl,L3,I0,ID,zI,zJ,iX⟩,aM⟩
 have aA:=hD (aO.out.below aM)
 have Pd:=hD ID
 have RE:=hD iX
 have HEV:Hid (∀W,Below w.heap.size w W→Ev M w N W):=(show∀W,_→_ from fun W h=>⟨ag.aj h,fun i hi=>by
  rcases I0 i hi with(h|h)|h
  ·exact .inl h
  ·exact .inr h.1
  ·exact .inr (Nat.le_trans aO.out.1.size h)⟩)
 have vK:Hid (∀i,M i→N i):=(show∀i,_→_ from fun i h=>L3 i (.inl h))
 have CH:Hid (N (w.heap.size+1+1)):=(show N _ from L3 _ (.inr ⟨by omega,by omega⟩))
 have dL:=aA.out.b8
 simp only[List.length_cons,List.length_nil]at dL
 clear aM ID iX L3 I0 zI zJ p0 p1 p2 p3 p4 p5 p6 p7 c0 c1
 generalize sJ x.kind=gf at I1 Lt⊢
 unfold ig gx
 go_upto_region 6 with fail
 obtain⟨W3,sy⟩:∃W3:World,W3=w2.alloc (zp (gx (vX x.kind) p) (gx gf p) (gx (qn x.kind) p)):=⟨_,rfl⟩
 have bO:Hid (Bx w [cg c.name (.slice fa c.fields.length fc),qE x,cg ⟨#[]⟩ (.slice none 0 0)] W3):=(show Bx _ _ _ by rw[sy];exact aA.out.alloc _)
 have FR:Hid (W3.heap[w2.heap.size]? =some (zp (gx (vX x.kind) p) (gx gf p) (gx (qn x.kind) p))):=(show _=_ by rw[sy];exact heap_alloc_new w2 _)
 have SC:Hid (Below w2.heap.size w2 W3):=(show Below _ _ _ by rw[sy];exact(Below.refl _ _).alloc (Nat.le_refl _) _)
 have aS:=hD (I1.out N W3.drew g1 g2 p (Pd.out.below (w':=W3.drew) SC.out.drew) (ij.out.ev (HEV.out W3.drew bO.out.1.drew)) ((SC.out.block p (Array.getElem?_eq_some_iff.1 RE.out).1).trans RE.out))
 unfold zp gx at sy
 rw[←sy]
 clear sy
 obtain⟨k0,k1,k2⟩:=ay FR.out
 obtain⟨c0,c1⟩:=af (bO.out.bJ rfl)
 unfold gx at k0 k1 k2
 go_cut [5](fun s5 wx=>∃(ya:Option Addr)(yc:Nat),s5= .int .i64 0∧Hid (wx.heap[w.heap.size+1+1]? =some (cg c.name (.slice ya (bC c x).fields.length yc))∧ae M wx (.slice ya (bC c x).fields.length yc) (bC c x).fields∧Below w.heap.size w wx))
 case first=>
  go_region_law(first
   |(go_simp
     refine aS.out.mono ?_
     rintro en w4⟨_,rfl,aU,eS⟩
     obtain⟨ya,yc,rfl,_⟩:=aU.open_
     have eM:=hD aU
     have fJ:Hid (Bx w [cg c.name (.slice fa c.fields.length fc),qE x,cg ⟨#[]⟩ (.slice none 0 0)] w4):=bO.out.drew.below eS
     have q0:=(af (fJ.out.bJ rfl)).1
     have r0:=(af (fJ.out.df rfl)).1
     have r1:=(af (fJ.out.df rfl)).2
     have f0:=aa (fJ.out.df rfl) 0
     have f1:=aa (fJ.out.df rfl) 1
     clear aU eS))
  all_goals(go_wp2_with fail;go_meet)
  all_goals
   refine⟨ya,yc,rfl,?_⟩
   refine(show _∧_∧_ from⟨sV (fJ.out.df rfl) _ _,((eM.out.ev (((Ev.refl N w4).setCell (p:=⟨w.heap.size+1+1,0,none⟩) (.inl CH.out) _).setCell (p:=⟨w.heap.size+1+1,1,none⟩) (.inl CH.out) _)).ev (Ev.ee _ vK.out)),(fJ.out.1.setCell (by show w.heap.size≤w.heap.size+1+1;omega) _).setCell (by show w.heap.size≤w.heap.size+1+1;omega) _⟩)
 case rest=>
  obtain⟨ya,yc,rfl,HR⟩:=hcut
  obtain⟨r0,r1⟩:=af HR.out.1
  go_wp2_with fail
  refine bodyPost_ret (v:= .tuple #[.agg #[.string c.name, .slice ya (bC c x).fields.length yc], .int .i64 0]) (by simp[results,Tryz.results122,go_sem,r0,r1]) rfl ⟨_,rfl,⟨_,rfl,HR.out.2.1⟩,HR.out.2.2⟩
theorem KQ(M:Nat→Prop)(w:World)(hM:Bd M w)(c:ai)(hc:bR c)(many:Int)(hm:many≤100000)(x:aq)(hx:gJ c x)(hb:gY c x=true)(fv vv:Value)(vs:List au)(bz:ae M w fv c.fields)(dk:ae M w vv vs)(hv:aW c.fields many vs)(hG:Gd w):
 Calls Tryz.prog 108 #[.agg #[.string c.name,fv], .agg #[.int .i64 x.kind, .string x.field, .string x.name, .string x.more, .int .i64 x.type.kind, .int .i64 x.type.of, .string x.expr, .string x.other],vv] w (aF w fun v w'=>∃us uv,v= .tuple #[uv, .int .i64 0]∧fC c x many vs us∧ae M w' uv us):=by
 have eU:=bQ hc.small
 have kU:=hD hM
 have ij:=hD bz
 have IW:=hD dk
 have OT:Hid (∀W,Below w.heap.size w W→_):=(show∀W,_→_ from fun W h=>kl c hc.right eU many hm vs hv M W fv vv (bz.below h) (dk.below h) (hG.tb.below h))
 have HB:Hid (∀W,Below w.heap.size w W→_):=(show∀W,_→_ from fun W h=>BV M W (hM.below h) c hc many hm x hx hb fv (bz.below h) (hG.tb.below h))
 have Ir:Hid (∀(N:Nat→Prop)W g1 g2(p:Nat),Bd N W→Below w.heap.size w W→gQ N c many x.type x.expr W g1→gQ N c many x.type x.other W g2→W.heap[p]? =some (oI c.name fv x (nX c x) (hasB c x.field) g1 g2)→ae N W vv vs→_):=(show∀(N:Nat→Prop)W g1 g2(p:Nat),_→_→_→_→_→_→_ from fun N W g1 g2 p h1 h2 h3 h4 h5 h6=>KN N W h1 c hc fv vv x hx.pre hb g1 g2 many p vs h3 h4 (hG.below h2) h5 hv h6)
 have Lt:=BU (k:=x.kind)
 obtain⟨fa,fc,rfl,_⟩:=bz.open_
 obtain⟨va,vc,rfl,_⟩:=dk.open_
 have cQ:=hD (Bx.eO w (cg c.name (.slice fa c.fields.length fc)) (qE x))
 clear bz dk hM hG hx hb hc hv
 go_enter Tryz.func108,Tryz.ntmps108
 go_wp2_with fail
 refine(OT.out _ cQ.out.1).mono ?_
 rintro e w1⟨rfl,aw⟩
 have aO:=hD (cQ.out.below aw)
 obtain⟨p0,p1,p2,p3,p4,p5,p6,p7⟩:=ah (aO.out.bh rfl)
 obtain⟨c0,c1⟩:=af (aO.out.bJ rfl)
 clear aw
 go_wp2_with fail
 refine(HB.out _ aO.out.1).mono ?_
 rintro e w2⟨_,rfl,⟨p,g1,g2,N,rfl,L3,I0,ID,zI,zJ,iX⟩,aM⟩
 have aA:=hD (aO.out.below aM)
 have qdc:Hid (Below w2.heap.size w2 w2):=(show Below _ _ _ from Below.refl _ _)
 have HEV:Hid (ae N w2 (.slice va vs.length vc) vs):=(show ae _ _ _ _ from IW.out.ev ⟨ag.aj aA.out.1,fun i hi=>(I0 i hi).imp_right fun h=>Nat.le_trans aO.out.1.size h⟩)
 have vK:Hid (∀i,M i→N i):=(show∀i,_→_ from L3)
 have SM:=hD (fun o=>Ir.out N (w2.alloc o) g1 g2 p (ID.below ((Below.refl _ _).alloc (Nat.le_refl _) o)) ((aA.out.alloc o).1) (zI.only (ag.aj ((Below.refl _ _).alloc (Nat.le_refl _) o))) (zJ.only (ag.aj ((Below.refl _ _).alloc (Nat.le_refl _) o))) (((Below.refl w2.heap.size w2).alloc (Nat.le_refl _) o).block p (Array.getElem?_eq_some_iff.1 iX).1|>.trans iX) (HEV.out.ev ((Ev.refl _ _).alloc o)))
 generalize qn x.kind=gf at SM Lt⊢
 clear aM ID zI zJ iX L3 I0 p0 p1 p2 p3 p4 p5 p6 p7 c0 c1
 unfold ig gx
 go_wp2_with fail
 refine(SM.out _).mono ?_
 rintro e w3⟨u,rfl,⟨us,vL,aU⟩,bP⟩
 obtain⟨ua,uc,rfl,_⟩:=aU.open_
 have eM:=hD aU
 have HUS:=hD vL
 have bO:Hid (Below w.heap.size w w3):=(show Below _ _ _ from((aA.out.alloc _).below bP).1)
 clear aU vL bP
 go_wp2_with fail
 go_ret2
 exact⟨_,rfl,⟨_,_,rfl,HUS.out,eM.out.ev (Ev.ee w3 vK.out)⟩,bO.out⟩
end Go.Proofs.YtlkjnefenialbaaGreatDoor
