/- A part; no condition. -/
import Derived.Test.YtepaofffbkfodaaGreatDoorM12
import Derived.Test.YtepaofffbkfodaaGreatDoorM16
import Derived.Shelf.Strings.Search3
import Derived.Shelf.Strconv.Itoa3
import Derived.Lib.ItoaLen
import Derived.Lib.AppendIntMem
set_option linter.all false
set_option maxHeartbeats 8000000
set_option maxRecDepth 100000
namespace Go.Proofs.YtepaofffbkfodaaGreatDoor
open Tryz
variable{w' w W w2:ax}{s s1 nm:aY}{i B K bm m j b:Nat}{a0 a1 a2 a3 v fv:aA}{l vs:List aJ}{a:fx}{M M':aV}{c:aI}{ay:Int}{o:Obj}
section
open Go.RowKit Go.Shelf
def jS:Go.Shelf.Ren:=⟨λ|143=>393|219=>402|217=>406|225=>407|224=>408|267=>409|266=>415|314=>416|n=>n,λ|9=>9|3=>3|4=>4|5=>5|46=>216|146=>457|51=>279|n=>n,λ|1=>5|n=>n⟩
def Lc:Go.Proofs.Lays.n143 prog jS:={
 mixed:=by kernel_rfl
 f143:=Tryz.func393.trans (by kernel_rfl)
 f217:=Tryz.func406.trans (by kernel_rfl)
 f219:=Tryz.func402.trans (by kernel_rfl)
 f224:=Tryz.func408.trans (by kernel_rfl)
 f225:=Tryz.func407.trans (by kernel_rfl)
 f266:=Tryz.func415.trans (by kernel_rfl)
 f267:=Tryz.func409.trans (by kernel_rfl)
 f314:=Tryz.func416.trans (by kernel_rfl)
 t3:=underlying3
 a3:=isAgg3
 z3:=sizeOf3
 v3:=zeroValue3
 t4:=underlying4
 a4:=isAgg4
 z4:=sizeOf4
 v4:=zeroValue4
 t5:=underlying5
 a5:=isAgg5
 z5:=sizeOf5
 v5:=zeroValue5
 t9:=underlying9
 a9:=isAgg9
 z9:=sizeOf9
 v9:=zeroValue9
 t46:=underlying216
 a46:=isAgg216
 z46:=sizeOf216
 v46:=zeroValue216
 t51:=underlying279
 a51:=isAgg279
 z51:=sizeOf279
 v51:=zeroValue279
 t146:=underlying457
 a146:=isAgg457
 z146:=sizeOf457
 v146:=zeroValue457
 g1:=by kernel_rfl}
def rY:Go.Shelf.Ren:=⟨λ|171=>204|243=>257|246=>283|283=>322|284=>323|285=>324|286=>325|129=>197|317=>348|318=>349|319=>350|320=>351|337=>389|338=>390|n=>n,λ|3=>3|9=>9|2=>2|4=>4|171=>398|0=>0|53=>281|37=>252|5=>5|173=>400|212=>420|51=>279|20=>20|213=>421|46=>216|232=>447|233=>448|n=>n,λ|17=>2|18=>3|19=>4|n=>n⟩
def Oo:Go.Proofs.LaysM.n171 prog rY:={
 mixed:=by kernel_rfl
 f129:=Tryz.func197.trans (by kernel_rfl)
 f171:=Tryz.func204.trans (by kernel_rfl)
 f243:=Tryz.func257.trans (by kernel_rfl)
 f246:=Tryz.func283.trans (by kernel_rfl)
 f283:=Tryz.func322.trans (by kernel_rfl)
 f284:=Tryz.func323.trans (by kernel_rfl)
 f285:=Tryz.func324.trans (by kernel_rfl)
 f286:=Tryz.func325.trans (by kernel_rfl)
 f317:=Tryz.func348.trans (by kernel_rfl)
 f318:=Tryz.func349.trans (by kernel_rfl)
 f319:=Tryz.func350.trans (by kernel_rfl)
 f320:=Tryz.func351.trans (by kernel_rfl)
 f337:=Tryz.func389.trans (by kernel_rfl)
 f338:=Tryz.func390.trans (by kernel_rfl)
 t0:=underlying0
 a0:=isAgg0
 z0:=sizeOf0
 v0:=zeroValue0
 t2:=underlying2
 a2:=isAgg2
 z2:=sizeOf2
 v2:=zeroValue2
 t3:=underlying3
 a3:=isAgg3
 z3:=sizeOf3
 v3:=zeroValue3
 t4:=underlying4
 a4:=isAgg4
 z4:=sizeOf4
 v4:=zeroValue4
 t5:=underlying5
 a5:=isAgg5
 z5:=sizeOf5
 v5:=zeroValue5
 t9:=underlying9
 a9:=isAgg9
 z9:=sizeOf9
 v9:=zeroValue9
 t20:=underlying20
 a20:=isAgg20
 z20:=sizeOf20
 v20:=zeroValue20
 t37:=underlying252
 a37:=isAgg252
 z37:=sizeOf252
 v37:=zeroValue252
 t46:=underlying216
 a46:=isAgg216
 z46:=sizeOf216
 v46:=zeroValue216
 t51:=underlying279
 a51:=isAgg279
 z51:=sizeOf279
 v51:=zeroValue279
 t53:=underlying281
 a53:=isAgg281
 z53:=sizeOf281
 v53:=zeroValue281
 t171:=underlying398
 a171:=isAgg398
 z171:=sizeOf398
 v171:=zeroValue398
 t173:=underlying400
 a173:=isAgg400
 z173:=sizeOf400
 v173:=zeroValue400
 t212:=underlying420
 a212:=isAgg420
 z212:=sizeOf420
 v212:=zeroValue420
 t213:=underlying421
 a213:=isAgg421
 z213:=sizeOf421
 t232:=underlying447
 a232:=isAgg447
 z232:=sizeOf447
 v232:=zeroValue447
 t233:=underlying448
 a233:=isAgg448
 z233:=sizeOf448
 v233:=zeroValue448
 g17:=by kernel_rfl
 g18:=by kernel_rfl
 g19:=by kernel_rfl
 i0:=by kernel_rfl
 i2:=by kernel_rfl
 i3:=by kernel_rfl
 i4:=by kernel_rfl
 i5:=by kernel_rfl
 i9:=by kernel_rfl
 i20:=by kernel_rfl
 i37:=by kernel_rfl
 i46:=by kernel_rfl
 i51:=by kernel_rfl
 i53:=by kernel_rfl
 i171:=by kernel_rfl
 i173:=by kernel_rfl
 i212:=by kernel_rfl
 i232:=by kernel_rfl
 i233:=by kernel_rfl
 m17:=by kernel_rfl
 m18:=by kernel_rfl
 m19:=by kernel_rfl}
def UN:jS.f 143=393:=by kernel_rfl
def YD:rY.f 171=204:=by kernel_rfl
structure Gd(w:ax):Prop where
 tb:Tb w
 mx:∃m,w.cell? (jS.g 1,0)=some (xI m)
 pw:∀W,aC w W->Lib.TabIs prog W "internal/strconv.uint64pow10" .u64 Lib.pow10Tab
theorem Gd.ae {w:ax}(h:Gd w)(hb:aC w w'):Gd w':=by
 have⟨m,hm⟩:=h.mx;exact⟨h.tb.ae hb,⟨m,(hb.cell (p:=⟨jS.g 1,0,none⟩) (oL hm)).trans hm⟩,λW hW=>h.pw W (hb.trans (hW.mono hb.size))⟩
def Ld(s t:aY)(hs:s.size<=1000)(w:ax)(hg:Gd w):xC 393 #[s,t] w (jt (Lib.index s.data.toList t.data.toList) w):=by
 have⟨m,hm⟩:=hg.mx;have h:=Any.strings_Index Lc s t m w (by omega) hm;rw[UN]at h;exact h.mono λe w'⟨h1,h2⟩=>⟨h1,h2.symm⟩
def RH(n:Int)(w:ax)(e:Ending)(w':ax):Prop:=∃s:aY,iP s.data.toList/\s.size<=30/\e=xR s/\aC w w'
def DJ:∀d,d<10->(32:UInt8)<=UInt8.ofNat (48+d)/\UInt8.ofNat (48+d)<127:=by decide
def rZ(u:Nat):∀c∈Lib.decDigits u,32<=c/\c<127:=by
 intro c hc;rw[Lib.decDigits_eq]at hc;obtain⟨t,_,rfl⟩:=Qdh.1 hc;exact DJ _ (Nat.mod_lt _ (by omega))
def GQ(n:Int):∀c∈Lib.itoa n,32<=c/\c<127:=by
 intro c hc;unfold Lib.itoa at hc;split at hc
 .rcases Qdf.1 hc with rfl|hc
  .decide
  .exact rZ _ _ hc
 .exact rZ _ _ hc
def RI(n:Int)(hn:tN n)(w:ax)(hg:Gd w):xC 204 #[n] w (RH n w):=by
 obtain⟨h0,h1⟩:=hn;have h:=Any.strconv_Itoa Oo n (by omega) (by omega) w (hg.pw w dS);rw[YD]at h;refine h.mono λe w'⟨h2,k,os,h3⟩=>⟨_,?_,?_,h2,by rw[h3];exact Lib.below_grow _ w bT k os⟩
 .exact oS _ (by simpa using GQ n)
 .have:=Lib.itoa_length_le n (by omega) (by omega);simp[ByteArray.size];omega
def RJ(s t:aY)(hs:s.size<=1000)(w:ax)(hg:Gd w):xC 362 #[s,t] w λe w'=>∃x:Int,e=xR x/\aC w w':=by
 have h1:=Lib.index_ge s.data.toList t.data.toList;have h2:=Lib.index_le s.data.toList t.data.toList;rw[bG]at h2;have HI:=ag (Ld s t hs w hg);generalize Lib.index s.data.toList t.data.toList=x at*;by_cases hx:x<0
 .go_enter func362,ntmps362;go_wp2_with fail;refine dw (HI.o) ?_;go_wp2;go_ret;exact⟨_,rfl,dS⟩
 .obtain⟨i,rfl⟩:=Int.eq_ofNat_of_zero_le (by omega:0<=x);have hi:i<=s.size:=by omega
  have IL:=ag (show(s.extract 0 i).size<=1000 by simp;omega);go_enter func362,ntmps362;go_wp2_with fail;refine dw (HI.o) ?_;go_wp2_with fail;refine(Dy (s.extract 0 i) IL.o _).mono ?_;rintro e w1⟨m,_,rfl,hb⟩;have HB:=ag hb;go_wp2;go_ret;exact⟨_,rfl,HB.o⟩
section
variable {M:aV}{w:ax}{lv:aA}{vs:List aJ}
def je(hl:ab M w lv vs){k n:Int}{ll:List aJ}(hx:vs[i]? =some (.mk k n s ll)):∃b off cap a c,lv=xL (b,off) vs.length cap/\i<vs.length/\b<w.heap.size/\∀W,aC w W->(bJ W b (off+i*4) k/\bJ W b (off+i*4+1) n/\bJ W b (off+i*4+2) s/\bJ W b (off+i*4+3) (xL a ll.length c))/\cB M W (.agg #[k,n,s,xL a ll.length c]) (aJ.mk k n s ll):=by
 have⟨b,off,cap,a,c,h1,h2,_,_,h3⟩:=dy hl hx;exact⟨b,off,cap,a,c,h1,(Qad.1 hx).1,h2,h3⟩
def RL(hl:ab M w lv vs)(k n:Int)(s:aY)(ll:List aJ)(hx:vs[0]? =some (.mk k n s ll))(hs:gi s):xG 353 #[lv] w jH:=by
 obtain⟨b,off,cap,a,c,rfl,h0,hb,hc⟩:=je hl hx;have⟨q0,q1,q2,q3⟩:=(hc (w.alloc (xK iE 44)) bU).1;simp only[Nat.zero_mul,Nat.add_zero]at q0 q1 q2 q3;have SP:=hs.1;go_enter func353,ntmps353;go_wp2_with fail;refine(Dy s (by omega) _).mono ?_;rintro e w1⟨m,hm,rfl,hb1⟩;have bz:=ag ((Bx.eI w (ej 0 0 () ())).ae hb1);go_wp2_with fail;refine(jI _ _).mono ?_;rintro e w2⟨_,rfl,⟨z,hz,rfl⟩,bE⟩;have bg:=ag (bz.o.ae bE);have HZ:=ag hz;have⟨c0,c1,c2,c3⟩:=af (bg.o.bO rfl);have⟨f0,f1,f2,f3⟩:=hZ (bg.o.bO rfl);unfold kK;go_wp2_with fail;refine Qae (v:=kK z) (by simp[results,results353,go_sem,kK,c0,c1,c2,c3]) rfl (show cm w jH _ _ from⟨_,rfl,⟨_,HZ.o,rfl⟩,?_⟩);exact(((bg.o.1.setCell (by simp) _).setCell (by simp) _).setCell (by simp) _).setCell (by simp) _
def Oq(hl:ab M w lv vs)(k n:Int)(s:aY)(ll:List aJ)(hx:vs[0]? =some (.mk k n s ll))(k' n':Int)(s':aY)(Z4:List aJ)(SQ:vs[1]? =some (.mk k' n' s' Z4))(hs:gi s):xG 356 #[lv] w fy:=by
 obtain⟨b,off,cap,a,c,rfl,h0,hb,hc⟩:=je hl hx;have⟨q0,q1,q2,q3⟩:=(hc (w.alloc (xK iE 44)) bU).1;simp only[Nat.zero_mul,Nat.add_zero]at q0 q1 q2 q3;have⟨b',off',cap',a',c',hv',h0',hb',hc'⟩:=je hl SQ;obtain⟨⟨rfl,rfl⟩,rfl⟩:(b=b'/\off=off')/\cap=cap':=by simpa using hv'
 have⟨r0,r1,r2,r3⟩:=(hc' (w.alloc (xK iE 44)) bU).1;simp only[Nat.one_mul]at r0 r1 r2 r3;have SP:=hs.1;have HS:=ag hs.2;have HT:Hd (∀p,qo s p->∀W,xC 357 #[xS (s.extract 0 p)] W (cm W fy)):=λp hp W=>rV _ (by have:=hp.take;simpa using this) (by simp;omega) W;have HH:Hd (∀W,xC 358 #[s,n'] W (Dz W s)):=λW=>Aj s HS.o (by omega) n' W;go_enter func356,ntmps356;go_wp2_with fail;refine(HH.o _).mono ?_;rintro e w1⟨p,hp,rfl,hb1⟩;have bz:=ag ((Bx.eI w (ej 0 0 () ())).ae hb1);have hps:=hp.1;have HP:=ag hp;go_wp2_with fail;refine(HT.o p HP.o _).mono ?_;rintro e w2⟨_,rfl,⟨z,hz,rfl⟩,bE⟩;have bg:=ag (bz.o.ae bE);have HZ:=ag hz;have⟨c0,c1,c2,c3⟩:=af (bg.o.bO rfl);have⟨f0,f1,f2,f3⟩:=hZ (bg.o.bO rfl);unfold mM;go_wp2_with fail;refine Qae (v:=mM z) (by simp[results,results356,go_sem,mM,c0,c1,c2,c3]) rfl (show cm w fy _ _ from⟨_,rfl,⟨_,HZ.o,rfl⟩,?_⟩);exact(((bg.o.1.setCell (by simp) _).setCell (by simp) _).setCell (by simp) _).setCell (by simp) _
def Ot(hl:ab M w lv vs)(k n:Int)(s:aY)(ll:List aJ)(hx:vs[0]? =some (.mk k n s ll))(k' n':Int)(s':aY)(Z4:List aJ)(SQ:vs[1]? =some (.mk k' n' s' Z4))(hs:gi s):xG 360 #[lv] w fy:=by
 obtain⟨b,off,cap,a,c,rfl,h0,hb,hc⟩:=je hl hx;have⟨q0,q1,q2,q3⟩:=(hc (w.alloc (xK iE 44)) bU).1;simp only[Nat.zero_mul,Nat.add_zero]at q0 q1 q2 q3;have⟨b',off',cap',a',c',hv',h0',hb',hc'⟩:=je hl SQ;obtain⟨⟨rfl,rfl⟩,rfl⟩:(b=b'/\off=off')/\cap=cap':=by simpa using hv'
 have⟨r0,r1,r2,r3⟩:=(hc' (w.alloc (xK iE 44)) bU).1;simp only[Nat.one_mul]at r0 r1 r2 r3;have SP:=hs.1;have HS:=ag hs.2;have HT:Hd (∀p,qo s p->∀W,xC 357 #[xS (s.extract p s.size)] W (cm W fy)):=λp hp W=>rV _ (by have:=hp.drop;rw[(An s p hp.1).1];exact this) (by simp;omega) W;have HH:Hd (∀W,xC 358 #[s,n'] W (Dz W s)):=λW=>Aj s HS.o (by omega) n' W;go_enter func360,ntmps360;go_wp2_with fail;refine(HH.o _).mono ?_;rintro e w1⟨p,hp,rfl,hb1⟩;have bz:=ag ((Bx.eI w (ej 0 0 () ())).ae hb1);have hps:=hp.1;have HP:=ag hp;go_wp2_with fail;refine(HT.o p HP.o _).mono ?_;rintro e w2⟨_,rfl,⟨z,hz,rfl⟩,bE⟩;have bg:=ag (bz.o.ae bE);have HZ:=ag hz;have⟨c0,c1,c2,c3⟩:=af (bg.o.bO rfl);have⟨f0,f1,f2,f3⟩:=hZ (bg.o.bO rfl);unfold mM;go_wp2_with fail;refine Qae (v:=mM z) (by simp[results,results360,go_sem,mM,c0,c1,c2,c3]) rfl (show cm w fy _ _ from⟨_,rfl,⟨_,HZ.o,rfl⟩,?_⟩);exact(((bg.o.1.setCell (by simp) _).setCell (by simp) _).setCell (by simp) _).setCell (by simp) _
def Ou(hl:ab M w lv vs)(k n:Int)(s:aY)(ll:List aJ)(hx:vs[0]? =some (.mk k n s ll))(k' n':Int)(s':aY)(Z4:List aJ)(SQ:vs[1]? =some (.mk k' n' s' Z4))(hs:gi s)(hg:Gd w):xG 361 #[lv] w jH:=by
 obtain⟨b,off,cap,a,c,rfl,h0,hb,hc⟩:=je hl hx;have⟨q0,q1,q2,q3⟩:=(hc (w.alloc (xK iE 44)) bU).1;simp only[Nat.zero_mul,Nat.add_zero]at q0 q1 q2 q3;have⟨b',off',cap',a',c',hv',h0',hb',hc'⟩:=je hl SQ;obtain⟨⟨rfl,rfl⟩,rfl⟩:(b=b'/\off=off')/\cap=cap':=by simpa using hv'
 have⟨r0,r1,r2,r3⟩:=(hc' (w.alloc (xK iE 44)) bU).1;simp only[Nat.one_mul]at r0 r1 r2 r3;have SP:=hs.1;have HG:Hd (Gd (w.alloc (xK iE 44)).drew):=hg.ae bU.drew;have HI:Hd (∀W,Gd W->xC 362 #[s,s'] W λe w'=>∃x:Int,e=xR x/\aC W w'):=λW hg=>RJ s s' (by omega) W hg;go_enter func361,ntmps361;have h0i:(0:Int)<(vs.length:Int):=by omega
 have h1i:(1:Int)<(vs.length:Int):=by omega
 go_upto_region 1 with fail;go_region_law(first
  |(go_simp;go_at_call 362;refine(HI.o _ HG.o).mono ?_;rintro e w1⟨x,rfl,hb1⟩;have bz:=ag (((Bx.eI w (ej 0 0 () ())).drew).ae hb1);clear hb1)
  |(go_simp;go_at_call 354;refine(jI _ _).mono ?_;rintro e w2⟨_,rfl,⟨z,hz,rfl⟩,bE⟩;have bg:=ag (bz.o.ae bE);have HZ:=ag hz;have c0:=(af (bg.o.bO rfl)).1;have c1:=(af (bg.o.bO rfl)).2.1;have c2:=(af (bg.o.bO rfl)).2.2.1;have c3:=(af (bg.o.bO rfl)).2.2.2;have⟨f0,f1,f2,f3⟩:=hZ (bg.o.bO rfl);unfold kK));all_goals
  go_wp2_with fail;refine Qae (v:=kK z) (by simp[results,results361,go_sem,kK,c0,c1,c2,c3]) rfl (show cm w jH _ _ from⟨_,rfl,⟨_,HZ.o,rfl⟩,?_⟩);exact(((bg.o.1.setCell (by simp) _).setCell (by simp) _).setCell (by simp) _).setCell (by simp) _
def Ov(hl:ab M w lv vs)(k n:Int)(s:aY)(ll:List aJ)(hx:vs[0]? =some (.mk k n s ll))(hn:tN n)(hg:Gd w):xG 363 #[lv] w fy:=by
 obtain⟨b,off,cap,a,c,rfl,h0,hb,hc⟩:=je hl hx;have⟨q0,q1,q2,q3⟩:=(hc (w.alloc (xK iE 44)) bU).1;simp only[Nat.zero_mul,Nat.add_zero]at q0 q1 q2 q3;have HG:Hd (Gd (w.alloc (xK iE 44))):=hg.ae bU;have HN:=ag hn;go_enter func363,ntmps363;go_wp2_with fail;refine(RI n HN.o _ HG.o).mono ?_;rintro e w1⟨s1,hs1,hz1,rfl,hb1⟩;have bz:=ag ((Bx.eI w (ej 0 0 () ())).ae hb1);have qL:=ag hs1;go_wp2_with fail;refine(rV s1 qL.o (by omega) _).mono ?_;rintro e w2⟨_,rfl,⟨z,hz,rfl⟩,bE⟩;have bg:=ag (bz.o.ae bE);have HZ:=ag hz;have⟨c0,c1,c2,c3⟩:=af (bg.o.bO rfl);have⟨f0,f1,f2,f3⟩:=hZ (bg.o.bO rfl);unfold mM;go_wp2_with fail;refine Qae (v:=mM z) (by simp[results,results363,go_sem,mM,c0,c1,c2,c3]) rfl (show cm w fy _ _ from⟨_,rfl,⟨_,HZ.o,rfl⟩,?_⟩);exact(((bg.o.1.setCell (by simp) _).setCell (by simp) _).setCell (by simp) _).setCell (by simp) _
def UO(hl:ab M w lv vs)(k n:Int)(s:aY)(ll:List aJ)(hx:vs[0]? =some (.mk k n s ll))(x1 x2:aJ)(h1:vs[1]? =some x1)(h2:vs[2]? =some x2):xG 367 #[lv] w λv w'=>cB M w' v (if n=0 then x2 else x1):=by
 obtain⟨b,off,cap,a,c,rfl,h0,hb,hc⟩:=je hl hx;have⟨q0,q1,q2,q3⟩:=(hc (w.alloc (xK iE 44)) bU).1;simp only[Nat.zero_mul,Nat.add_zero]at q0 q1 q2 q3;have hL:=h0;obtain⟨k1,n1,s1,l1⟩:=x1;obtain⟨k2,n2,s2,l2⟩:=x2;have⟨b',off',cap',a',c',hv',h0',hb',hc'⟩:=je hl h1;obtain⟨⟨rfl,rfl⟩,rfl⟩:(b=b'/\off=off')/\cap=cap':=by simpa using hv'
 have⟨b'',off'',cap'',a'',c'',hv'',h0'',hb'',hc''⟩:=je hl h2;obtain⟨⟨rfl,rfl⟩,rfl⟩:(b=b''/\off=off'')/\cap=cap'':=by simpa using hv''
 have⟨r0,r1,r2,r3⟩:=(hc' (w.alloc (xK iE 44)) bU).1;have⟨t0,t1,t2,t3⟩:=(hc'' (w.alloc (xK iE 44)) bU).1;simp only[Nat.one_mul]at r0 r1 r2 r3;have yM:Hd (∀W,aC w W->cB M W (.agg #[k1,n1,s1,xL a' l1.length c']) (aJ.mk k1 n1 s1 l1)):=λW hW=>(hc' W hW).2;have J5:Hd (∀W,aC w W->cB M W (.agg #[k2,n2,s2,xL a'' l2.length c'']) (aJ.mk k2 n2 s2 l2)):=λW hW=>(hc'' W hW).2;have sX:b≠w:=by omega
 have bg:=ag (Bx.eI w (ej 0 0 () ()));have⟨c0,c1,c2,c3⟩:=af (bg.o.bO rfl);by_cases hn:n=0
 .have HN:Hd ((if n=0 then aJ.mk k2 n2 s2 l2 else .mk k1 n1 s1 l1)= .mk k2 n2 s2 l2):=if_pos hn;rw[HN.o];subst hn;go_enter func367,ntmps367;go_wp2_with fail;refine Qae (v:= .agg #[k2,n2,s2,xL a'' l2.length c'']) (by simp[results,results367,go_sem]) rfl ⟨_,rfl,J5.o _ ?_,?_⟩;all_goals exact bU
 .have HN:Hd ((if n=0 then aJ.mk k2 n2 s2 l2 else .mk k1 n1 s1 l1)= .mk k1 n1 s1 l1):=if_neg hn;rw[HN.o];have MI:(n !=0)=true:=by simpa using hn
  go_enter func367,ntmps367;go_wp2_with fail;refine Qae (v:= .agg #[k1,n1,s1,xL a' l1.length c']) (by simp[results,results367,go_sem]) rfl ⟨_,rfl,yM.o _ ?_,?_⟩;all_goals exact bU
end
end
section
open Go.RowKit
def dd(h:Below B w W)(hK:B<=K):Below B w ((((W.setCell (K,0) a0).setCell (K,1) a1).setCell (K,2) a2).setCell (K,3) a3):=
 (((h.setCell hK _).setCell hK _).setCell hK _).setCell hK _
def G9(s:aY)(hs:s=⟨#[42]⟩\/s=⟨#[45]⟩\/s=⟨#[47]⟩\/s=⟨#[61]⟩\/s=⟨#[62]⟩)(m n:Int)(hm:tN m)(hn:tN n)(a b:fx)(c d:Nat)(w:ax):
 xG 372 #[s, .agg #[xI 1,m,"",xL a 0 c], .agg #[xI 1,n,"",xL b 0 d]] w jH:=by
 have cI:=ag (Bx.gj w (ej 1 m () (xL a 0 c)) (ej 1 n () (xL b 0 d)) (ej 0 0 () ()));have ni:=ag (Bx.gj w (ej 1 m () (xL a 0 c)) (ej 1 (-n) () (xL b 0 d)) (ej 0 0 () ()));have HP:=ag (DV m n hm hn);have HQ:=ag (BO m n hm hn);have HH:Hd (∀s:aY,s=⟨#[61]⟩\/s=⟨#[62]⟩->∀x W,xC 399 #[xS s,xI x] W (ON W)):=λs hs x W=>by
  rcases hs with rfl|rfl
  .exact Ap [61] (.inl rfl) x W
  .exact Ap [62] (.inr rfl) x W
 obtain⟨m1,m2⟩:=hm;obtain⟨n1,n2⟩:=hn;have qdo:(s=⟨#[61]⟩\/s=⟨#[62]⟩)\/s=⟨#[42]⟩\/s=⟨#[45]⟩\/s=⟨#[47]⟩:=by
  rcases hs with h|h|h|h|h
  .exact .inr (.inl h)
  .exact .inr (.inr (.inl h))
  .exact .inr (.inr (.inr h))
  .exact .inl (.inl h)
  .exact .inl (.inr h)
 rcases qdo with h|rfl|rfl|rfl
 .skip;rcases h with rfl|rfl;all_goals
   go_enter func372,ntmps372;go_wp2_with fail;refine(DU m n _ _ _ _ _).mono ?_;rintro e w1⟨x,rfl,hb1⟩;have bz:=ag (cI.o.ae hb1);go_wp2_with fail;refine(HH.o _ (by first|exact .inl rfl|exact .inr rfl) x _).mono ?_;rintro e w'⟨y,rfl,rfl⟩;cases y;all_goals
    go_wp2_with fail;refine(jI _ _).mono ?_;rintro e w2⟨_,rfl,⟨z,hz,rfl⟩,bE⟩;have bg:=ag (bz.o.ae bE);have HZ:=ag hz;have⟨c0,c1,c2,c3⟩:=af (bg.o.fB rfl);have⟨f0,f1,f2,f3⟩:=hZ (bg.o.fB rfl);unfold kK;go_wp2_with fail;refine Qae (v:=kK z) (by simp[results,results372,go_sem,kK,c0,c1,c2,c3]) rfl (show cm w jH _ _ from⟨_,rfl,⟨_,HZ.o,rfl⟩,?_⟩);exact dd bg.o.1 (by omega)
 .go_enter func372,ntmps372;go_wp2_with fail;refine(HP.o _).mono ?_;rintro e w'⟨x,rfl,rfl⟩;go_wp2_with fail;refine(jI _ _).mono ?_;rintro e w2⟨_,rfl,⟨z,hz,rfl⟩,bE⟩;have bg:=ag (cI.o.ae bE);have HZ:=ag hz;have⟨c0,c1,c2,c3⟩:=af (bg.o.fB rfl);have⟨f0,f1,f2,f3⟩:=hZ (bg.o.fB rfl);unfold kK;go_wp2_with fail;refine Qae (v:=kK z) (by simp[results,results372,go_sem,kK,c0,c1,c2,c3]) rfl (show cm w jH _ _ from⟨_,rfl,⟨_,HZ.o,rfl⟩,?_⟩);exact dd bg.o.1 (by omega)
 .go_enter func372,ntmps372;go_wp2_with fail;refine(jI _ _).mono ?_;rintro e w2⟨_,rfl,⟨z,hz,rfl⟩,bE⟩;have bg:=ag (ni.o.ae bE);have HZ:=ag hz;have⟨c0,c1,c2,c3⟩:=af (bg.o.fB rfl);have⟨f0,f1,f2,f3⟩:=hZ (bg.o.fB rfl);unfold kK;go_wp2_with fail;refine Qae (v:=kK z) (by simp[results,results372,go_sem,kK,c0,c1,c2,c3]) rfl (show cm w jH _ _ from⟨_,rfl,⟨_,HZ.o,rfl⟩,?_⟩);exact dd bg.o.1 (by omega)
 .go_enter func372,ntmps372;go_wp2_with fail;refine(HQ.o _).mono ?_;rintro e w'⟨x,rfl,rfl⟩;go_wp2_with fail;refine(jI _ _).mono ?_;rintro e w2⟨_,rfl,⟨z,hz,rfl⟩,bE⟩;have bg:=ag (cI.o.ae bE);have HZ:=ag hz;have⟨c0,c1,c2,c3⟩:=af (bg.o.fB rfl);have⟨f0,f1,f2,f3⟩:=hZ (bg.o.fB rfl);unfold kK;go_wp2_with fail;refine Qae (v:=kK z) (by simp[results,results372,go_sem,kK,c0,c1,c2,c3]) rfl (show cm w jH _ _ from⟨_,rfl,⟨_,HZ.o,rfl⟩,?_⟩);exact dd bg.o.1 (by omega)
def D1(s t:aY)(hs:gi s)(ht:gi t)(a b:fx)(c d:Nat)(w:ax):
 xG 372 #[xS ⟨#[38]⟩, .agg #[xI 2,xI 0,s,xL a 0 c], .agg #[xI 2,xI 0,t,xL b 0 d]] w fy:=by
 have cI:=ag (Bx.gj w (ej 2 0 s (xL a 0 c)) (ej 2 0 t (xL b 0 d)) (ej 0 0 () ()));have h1:=hs.1;have h2:=ht.1;have HT:Hd (∀u:aY,u.data.toList=s.data.toList++t.data.toList->∀W,xC 357 #[xS u] W (cm W fy)):=λu hu W=>rV u (by rw[hu];exact tI hs.2 ht.2) (by have:=congrArg List.length hu;rw[Qda,bG,bG,bG]at this;omega) W;go_enter func372,ntmps372;go_wp2_with fail;refine(HT.o _ (by simp) _).mono ?_;rintro e w2⟨_,rfl,⟨z,hz,rfl⟩,bE⟩;have bg:=ag (cI.o.ae bE);have HZ:=ag hz;have⟨c0,c1,c2,c3⟩:=af (bg.o.fB rfl);have⟨f0,f1,f2,f3⟩:=hZ (bg.o.fB rfl);unfold mM;go_wp2_with fail;refine Qae (v:=mM z) (by simp[results,results372,go_sem,mM,c0,c1,c2,c3]) rfl (show cm w fy _ _ from⟨_,rfl,⟨_,HZ.o,rfl⟩,?_⟩);exact dd bg.o.1 (by omega)
def xU(c:aI)(ay:Int)(e:aG)(t:br):Prop:=∀(M N:aV)(w:ax)(v:aA)(b bm:Nat)(vs:List aJ),Bd N w->cB M w v e->su N c vs b bm w->bA c.ah ay vs->Gd w->
 xC 328 #[xP b,v] w (cm w λu w'=>∃x,nA c t ay e vs x/\cB N w' u x)
def sy {ay:Int}{x:aJ}(h:dI ⟨1,0⟩ ay x):∃n,x= .mk 1 n ow []/\tN n:=by
 rcases h with⟨h,_⟩|⟨_,h⟩
 .simp at h
 .rcases h with⟨_,n,rfl,h1,h2⟩|⟨h,_⟩|⟨h,_⟩
  .exact⟨n,rfl,h1,h2⟩
  .simp at h
  .simp at h
def vV {ay:Int}{x:aJ}(h:dI ⟨2,0⟩ ay x):∃s,x= .mk 2 0 s []/\gi s:=by
 rcases h with⟨h,_⟩|⟨_,h⟩
 .simp at h
 .rcases h with⟨h,_⟩|⟨_,s,rfl,h1⟩|⟨h,_⟩
  .simp at h
  .exact⟨s,rfl,h1⟩
  .simp at h
def JF(ay n:Int)(h:tN n):dI ⟨1,0⟩ ay (.mk 1 n ow []):= .inr ⟨by simp, .inl ⟨rfl,n,rfl,h.1,h.2⟩⟩
def JG(ay:Int)(s:aY)(h:gi s):dI ⟨2,0⟩ ay (.mk 2 0 s []):= .inr ⟨by simp, .inr (.inl ⟨rfl,s,rfl,h⟩)⟩
def D2(h:gi s):s.size<=maxLen:=by have:=h.1;unfold maxLen;omega
def RT {c:aI}{ay:Int}{e:aG}{vs:List aJ}{N:aV}{w:ax}(he:e.an≠3)(h:jH v w):∃x,nA c ⟨1,0⟩ ay e vs x/\cB N w' v x:=by
 obtain⟨n,hn,rfl⟩:=h;exact⟨_,⟨JF ay n hn,λh=>absurd h he⟩,oK 1 n ow jQ⟩
def OR {c:aI}{ay:Int}{e:aG}{vs:List aJ}{N:aV}{w:ax}(he:e.an≠3)(h:fy v w):∃x,nA c ⟨2,0⟩ ay e vs x/\cB N w' v x:=by
 obtain⟨s,hs,rfl⟩:=h;exact⟨_,⟨JG ay s hs,λh=>absurd h he⟩,oK 2 0 s (D2 hs)⟩
def j8 {w:ax}(h:fR w bm):
 (∃v,∀W,W.heap[bm]? =w.heap[bm]?->(Instr.lookup 402 (.map (some bm)) (xS ⟨#[108,101,110]⟩) false).run prog W= .ok (gS v 353) W)/\
 (∃v,∀W,W.heap[bm]? =w.heap[bm]?->(Instr.lookup 402 (.map (some bm)) (xS ⟨#[108,101,102,116]⟩) false).run prog W= .ok (gS v 356) W)/\
 (∃v,∀W,W.heap[bm]? =w.heap[bm]?->(Instr.lookup 402 (.map (some bm)) (xS ⟨#[102,114,111,109]⟩) false).run prog W= .ok (gS v 360) W)/\
 (∃v,∀W,W.heap[bm]? =w.heap[bm]?->(Instr.lookup 402 (.map (some bm)) (xS ⟨#[102,105,110,100]⟩) false).run prog W= .ok (gS v 361) W)/\
 (∃v,∀W,W.heap[bm]? =w.heap[bm]?->(Instr.lookup 402 (.map (some bm)) (xS ⟨#[116,101,120,116]⟩) false).run prog W= .ok (gS v 363) W):=by
 obtain⟨es,clk,h0,⟨v1,a1,t1⟩,⟨v2,a2,t2⟩,⟨v3,a3,t3⟩,⟨v4,a4,t4⟩,⟨v5,a5,t5⟩,h6⟩:=h;exact⟨⟨v1,λW hW=>fC (hW.trans h0) _ _ a1⟩,⟨v2,λW hW=>fC (hW.trans h0) _ _ a2⟩,⟨v3,λW hW=>fC (hW.trans h0) _ _ a3⟩,⟨v4,λW hW=>fC (hW.trans h0) _ _ a4⟩,⟨v5,λW hW=>fC (hW.trans h0) _ _ a5⟩⟩
inductive nY(c:aI):Int->Int->aY->List br->br->Prop
 |num(n:Int)(s:aY):nY c 1 n s [] ⟨1,0⟩
 |txt(n:Int)(s:aY):iP s.data.toList->s.size<=100->nY c 2 n s [] ⟨2,0⟩
 |fld(n:Int)(f:aH)(i:Nat):fieldAt c f.ai=i->c.ah[i]? =some f->nY c 3 n f.ai [] f.type
 |ari(n:Int)(s:aY):s=⟨#[42]⟩\/s=⟨#[45]⟩\/s=⟨#[47]⟩\/s=⟨#[61]⟩\/s=⟨#[62]⟩->nY c 4 n s [⟨1,0⟩,⟨1,0⟩] ⟨1,0⟩
 |cat(n:Int):nY c 4 n ⟨#[38]⟩ [⟨2,0⟩,⟨2,0⟩] ⟨2,0⟩
 |len(n:Int):nY c 6 n ⟨#[108,101,110]⟩ [⟨2,0⟩] ⟨1,0⟩
 |left(n:Int):nY c 6 n ⟨#[108,101,102,116]⟩ [⟨2,0⟩,⟨1,0⟩] ⟨2,0⟩
 |from_(n:Int):nY c 6 n ⟨#[102,114,111,109]⟩ [⟨2,0⟩,⟨1,0⟩] ⟨2,0⟩
 |find(n:Int):nY c 6 n ⟨#[102,105,110,100]⟩ [⟨2,0⟩,⟨2,0⟩] ⟨1,0⟩
 |text(n:Int):nY c 6 n ⟨#[116,101,120,116]⟩ [⟨1,0⟩] ⟨2,0⟩
 |ite(n p:Int):p=1\/p=2->nY c 6 n ⟨#[105,102]⟩ [⟨1,0⟩,⟨p,0⟩,⟨p,0⟩] ⟨p,0⟩
def qb5 {α:Type}{l:List α}(h:l.length=1):∃a,l=[a]:=List.length_eq_one_iff.1 h
def qb6 {α:Type}{l:List α}(h:l.length=2):∃a b,l=[a,b]:=by
 match l,h with
 |[a,b],_=>exact⟨a,b,rfl⟩
def qb7 {α:Type}{l:List α}(h:l.length=3):∃a b c,l=[a,b,c]:=by
 match l,h with
 |[a,b,c],_=>exact⟨a,b,c,rfl⟩
def M8(N:aV)(R:Nat)(m:Nat)(ay:Int)(ts:List br)(i:Nat)(wr:ax):Prop:=
 ∃xs:List aJ,xs.length=i/\(∀(j:Nat)(x:aJ)(u:br),xs[j]? =some x->ts[j]? =some u->dI u ay x)/\dN N R 44 wr m xs
theorem M8.ae {N:aV}{R:Nat}{ay:Int}{ts:List br}{w:ax}(h:M8 N R m ay ts i w)(hb:aC w w'):M8 N R m ay ts i w':=by
 obtain⟨xs,h1,h2,h3⟩:=h;exact⟨xs,h1,h2,h3.ae hb⟩
theorem M8.lt {N:aV}{R:Nat}{ay:Int}{ts:List br}{w:ax}(h:M8 N R m ay ts i w):R<w:=by
 obtain⟨xs,h1,h2,h3⟩:=h;exact h3.lt
theorem M8.cell {N:aV}{R:Nat}{ay:Int}{ts:List br}{w:ax}(h:M8 N R m ay ts i w)(hj:j<m*4):∃v,bJ w R j v/\w.frozen? (R,j)=false:=by
 obtain⟨xs,h1,h2,h3⟩:=h;exact h3.cell (j:=j) hj
theorem M8.step {N:aV}{R:Nat}{ay:Int}{ts:List br}{w:ax}(h:M8 N R m ay ts i w)(hi:i<m){u:br}(hu:ts[i]? =some u){x:aJ}(hx:dI u ay x){a b c d:aA}(hr:aD.rep (orM N R) w [a,b,c,d] x):
 M8 N R m ay ts (i+1) ((((w.setCell (R,i*4) a).setCell (R,i*4+1) b).setCell (R,i*4+2) c).setCell (R,i*4+3) d):=by
 obtain⟨xs,h1,h2,h3⟩:=h;refine⟨xs++[x],by simp[h1],λj y v hy hv=> ?_,h3.BD rfl h1 hi hr⟩;by_cases hj:j<xs.length
 .rw[Qbc hj]at hy;exact h2 j y v hy hv
 .rw[Qbd (by omega)]at hy;have h0:j-xs.length=0:=by
   cases hq:j-xs.length with
   |zero=>rfl
   |succ q=>rw[hq]at hy;simp at hy
  rw[h0]at hy;simp at hy;subst hy;have:j=i:=by omega
  subst this;rw[hu]at hv;cases hv;exact hx
theorem su.or {N:aV}{c:aI}{vs:List aJ}{R:Nat}{w:ax}(h:su N c vs b bm w)(k:aC w w')(hR:w<=R):su (orM N R) c vs b bm w':=by
 obtain⟨⟨fa,fc,vv,h1,h2,h3⟩,h4⟩:=h;have E:Ev N w (orM N R) w':=⟨ao.az k,λi hi=>hi.imp_right λe=>by rw[e];exact hR⟩;exact⟨⟨fa,fc,vv,(k.block b (Qaa.1 h1).1).trans h1,h2.ev E,h3.ev E⟩,h4.ae k⟩
def sA {N:aV}{w:ax}{k n:Int}{a:aA}(h:cB N w a (aJ.mk k n s l)):s.size<=maxLen:=by
 obtain⟨cs,_,h⟩:=h;have⟨_,_,_,h⟩:=eU.iff.1 h;exact h
def D3 {w:ax}{c:Nat}(h:ab M w (xL a 0 c) ([]:List aJ)):ab M' w' (xL a 0 c) ([]:List aJ):=by
 obtain⟨css,⟨h1,a',c',h2,h3,h4,h5⟩,h6,h7⟩:=h;cases h2;exact⟨[],⟨rfl,a,c,rfl,h3,h4,λh=>absurd h (by simp)⟩,rfl,λi cs x h=>by simp at h⟩
def OS {p ay:Int}(hp:p=1\/p=2){w:ax}{k n:Int}(h:dI ⟨p,0⟩ ay (.mk k n s l)){c:Nat}(hs:ab M w (xL a l.length c) l)(hz:s.size<=maxLen):cB M' w' (.agg #[k,n,s,xL a l.length c]) (aJ.mk k n s l):=by
 have e:l=[]:=by
  rcases hp with rfl|rfl
  .have⟨_,h,_⟩:=sy h;cases h;rfl
  .have⟨_,h,_⟩:=vV h;cases h;rfl
 subst e;exact⟨_,rfl,eU.iff.2 ⟨_,rfl,D3 hs,hz⟩⟩
def WF(c:aI)(t:br)(ay:Int)(e:aG)(vs:List aJ)(u:aA)(_:ax):Prop:=∃(k n:Int)(s:aY)(a:fx)(g:Nat)(x:aJ),u= .agg #[k,n,s,xL a 0 g]/\nA c t ay e vs x/\∀N w',cB N w' u x
section
variable {c:aI}{ay:Int}{e:aG}{vs:List aJ}{w0 w wr:ax}{f:Nat}{args:Array aA}{N:aV}{R:Nat}
def Ha(he:e.an≠3)(h:xC f args w (cm w0 jH)):xC f args w (cm w0 (WF c ⟨1,0⟩ ay e vs)):=h.mono (by
 rintro _ w'⟨_,rfl,⟨n,hn,rfl⟩,hb⟩;exact⟨_,rfl,⟨_,_,_,_,_,_,rfl,⟨JF ay n hn,λh=>absurd h he⟩,λN w'=>oK 1 n ow jQ⟩,hb⟩)
def BP(he:e.an≠3)(h:xC f args w (cm w0 fy)):xC f args w (cm w0 (WF c ⟨2,0⟩ ay e vs)):=h.mono (by
 rintro _ w'⟨_,rfl,⟨s,hs,rfl⟩,hb⟩;exact⟨_,rfl,⟨_,_,_,_,_,_,rfl,⟨JG ay s hs,λh=>absurd h he⟩,λN w'=>oK 2 0 s (D2 hs)⟩,hb⟩)
def UT {k0 n0 k1 n1:Int}{s0:aY}(h:ab N wr (xL (R,0) 2 2) [aJ.mk k0 n0 s0 [],aJ.mk k1 n1 s1 []]):∃a0 g0 a1 g1,(bJ wr R 0 k0/\bJ wr R 1 n0/\bJ wr R 2 s0/\bJ wr R 3 (xL a0 0 g0))/\bJ wr R 4 k1/\bJ wr R 5 n1/\bJ wr R 6 s1/\bJ wr R 7 (xL a1 0 g1):=by
 have⟨bp,op,cp,a0,g0,hv0,_,_,hc0⟩:=je h (i:=0) rfl;have⟨bp',op',cp',a1,g1,hv1,_,_,hc1⟩:=je h (i:=1) rfl;simp only[Value.slice.injEq,Qcf,Addr.mk.injEq]at hv0 hv1;obtain⟨⟨rfl,rfl,-⟩,-⟩:=hv0;obtain⟨⟨rfl,rfl,-⟩,-⟩:=hv1;have q:=(hc0 wr dS).1;have r:=(hc1 wr dS).1;simp only[Nat.zero_mul,Nat.one_mul,Nat.add_zero,Nat.zero_add,Qcd]at q r;exact⟨a0,g0,a1,g1,q,r⟩
end
set_option maxHeartbeats 16000000 in
theorem ey(c:aI)(hcn:c.ai.size<=maxLen)(ay:Int)(k n:Int)(s:aY)(l:List aG)(ts:List br)(t:br)(Q3:ts.length<=3)(Qy:l.length=ts.length)(Qz:∀(i:Nat)(x:aG)(u:br),l[i]? =some x->ts[i]? =some u->xU c ay x u)(Fp:nY c k n s ts t):xU c ay (.mk k n s l) t:=by
 intro M N w v b bm vs hN hag hsc hvs hg;obtain⟨cs,rfl,hrep⟩:=hag;obtain⟨lv,rfl,hsl,hss⟩:=cO.iff.1 hrep;have⟨i0,hi0,hz0,hz1,hz2⟩:=info_parts ie;have HN:=ag hN;have HG:=ag hg;have yS:=ag hvs;have CM:Hd (∀W,aC w W->su N c vs b bm W):=λW hb=>hsc.ae hb;have HK:Hd (∀(i:Nat)(k n:Int)(s:aY)(ll:List aG),l[i]? =some (aG.mk k n s ll)->_):=λi k n s ll hx=>JE hsl hx;have bI:Hd (∀(i:Nat)(x:aG)(u:br)(W:ax)(v:aA),l[i]? =some x->ts[i]? =some u->aC w W->w.heap.size+1+1<W->cB M W v x->_):=λi x u W v h1 h2 h3 h5 h4=>Qz i x u h1 h2 M (orM N [w,w]) W v b bm vs (λj hj=>by rcases hj with hj|rfl;(have:=hN j hj;have:=h3.size;omega);exact h5) h4 (hsc.or h3 (by omega)) hvs (hg.ae h3);have Qw:b<w:=by
  obtain⟨⟨fa,fc,vv,h1,_⟩,_⟩:=hsc;exact(Qaa.1 h1).1
 have SV:bm<w:=by
  obtain⟨_,es,clk,h0,_⟩:=hsc;exact(Qaa.1 h0).1
 have SR:=ag Fp;obtain⟨la,lc,rfl,hlc,hlm,_⟩:=hsl.aq;generalize hnn:ts.length=m at*;have eJ:=ag Qy;rw[Qy]at hlc HK⊢;have⟨cur,hmk,hcs⟩:=mN (P:=prog) ((w.alloc (DZ k n s (.slice la m lc))).alloc (ej 0 0 () (.slice none 0 0))) 42 44 i0 _ underlying42 hi0 hz0 m (by omega) (by omega);have zG:=ag hnn;clear hsc hrep hsl Qz Fp Qy hnn hN hg hvs;have iW:Hd (Bx w [DZ k n s (xL la m lc),ej 0 0 () ()] (((w.alloc (DZ k n s (xL la m lc))).alloc (ej 0 0 () ())).alloc (.cells cur 44))):=(Bx.du w _ _).alloc _;have IZ:Hd (M8 N [w,w] m ay ts 0 (((w.alloc (DZ k n s (xL la m lc))).alloc (ej 0 0 () ())).alloc (.cells cur 44))):=⟨[],rfl,λj x u h=>by simp at h,dN.made cur ((Bx.gj w _ _ _).fB rfl) (by rw[hcs,hz1];rfl)⟩;clear hcs;rw[show((w.alloc (DZ k n s (xL la m lc))).alloc (ej 0 0 () ())).heap.size=[w,w]from by simp]at hmk;unfold DZ ej at hmk iW IZ;go_enter func328,ntmps328;go_wp2;go_loopg [6,7,17]m(λg _ _ iv wr=>∃i:Nat,i<=m/\g=m-i/\iv=xI i/\Hd (Bx w [DZ k n s (xL la m lc),ej 0 0 () ()] wr)/\Hd (M8 N [w,w] m ay ts i wr));case atStart=>exact⟨0,Qbf _,rfl,rfl,iW,IZ⟩
 case round=>
  obtain⟨i,hi,rfl,rfl,HB,HA⟩:=hrel;have hsz:=HB.o.bQ;simp only[Qcc,Qcd]at hsz;have Wk:w.heap.size+1+1<wr:=HA.o.lt;by_cases bH:i<m
  .have⟨⟨xk,xn,xs,xl⟩,hx⟩:=eG l i (by rw[eJ.o];exact bH);have⟨u,hu⟩:=eG ts i (by rw[zG.o];exact bH);have⟨bk,off,cap,xa,xc,hv,hbk,hcells⟩:=HK.o i _ _ _ _ hx;obtain⟨rfl,rfl⟩:=iY hv;have⟨⟨q0,q1,q2,q3⟩,_⟩:=hcells wr HB.o.1;have lM:=ag (λo=>bI.o i _ _ (wr.alloc o) _ hx hu (HB.o.1.alloc HB.o.1.size o) (by simp;omega) (hcells (wr.alloc o) (HB.o.1.alloc HB.o.1.size o)).2);have HU:=ag hu;clear hv hcells hx hu;go_wp2_with fail;refine(lM.o _).mono ?_;rintro e w1⟨_,rfl,⟨⟨yk,yn,ys,yl⟩,hy,hya⟩,hb1⟩;obtain⟨ua,uc,rfl,FP⟩:=dh hya;have bz:=ag (HB.o.ae (bt hb1));have mz:=ag (HA.o.ae (bt hb1));have HY:=ag hy;have HYA:=ag (show aD.rep (α:=aJ) (orM N [w,w]) w1 [xI yk,xI yn,xS ys,xL ua yl.length uc] (.mk yk yn ys yl)by
    obtain⟨cs,hc,hr⟩:=hya;have A7:=congrArg (λv:aA=>match v with| .agg a=>a.toList|_=>[]) hc;simp at A7;rw[A7];exact hr);have qdn:=mz.o.lt;clear hb1 hy hya FP;have XJ:i*4+3<m*4:=by omega
   have⟨u0,p0,f0⟩:=mz.o.cell (j:=i*4) (by omega);have⟨u1,p1,f1⟩:=mz.o.cell (j:=i*4+1) (by omega);have⟨u2,p2,f2⟩:=mz.o.cell (j:=i*4+2) (by omega);have⟨u3,p3,f3⟩:=mz.o.cell (j:=i*4+3) (by omega);go_wp2;go_roundg(m-(i+1));case measure=>omega
   case rel=>
    refine⟨i+1,by omega,rfl,by go_num,?_,?_⟩
    .exact((bz.o.dG (B:=w.heap.size+2) ((((dS.setCell (by simp) _).setCell (by simp) _).setCell (by simp) _).setCell (by simp) _) (by simp)))
    .exact(mz.o.step bH HU.o HY.o.1 HYA.o)
  .have sY:=ag (show∃xs:List aJ,xs.length=m/\(∀(j:Nat)(x:aJ)(u:br),xs[j]? =some x->ts[j]? =some u->dI u ay x)/\ab N wr (xL (some ⟨[w,w],0,none⟩) m m) xs by
    have⟨xs,h1,h2,h3⟩:=HA.o;obtain rfl:i=m:=by omega
    exact⟨xs,h1,h2,h3.slice h1 (λh=>by have:=HN.o _ h;omega) (by unfold maxLen;omega)⟩);have⟨e0,e1,e2,e3⟩:=af (HB.o.bO rfl);have⟨c0,c1,c2,c3⟩:=af (HB.o.cg rfl);have⟨f0,f1,f2,f3⟩:=hZ (HB.o.cg rfl);clear HA;cases SR.o with
   |num n s=>
    go_wp2_with fail;refine(jI _ _).mono ?_;rintro e w2⟨_,rfl,⟨z,hz,rfl⟩,bE⟩;have bg:=ag (HB.o.ae bE);have HZ:=ag hz;clear bE hz;have⟨c0,c1,c2,c3⟩:=af (bg.o.cg rfl);have⟨f0,f1,f2,f3⟩:=hZ (bg.o.cg rfl);unfold kK;go_wp2_with fail;refine Qae (v:=kK z) (by simp[results,results328,go_sem,kK,c0,c1,c2,c3]) rfl ⟨_,rfl,RT (w:=w2) (by simp[aG.an]) ⟨_,HZ.o,rfl⟩,?_⟩;exact dd bg.o.1 (by omega)
   |txt n s hs1 hs2=>
    go_wp2_with fail;refine(rV s hs1 (by omega) _).mono ?_;rintro e w2⟨_,rfl,⟨z,hz,rfl⟩,bE⟩;have bg:=ag (HB.o.ae bE);have HZ:=ag hz;clear bE hz;have⟨c0,c1,c2,c3⟩:=af (bg.o.cg rfl);have⟨f0,f1,f2,f3⟩:=hZ (bg.o.cg rfl);unfold mM;go_wp2_with fail;refine Qae (v:=mM z) (by simp[results,results328,go_sem,mM,c0,c1,c2,c3]) rfl ⟨_,rfl,OR (w:=w2) (by simp[aG.an]) ⟨_,HZ.o,rfl⟩,?_⟩;exact dd bg.o.1 (by omega)
   |fld n f i Q7 MV=>
    have⟨⟨fa,fc,vv,hbx,hfs,hvv⟩,_⟩:=CM.o w dS;have cI:Hd (∀W,aC w W->bW W b (xK #[c.ai,xL fa c.ah.length fc,vv, .map (some bm)] 405)):=λW hb=>(hb.block b Qw).trans hbx;have CI:Hd (∀W,aC w W->xC 107 #[.agg #[c.ai,xL fa c.ah.length fc],f.ai] W (cu (.tuple #[xI (i:Int),true]) W)):=λW hb=>mC N _ W c f.ai i true (hfs.ae hb) hcn (by rw[Q7];rw[if_neg (by omega)]) (by rw[Q7];simp);have⟨⟨xk,xn,xs,xl⟩,hx⟩:=eG vs i (by rw[yS.o.1];exact(Qad.1 MV).1);obtain⟨bf,of,cf,xa,xc,rfl,vZ,hbf,hcv⟩:=je hvv hx;have HCV:=ag hcv;have qad:=ag (hcv w dS).2;have CD:Hd (xs.size<=maxLen):=(sA qad.o);have XQ:Hd (dI f.type ay (.mk xk xn xs xl)):=yS.o.2 i f _ MV hx;have SX:=ag (show vs[(fieldAt c f.ai).toNat]? =some (.mk xk xn xs xl)by rw[Q7];simpa using hx);have MO:Hd (Dg 371 (.mk xk xn xs xl)):=rW 1 _ (nB XQ.o);have⟨b0,b1,b2,b3⟩:=af (cI.o wr HB.o.1);clear hbx hfs hvv Q7 MV hx hcv;go_upto_region 11 with fail;go_region_law(first
     |(go_simp;go_at_call 107;refine cC (CI.o _ HB.o.1.drew) λw2 bE=> ?_;have bg:=ag (HB.o.drew.ae bE);clear bE));all_goals
     have⟨b0,b1,b2,b3⟩:=af (cI.o w2 bg.o.1);have⟨⟨q0,q1,q2,q3⟩,hag⟩:=HCV.o w2 bg.o.1;have J5:=ag (MO.o (dX N w 2) w2 _ (dt HN.o bg.o.bQ) (qad.o.ev (dj bg.o.1)));clear hag;go_wp2_with fail;refine(J5.o).mono ?_;rintro e w3⟨_,rfl,hy,hb3⟩;obtain⟨ua,uc,rfl,FP⟩:=dh hy;have bV:=ag (bg.o.ae hb3);have HY:=ag FP;clear hb3 hy FP;have⟨c0,c1,c2,c3⟩:=af (bV.o.cg rfl);have⟨f0,f1,f2,f3⟩:=hZ (bV.o.cg rfl);go_wp2_with fail;refine Qae (v:= .agg #[xk,xn,xs,xL ua xl.length uc]) (by simp[results,results328,go_sem,c0,c1,c2,c3]) rfl ⟨_,rfl,⟨.mk xk xn xs xl,⟨XQ.o,λ_=>SX.o⟩,?_⟩,?_⟩
     .exact⟨_,rfl,kI (HY.o.ev ((((((eK w3).setCell (.inl (.inr ⟨by simp,by simp⟩)) _).setCell (.inl (.inr ⟨by simp,by simp⟩)) _).setCell (.inl (.inr ⟨by simp,by simp⟩)) _).setCell (.inl (.inr ⟨by simp,by simp⟩)) _))) CD.o⟩
     .exact dd bV.o.1 (by omega)
   |ari n s hs=> ?ari
   |cat n=> ?cat
   |len n=> ?len
   |left n=> ?left
   |from_ n=> ?from_
   |find n=> ?find
   |text n=> ?text
   |ite n p hp=> ?ite;all_goals
    have⟨xs,hxl,hxv,hxs⟩:=sY.o;obtain⟨⟨fa,fc,vv,hbx,-,-⟩,hca⟩:=CM.o wr HB.o.1;have⟨b0,b1,b2,b3⟩:=af hbx;have hi0:(0:Int)<2:=by omega
    have hi1:(1:Int)<2:=by omega
    have hfd:∀(v u:aA)(w:ax),(Instr.field 425 (.agg #[v,u]) 1).run prog w= .ok u w:=λ_ _ _=>by kernel_rfl
    have IM:aC wr wr.drew:=⟨rfl,rfl,rfl,bT,λ_ _=>rfl⟩;have hgd:=HG.o.ae HB.o.1.drew
   case' ari|cat|left|from_|find=>
    obtain rfl:m=2:=by simpa using zG.o.symm
    obtain⟨x0,x1,rfl⟩:=qb6 hxl
   case' len|text=>
    obtain rfl:m=1:=by simpa using zG.o.symm
    obtain⟨x0,rfl⟩:=qb5 hxl
   case' ari|text=>
    obtain⟨z0,rfl,hz0⟩:=sy (hxv 0 _ _ rfl rfl)
   case' cat|left|from_|find|len=>
    obtain⟨z0,rfl,hz0⟩:=vV (hxv 0 _ _ rfl rfl)
   case' ari|left|from_=>
    obtain⟨z1,rfl,hz1⟩:=sy (hxv 1 _ _ rfl rfl)
   case' cat|find=>
    obtain⟨z1,rfl,hz1⟩:=vV (hxv 1 _ _ rfl rfl)
   case' ari|cat=>
    have⟨a0,g0,a1,g1,⟨q0,q1,q2,q3⟩,r0,r1,r2,r3⟩:=UT hxs
   case' ari=>
    unfold ow at q2 r2;have Kb:=ag (Ha (c:=c) (ay:=ay) (e:= .mk 4 n s l) (vs:=vs) (by simp[aG.an]) (G9 s hs z0 z1 hz0 hz1 a0 a1 g0 g1 wr.drew));clear hs hbx hca hxs hxv hxl IM hgd;go_upto_region 14 with fail
   case' cat=>
    have Kb:=ag (BP (c:=c) (ay:=ay) (e:= .mk 4 n ⟨#[38]⟩ l) (vs:=vs) (by simp[aG.an]) (D1 z0 z1 hz0 hz1 a0 a1 g0 g1 wr.drew));clear hbx hca hxs hxv hxl IM hgd;go_upto_region 14 with fail
   case' len=>
    have Kb:=ag (Ha (c:=c) (ay:=ay) (e:= .mk 6 n ⟨#[108,101,110]⟩ l) (vs:=vs) (by simp[aG.an]) (RL (hxs.ae IM) 2 0 z0 [] rfl hz0));have⟨v,pM⟩:=(j8 hca).1
   case' left=>
    have Kb:=ag (BP (c:=c) (ay:=ay) (e:= .mk 6 n ⟨#[108,101,102,116]⟩ l) (vs:=vs) (by simp[aG.an]) (Oq (hxs.ae IM) 2 0 z0 [] rfl 1 z1 ow [] rfl hz0));have⟨v,pM⟩:=(j8 hca).2.1
   case' from_=>
    have Kb:=ag (BP (c:=c) (ay:=ay) (e:= .mk 6 n ⟨#[102,114,111,109]⟩ l) (vs:=vs) (by simp[aG.an]) (Ot (hxs.ae IM) 2 0 z0 [] rfl 1 z1 ow [] rfl hz0));have⟨v,pM⟩:=(j8 hca).2.2.1
   case' find=>
    have Kb:=ag (Ha (c:=c) (ay:=ay) (e:= .mk 6 n ⟨#[102,105,110,100]⟩ l) (vs:=vs) (by simp[aG.an]) (Ou (hxs.ae IM) 2 0 z0 [] rfl 2 0 z1 [] rfl hz0 hgd));have⟨v,pM⟩:=(j8 hca).2.2.2.1
   case' text=>
    have Kb:=ag (BP (c:=c) (ay:=ay) (e:= .mk 6 n ⟨#[116,101,120,116]⟩ l) (vs:=vs) (by simp[aG.an]) (Ov (hxs.ae IM) 1 z0 ow [] rfl hz0 hgd));have⟨v,pM⟩:=(j8 hca).2.2.2.2
   case' ite=>
    obtain rfl:m=3:=by simpa using zG.o.symm
    obtain⟨x0,x1,x2,rfl⟩:=qb7 hxl;obtain⟨z0,rfl,hz0⟩:=sy (hxv 0 _ _ rfl rfl);have hvo:dI ⟨p,0⟩ ay (if z0=0 then x2 else x1):=by
     split
     .exact hxv 2 _ _ rfl rfl
     .exact hxv 1 _ _ rfl rfl
    have Kb:Hd (xC 367 _ wr.drew (cm wr.drew (WF c ⟨p,0⟩ ay (.mk 6 n ⟨#[105,102]⟩ l) vs))):=(UO (hxs.ae IM) 1 z0 ow [] rfl x1 x2 rfl rfl).mono (by
     rintro _ w'⟨u,rfl,hu,hb⟩;generalize(if z0=0 then x2 else x1)=x at*;obtain⟨yk,yn,ys,yl⟩:=x;obtain⟨ua,uc,rfl,FP⟩:=dh hu;have e:yl=[]:=by
      rcases hp with rfl|rfl
      .have⟨_,h,_⟩:=sy hvo;cases h;rfl
      .have⟨_,h,_⟩:=vV hvo;cases h;rfl
     subst e;exact⟨_,rfl,⟨_,_,_,_,_,_,rfl,⟨hvo,λh=>by simp[aG.an]at h⟩,λN w'=>OS hp hvo FP (sA hu)⟩,hb⟩);have pM:=JD hca
   case' len|left|from_|find|text|ite=>
    have QA:=pM wr.drew rfl;clear pM hbx hca hxs hxv hxl IM hgd;unfold gS at QA;go_upto_region 18 with fail
   all_goals
    go_region_law(first
     |(go_simp;first|go_at_call 372|go_at_call 353|go_at_call 356|go_at_call 360|go_at_call 361|go_at_call 363|go_at_call 367
       refine(Kb.o).mono ?_;rintro e w2⟨_,rfl,⟨yk,yn,ys,ya,yc,x,rfl,hx⟩,bE⟩;have bg:=ag (HB.o.drew.ae bE);have HX:=ag hx;clear bE hx;have c0:=(af (bg.o.cg rfl)).1;have c1:=(af (bg.o.cg rfl)).2.1;have c2:=(af (bg.o.cg rfl)).2.2.1;have c3:=(af (bg.o.cg rfl)).2.2.2;have⟨f0,f1⟩:=mu (bg.o.cg rfl);have f2:=aj (bg.o.cg rfl) 2;have f3:=aj (bg.o.cg rfl) 3))
   all_goals
    go_wp2_with fail;exact Qae (v:= .agg #[yk,yn,ys,xL ya 0 yc]) (by simp[results,results328,go_sem,c0,c1,c2,c3]) rfl ⟨_,rfl,⟨x,HX.o.1,HX.o.2 _ _⟩,dd bg.o.1 (by omega)⟩
def gJ {l:List aG}{ts:List br}(h:∀p∈l.zip ts,sw c p.1 p.2):∀(i:Nat)(x:aG)(u:br),l[i]? =some x->ts[i]? =some u->sw c x u:=by
 intro i x u hx hu;refine h (x,u) (Qaf (i:=i) ?_);rw[List.getElem?_zip_eq_some];exact⟨hx,hu⟩
def fS {l:List aG}{ts:List br}(h:∀p∈l.zip ts,xU c ay p.1 p.2):∀(i:Nat)(x:aG)(u:br),l[i]? =some x->ts[i]? =some u->xU c ay x u:=by
 intro i x u hx hu;refine h (x,u) (Qaf (i:=i) ?_);rw[List.getElem?_zip_eq_some];exact⟨hx,hu⟩
def Lw(hcn:c.ai.size<=maxLen){e:aG}{t:br}(h:lH c e t):sw c e t:=by
 induction h with
 |num n h1 h2=>exact dV c hcn _ _ _ [] [] _ (by decide) rfl (λi x u h=>by simp at h) (.num _)
 |txt s hs=>exact dV c hcn _ _ _ [] [] _ (by decide) rfl (λi x u h=>by simp at h) (.txt _)
 |fld f i h1 h2=>exact dV c hcn _ _ _ [] [] _ (by decide) rfl (λi x u h=>by simp at h) (.fld f i h1 h2)
 |ari s a b hs _ _ h1 h2=>exact dV c hcn _ _ _ [a,b] [⟨1,0⟩,⟨1,0⟩] _ (by decide) rfl (gJ (by simp;exact⟨h1,h2⟩)) (.ari _ (by rcases hs with rfl|rfl|rfl;exact .inl rfl;exact .inr (.inl rfl);exact .inr (.inr rfl)))
 |cat a b _ _ h1 h2=>exact dV c hcn _ _ _ [a,b] [⟨2,0⟩,⟨2,0⟩] _ (by decide) rfl (gJ (by simp;exact⟨h1,h2⟩)) .cat
 |cmp s a b hs _ _ h1 h2=>exact dV c hcn _ _ _ [a,b] [⟨1,0⟩,⟨1,0⟩] _ (by decide) rfl (gJ (by simp;exact⟨h1,h2⟩)) (.cmp _ (by rcases hs with rfl|rfl;exact .inl rfl;exact .inr rfl))
 |len a _ h1=>exact dV c hcn _ _ _ [a] [⟨2,0⟩] _ (by decide) rfl (gJ (by simp;exact h1)) (.call ⟨#[108,101,110]⟩ 1 [⟨2,0⟩] (by simp[j7]))
 |text a _ h1=>exact dV c hcn _ _ _ [a] [⟨1,0⟩] _ (by decide) rfl (gJ (by simp;exact h1)) (.call ⟨#[116,101,120,116]⟩ 2 [⟨1,0⟩] (by simp[j7]))
 |left a b _ _ h1 h2=>exact dV c hcn _ _ _ [a,b] [⟨2,0⟩,⟨1,0⟩] _ (by decide) rfl (gJ (by simp;exact⟨h1,h2⟩)) (.call ⟨#[108,101,102,116]⟩ 2 [⟨2,0⟩,⟨1,0⟩] (by simp[j7]))
 |from_ a b _ _ h1 h2=>exact dV c hcn _ _ _ [a,b] [⟨2,0⟩,⟨1,0⟩] _ (by decide) rfl (gJ (by simp;exact⟨h1,h2⟩)) (.call ⟨#[102,114,111,109]⟩ 2 [⟨2,0⟩,⟨1,0⟩] (by simp[j7]))
 |find a b _ _ h1 h2=>exact dV c hcn _ _ _ [a,b] [⟨2,0⟩,⟨2,0⟩] _ (by decide) rfl (gJ (by simp;exact⟨h1,h2⟩)) (.call ⟨#[102,105,110,100]⟩ 1 [⟨2,0⟩,⟨2,0⟩] (by simp[j7]))
 |ite a b d p hp _ _ _ h1 h2 h3=>exact dV c hcn _ _ _ [a,b,d] [⟨1,0⟩,⟨p,0⟩,⟨p,0⟩] _ (by simp) rfl (gJ (by simp;exact⟨h1,h2,h3⟩)) (.ite p hp)
def RU:∀s∈([[120],[45],[98],[110,111],[97,32,98]]:List (List UInt8)),s.length<=100/\∀c∈s,32<=c/\c<127:=by decide
def OT(hcn:c.ai.size<=maxLen)(ay:Int){e:aG}{t:br}(h:lH c e t):xU c ay e t:=by
 induction h with
 |num n h1 h2=>exact ey c hcn ay _ _ _ [] [] _ (by decide) rfl (λi x u h=>by simp at h) (.num _ _)
 |txt s hs=>
  have⟨h1,h2⟩:=RU s hs;exact ey c hcn ay _ _ _ [] [] _ (by decide) rfl (λi x u h=>by simp at h) (.txt _ _ (oS _ (by simpa [bL]using h2)) (by simpa [bL,ByteArray.size]using h1))
 |fld f i h1 h2=>exact ey c hcn ay _ _ _ [] [] _ (by decide) rfl (λi x u h=>by simp at h) (.fld _ f i h1 h2)
 |ari s a b hs _ _ h1 h2=>exact ey c hcn ay _ _ _ [a,b] [⟨1,0⟩,⟨1,0⟩] _ (by decide) rfl (fS (by simp;exact⟨h1,h2⟩)) (.ari _ _ (by rcases hs with rfl|rfl|rfl;exact .inl rfl;exact .inr (.inl rfl);exact .inr (.inr (.inl rfl))))
 |cat a b _ _ h1 h2=>exact ey c hcn ay _ _ _ [a,b] [⟨2,0⟩,⟨2,0⟩] _ (by decide) rfl (fS (by simp;exact⟨h1,h2⟩)) (.cat _)
 |cmp s a b hs _ _ h1 h2=>exact ey c hcn ay _ _ _ [a,b] [⟨1,0⟩,⟨1,0⟩] _ (by decide) rfl (fS (by simp;exact⟨h1,h2⟩)) (.ari _ _ (by rcases hs with rfl|rfl;exact .inr (.inr (.inr (.inl rfl)));exact .inr (.inr (.inr (.inr rfl)))))
 |len a _ h1=>exact ey c hcn ay _ _ _ [a] [⟨2,0⟩] _ (by decide) rfl (fS (by simp;exact h1)) (.len _)
 |text a _ h1=>exact ey c hcn ay _ _ _ [a] [⟨1,0⟩] _ (by decide) rfl (fS (by simp;exact h1)) (.text _)
 |left a b _ _ h1 h2=>exact ey c hcn ay _ _ _ [a,b] [⟨2,0⟩,⟨1,0⟩] _ (by decide) rfl (fS (by simp;exact⟨h1,h2⟩)) (.left _)
 |from_ a b _ _ h1 h2=>exact ey c hcn ay _ _ _ [a,b] [⟨2,0⟩,⟨1,0⟩] _ (by decide) rfl (fS (by simp;exact⟨h1,h2⟩)) (.from_ _)
 |find a b _ _ h1 h2=>exact ey c hcn ay _ _ _ [a,b] [⟨2,0⟩,⟨2,0⟩] _ (by decide) rfl (fS (by simp;exact⟨h1,h2⟩)) (.find _)
 |ite a b d p hp _ _ _ h1 h2 h3=>exact ey c hcn ay _ _ _ [a,b,d] [⟨1,0⟩,⟨p,0⟩,⟨p,0⟩] _ (by simp) rfl (fS (by simp;exact⟨h1,h2,h3⟩)) (.ite _ p hp)
structure XOk(e:aG):Prop where
 nodes:iG e=true
 deep:kX e<=8
 size:eB e<=40
def scO(s:aY)(a b c:aA):Obj:=xK #[s,a,b,c] 405
def RV(w2:ax)(nm:aY)(fv vv:aA)(K bm:Nat)(wx:ax):Prop:=wx.heap[K]? =some (scO nm fv vv (.map (some bm)))/\fR wx bm/\aC w2 wx
def D4 {vv:aA}(hca:fR w' bm)(hj:aC w2 w'):RV w2 nm fv vv w' bm (w'.alloc (xK #[nm,fv,vv, .map (some bm)] 405)):=
 ⟨Qbh w' _,hca.ae bU,hj.alloc hj.size _⟩
def OU {vv:aA}{x0 x1 x2 x3:aA}(hca:fR w' bm)(hj:aC w2 w')(hk:w'.heap[K]? =some (xK #[x0,x1,x2,x3] 405)/\w2<=K)(hb:K<bm):
 RV w2 nm fv vv K bm ((((w'.setCell (K,0) nm).setCell (K,1) fv).setCell (K,2) vv).setCell (K,3) (.map (some bm))):=by
 have h1:=Qca _ K 0 _ _ nm hk.1;have h2:=Qca _ K 1 _ _ fv h1;have h3:=Qca _ K 2 _ _ vv h2;have h4:=Qca _ K 3 _ _ (.map (some bm)) h3;refine⟨by simpa [scO]using h4,hca.only (S:=λi=>i=K) ?_ (λi hi=>by rw[hi];exact hb),dd hj hk.2⟩;exact((((ao.refl (λi=>i=K) w').setCell (p:=⟨K,0,none⟩) (.inl rfl) _).setCell (p:=⟨K,1,none⟩) (.inl rfl) _).setCell (p:=⟨K,2,none⟩) (.inl rfl) _).setCell (p:=⟨K,3,none⟩) (.inl rfl) _
def Hb(h:Below B w W)(hK:B<=K)(hB:B<=W):Below B w (((W.setCell (K,0) a0).setCell (K,1) a1).alloc o):=by
 have h1:=(h.setCell (p:=⟨K,0,none⟩) hK a0).setCell (p:=⟨K,1,none⟩) hK a1;exact h1.alloc (by simpa [World.setCell]using hB) o
def zD(hb:Below (w2.alloc o).drew.heap.size (w2.alloc o).drew w'):w'.heap[w2.heap.size]? =some o/\w2.heap.size<=w2:=⟨(hb.block w2 (by show _<(w2.alloc o).heap.size;simp)).trans (Qbh w2 o),bT⟩
def jB(hb:Below w2.drew.heap.size w2.drew w'):aC w2 w':=(Qbg _ w2).drew.trans hb
def jD(hb:Below (w2.alloc o).drew.heap.size (w2.alloc o).drew w'):aC w2 w':=((Qbg _ w2).alloc bT o).drew.trans (hb.mono (by show w2.heap.size<=(w2.alloc o).heap.size;simp))
def bmD(h:(w2.alloc o).drew.heap.size<=bm):w2<bm:=by
 have:(w2.alloc o).heap.size<=bm:=h;simp at this;omega
def D5(c:aI)(hc:cN c)(e:aG)(t:br)(hx:XOk e)(ht:lH c e t)(M:aV)(w:ax)(v fv:aA)(hM:Bd M w)(hag:cB M w v e)(hfs:ab M w fv c.ah)(hT:Tb w):
 xC 287 #[v, .agg #[c.ai,fv]] w λε w'=>ε=xR (.tuple #[.agg #[t.an,t.of],xI 0])/\aC w w':=by
 have hcn:=cM hc.small;have HR:=gQ (w:=w) (λW hb=>Ao e hx.nodes hx.deep hx.size M W v (hM.ae hb) (hag.ae hb) (hT.ae hb));have HC:Hd (∀W,aC w W->xC 45 #[.agg #[c.ai,fv]] W (cu true W)):=λW hb=>by
  have h:=ff M fv W c (hfs.ae hb) hcn;rw[hc.right]at h;exact h
 have Wa:Hd (∀W b bm,aC w W->su M c [] b bm W->_):=λW b bm h1 h2=>Lw hcn ht M M W v b bm [] (hag.ae h1) h2;have iD:=ag hfs;obtain⟨cs,rfl,hrep⟩:=hag;obtain⟨k,n,s,l⟩:=e;obtain⟨lv,rfl,hsl,_⟩:=cO.iff.1 hrep;obtain⟨la,lc,rfl,_⟩:=hsl.aq;obtain⟨fa,fc,rfl,_⟩:=hfs.aq;clear hx ht hfs hrep hsl hT;go_enter func287,ntmps287;go_wp2_with fail;refine cC (HR.o _ (Bx.gj w _ _ _).1) λw1 hb1=> ?_;have bz:=ag ((Bx.gj w (DZ k n s (xL la l.length lc)) (cW c.ai (xL fa c.ah.length fc)) (FB 0 0)).ae hb1);have⟨a0,a1⟩:=ak (bz.o.cg rfl);clear hb1;go_wp2_with fail;refine cC (HC.o _ bz.o.1) λw2 bE=> ?_;have bg:=ag (bz.o.ae bE);have HS:Hd (∀W',aC w2 W'->W'.cell? ([w],0)=some (xS c.ai)/\W'.cell? ([w],1)=some (xL fa c.ah.length fc)):=λW' hb=>ak ((bg.o.ae hb).cg rfl);have⟨a0,a1⟩:=ak (bg.o.cg rfl);have HJ:Hd (aC w2 w2):=dS;clear bE;go_upto_region 5 with fail;go_cut [6](λs6 wx=>∃K bm:Nat,s6=xP K/\Hd (RV w2 c.ai (xL fa c.ah.length fc) () K bm wx));case first=>
  go_region_held3(λw'=>w'.cell? ([w],0)=some (xS c.ai)/\w'.cell? ([w],1)=some (xL fa c.ah.length fc))
   (with_reducible first|exact HS.o _ HJ.o|exact HS.o _ HJ.o.drew|exact HS.o _ (HJ.o.alloc HJ.o.size _)|exact HS.o _ ((HJ.o.alloc HJ.o.size _).drew)|exact HS.o _ (dd HJ.o HK.o.2))
   ((go_at_call 326;refine(DY _).mono ?_;rintro e w3⟨bm,rfl,hca,SV,hb3⟩;have J7:=ag hca;try(with_reducible(have I1:=ag (bmD SV)))
     try(with_reducible(have HK:=ag (zD hb3)))
     try with_reducible have k0:=(af HK.o.1).1
     try with_reducible have k1:=(af HK.o.1).2.1
     try with_reducible have k2:=(af HK.o.1).2.2.1
     try with_reducible have k3:=(af HK.o.1).2.2.2
     try with_reducible have y0:=aj HK.o.1 0
     try with_reducible have y1:=aj HK.o.1 1
     try with_reducible have y2:=aj HK.o.1 2
     try with_reducible have y3:=aj HK.o.1 3
     have HJ:Hd (aC w2 w3):=(by with_reducible first|exact ag (jB hb3)|exact ag (jD hb3));clear hb3 hca SV));all_goals(go_wp2;go_meet)
  all_goals
   refine⟨_,bm,rfl,?_⟩;first
    |with_reducible exact ag (D4 J7.o HJ.o)
    |with_reducible exact ag (OU J7.o HJ.o HK.o I1.o)
 case rest=>
  obtain⟨K,bm,rfl,HM⟩:=hcut;have⟨w3,hw3⟩:=bY (wc);subst hw3;have bV:=ag (bg.o.ae HM.o.2.2);have⟨e0,e1,e2,e3⟩:=af (bV.o.bO rfl);have CM:Hd (su M c [] K bm w3):=⟨⟨fa,fc,(),HM.o.1,iD.o.ae bV.o.1,ab.nil _ _⟩,HM.o.2.1⟩;clear a0 a1 HS;go_wp2_with fail;refine cC (Wa.o _ _ _ bV.o.1 CM.o) λw4 eA=> ?_;have ek:=ag (bV.o.ae eA);have⟨c0,c1⟩:=ak (ek.o.fB rfl);have⟨f0,f1⟩:=mu (ek.o.fB rfl);have hl4:w.heap.size+1+1<w4:=(Qaa.1 (ek.o.fB rfl)).1;clear eA;go_wp2_with fail;refine Qae (v:= .tuple #[.agg #[t.an,t.of],xI 0]) (by simp[results,results287,go_sem,c0,c1,hl4]) rfl ⟨rfl,?_⟩;exact Hb ek.o.1 (by omega) (by omega)
def OV(c:aI)(hc:cN c)(ay:Int)(hm:ay<=100000)(e:aG)(t:br)(hx:XOk e)(ht:lH c e t)(M:aV)(w:ax)(v fv vv:aA)(vs:List aJ)(hM:Bd M w)(hag:cB M w v e)(hfs:ab M w fv c.ah)(hvs:ab M w vv vs)(hv:bA c.ah ay vs)(hg:Gd w):
 xG 289 #[v, .agg #[c.ai,fv],vv] w λr w'=>∃u x,r= .tuple #[u,xI 0]/\nA c t ay e vs x/\cB M w' u x:=by
 have hcn:=cM hc.small;have Wa:=gQ (w:=w) (λW hb=>D5 c hc e t hx ht M W v fv (hM.ae hb) (hag.ae hb) (hfs.ae hb) (hg.tb.ae hb));have om:=gQ (w:=w) (λW hb=>ik c hc.right hcn ay hm vs hv M W fv vv (hfs.ae hb) (hvs.ae hb) (hg.tb.ae hb));have HWX:Hd (∀W b bm,aC w W->w.heap.size+3<=W->su (dX M w 3) c vs b bm W->_):=λW b bm h1 h3 h2=>OT hcn ay ht M (dX M w 3) W v b bm vs (dt hM h3) (hag.ae h1) h2 hv (hg.ae h1);have iD:=ag hfs;have yS:=ag hvs;obtain⟨cs,rfl,hrep⟩:=hag;obtain⟨k,n,s,l⟩:=e;obtain⟨lv,rfl,hsl,_⟩:=cO.iff.1 hrep;obtain⟨la,lc,rfl,_⟩:=hsl.aq;obtain⟨fa,fc,rfl,_⟩:=hfs.aq;obtain⟨va,vc,rfl,_⟩:=hvs.aq;clear hx ht hfs hrep hsl hg hvs hv;go_enter func289,ntmps289;go_wp2_with fail;refine cC (Wa.o _ (Bx.gj w _ _ _).1) λw1 hb1=> ?_;have bz:=ag ((Bx.gj w (DZ k n s (xL la l.length lc)) (cW c.ai (xL fa c.ah.length fc)) (ej 0 0 () ())).ae hb1);have⟨a0,a1⟩:=ak (bz.o.cg rfl);have hl1:w.heap.size+1<w1:=(Qaa.1 (bz.o.cg rfl)).1;clear hb1;go_wp2_with fail;refine cC (om.o _ (bz.o.1.alloc bz.o.1.size _)) λw2 bE=> ?_;have bg:=ag (bz.o.ae (bt bE));have HS:Hd (∀W',aC w2 W'->W'.cell? ([w],0)=some (xS c.ai)/\W'.cell? ([w],1)=some (xL fa c.ah.length fc)):=λW' hb=>ak ((bg.o.ae hb).cg rfl);have⟨a0,a1⟩:=ak (bg.o.cg rfl);have HJ:Hd (aC w2 w2):=dS;clear bE;go_upto_region 7 with fail;go_cut [12](λs6 wx=>∃K bm:Nat,s6=xP K/\Hd (RV w2 c.ai (xL fa c.ah.length fc) (xL va vs.length vc) K bm wx));case first=>
  go_region_held3(λw'=>w'.cell? ([w],0)=some (xS c.ai)/\w'.cell? ([w],1)=some (xL fa c.ah.length fc))
   (with_reducible first|exact HS.o _ HJ.o|exact HS.o _ HJ.o.drew|exact HS.o _ (HJ.o.alloc HJ.o.size _)|exact HS.o _ ((HJ.o.alloc HJ.o.size _).drew)|exact HS.o _ (dd HJ.o HK.o.2))
   ((go_at_call 326;refine(DY _).mono ?_;rintro e w3⟨bm,rfl,hca,SV,hb3⟩;have J7:=ag hca;try(with_reducible(have I1:=ag (bmD SV)))
     try(with_reducible(have HK:=ag (zD hb3)))
     try with_reducible have k0:=(af HK.o.1).1
     try with_reducible have k1:=(af HK.o.1).2.1
     try with_reducible have k2:=(af HK.o.1).2.2.1
     try with_reducible have k3:=(af HK.o.1).2.2.2
     try with_reducible have y0:=aj HK.o.1 0
     try with_reducible have y1:=aj HK.o.1 1
     try with_reducible have y2:=aj HK.o.1 2
     try with_reducible have y3:=aj HK.o.1 3
     have HJ:Hd (aC w2 w3):=(by with_reducible first|exact ag (jB hb3)|exact ag (jD hb3));clear hb3 hca SV));all_goals(go_wp2;go_meet)
  all_goals
   refine⟨_,bm,rfl,?_⟩;first
    |with_reducible exact ag (D4 J7.o HJ.o)
    |with_reducible exact ag (OU J7.o HJ.o HK.o I1.o)
 case rest=>
  obtain⟨K,bm,rfl,HM⟩:=hcut;have⟨w3,hw3⟩:=bY (wc);subst hw3;have bV:=ag (bg.o.ae HM.o.2.2);have⟨e0,e1,e2,e3⟩:=af (bV.o.bO rfl);have CM:Hd (su (dX M w 3) c vs K bm w3):=⟨⟨fa,fc,_,HM.o.1,iD.o.ev (dj bV.o.1),yS.o.ev (dj bV.o.1)⟩,HM.o.2.1⟩;clear a0 a1 HS;go_wp2_with fail;refine(HWX.o _ _ _ bV.o.1 bV.o.bQ CM.o).mono ?_;rintro e w4⟨_,rfl,⟨⟨yk,yn,ys,yl⟩,XZ,hya⟩,eA⟩;obtain⟨ua,uc,rfl,FP⟩:=dh hya;have HY:=ag FP;have HY2:Hd (ys.size<=maxLen):=sA hya;have SX:=ag XZ;have ek:=ag (bV.o.ae eA);have⟨c0,c1,c2,c3⟩:=af (ek.o.fB rfl);have⟨f0,f1,f2,f3⟩:=hZ (ek.o.fB rfl);clear eA hya XZ FP;go_wp2_with fail;refine Qae (v:= .tuple #[.agg #[yk,yn,ys,xL ua yl.length uc],xI 0]) (by simp[results,results289,go_sem,c0,c1,c2,c3]) rfl ⟨_,rfl,⟨_,_,rfl,SX.o,⟨_,rfl,kI (HY.o.ev ?_) HY2.o⟩⟩,dd ek.o.1 (by omega)⟩;exact((((eK w4).setCell (.inl (.inr ⟨by simp;omega,by simp⟩)) _).setCell (.inl (.inr ⟨by simp;omega,by simp⟩)) _).setCell (.inl (.inr ⟨by simp;omega,by simp⟩)) _).setCell (.inl (.inr ⟨by simp;omega,by simp⟩)) _
end
section
open Go.RowKit Go.Shelf
def O3 {k n:Int}(h:cB M w v (aJ.mk k n s l)):s.size<=maxLen:=by
 obtain⟨cs,rfl,hr⟩:=h;have⟨_,_,_,hz⟩:=eU.iff.1 hr;exact hz
end
section
open Go.RowKit
def Tq:aJ->Prop| .mk k n s l=>∀(M:aV)(w:ax)(v:aA),Bd M w->cB M w v (aJ.mk k n s l)->xC 203 #[v] w (cm w λv' w'=>∃a,v'= .agg #[k,n,s,xL a l.length l.length]/\zj w w' w' [xI k,xI n,xS s,xL a l.length l.length] (.mk k n s l))
def JI(w:ax)(l:List aJ)(v:aA)(w':ax):Prop:=l=[]/\v=()\/∃B,0<l.length/\w.heap.size<=B/\v=xL (B,0) l.length l.length/\lK zj B w' l.length l
def Hp(l:List aJ)(hl:l.length<=12)(h0:0<l.length)(kx:∀y∈l,Tq y)(M:aV)(w:ax)(v:aA)(hM:Bd M w)(hs:ab M w v l):
 xG 218 #[v, .func (.func 203) #[] #[]] w (JI w l):=by
 have⟨i0,hi0,hz0,hz1,hz2⟩:=info_parts ie;have HC:Hd (∀(i:Nat)(k n:Int)(s:aY)(ll:List aJ),l[i]? =some (.mk k n s ll)->_):=λi k n s ll hx=>dy hs hx;have CK:Hd (∀y∈l,Tq y):=kx;obtain⟨a,cj,rfl,cY,hmx,_⟩:=hs.aq;generalize hn:l.length=n at*;have eJ:=ag hn;have yI:((n:Int)==0)=false:=by simp;omega
 have⟨cur,hmk,hcs⟩:=mN (P:=prog) w 42 44 i0 _ underlying42 hi0 hz0 n (by omega) (by omega);have IZ:Hd (lK zj w (w.alloc (.cells cur 44)) n []):=lK.made cur (Qbh w _) (by rw[hcs,hz1]);go_enter func218,ntmps218;go_wp2;go_loopg [6,7,16]n(λg _ _ iv wr=>∃i:Nat,i<=n/\g=n-i/\iv=xI i/\Hd (lK zj w wr n (l.take i))/\Hd (aC w wr));case atStart=>exact⟨0,Qbf _,rfl,rfl,IZ,bU⟩
 case round=>
  obtain⟨i,hi,rfl,rfl,HA,HB⟩:=hrel;have hsz:w.heap.size<wr:=HA.o.lt;by_cases bH:i<n
  .have⟨⟨xk,xn,xs,xl⟩,hx⟩:=eG l i (by rw[eJ.o];exact bH);have⟨b,off,cap,a',c',hv,hb,hsl,hxs,hcells⟩:=HC.o i xk xn xs xl hx;obtain⟨rfl,rfl⟩:=iY hv;have⟨q0,q1,q2,q3⟩:=(hcells wr HB.o).1;have nj:=ag (show(l.take i).length=i by have:=eJ.o;rw[Qdb];omega);have nN:=ag (show l.take (i+1)=l.take i++[.mk xk xn xs xl]by rw[Qbb,hx];rfl);have bI:Hd (∀o,xC 203 #[.agg #[xk,xn,xs,xL a' xl.length c']] (wr.alloc o) (cm (wr.alloc o) λv' w'=>∃a,v'= .agg #[xk,xn,xs,xL a xl.length xl.length]/\zj (wr.alloc o).heap.size w' w' [xI xk,xI xn,xS xs,xL a xl.length xl.length] (aJ.mk xk xn xs xl))):=λo=>
    CK.o _ (Qaf hx) M _ _ (λj hj=>by have:=hM j hj;simp;omega) ⟨_,rfl,kI (hsl.ae (HB.o.alloc (by omega) o)) hxs⟩;go_wp2_with fail;refine(bI.o _).mono ?_;rintro e w1⟨_,rfl,⟨ya,rfl,hag⟩,hb1⟩;have bz:=ag (bt hb1);have tg:=ag ((HA.o.ae p8 bU).snoc p8 hb1 (by rw[nj.o];exact bH) hag);rw[nj.o,<-nN.o]at tg;have mz:=ag (HA.o.ae p8 bz.o);have XJ:i*4+3<n*4:=by omega
   have⟨u0,p0,f0⟩:=mz.o.cell (j:=i*4) (by omega);have⟨u1,p1,f1⟩:=mz.o.cell (j:=i*4+1) (by omega);have⟨u2,p2,f2⟩:=mz.o.cell (j:=i*4+2) (by omega);have⟨u3,p3,f3⟩:=mz.o.cell (j:=i*4+3) (by omega);go_wp2;go_roundg(n-(i+1));case measure=>omega
   case rel=>
    refine⟨i+1,by omega,rfl,by go_num,tg,(show Below _ _ _ from ?_)⟩;exact(((((HB.o.trans (bz.o.mono (by omega))).setCell (by simp) _).setCell (by simp) _).setCell (by simp) _).setCell (by simp) _)
  .go_wp2;go_ret;refine⟨xL (w,0) n n,rfl,?_,HB.o⟩;have h1:=HA.o;have MP:=eJ.o;rw[Qah (by rw[MP];omega)]at h1;exact .inr ⟨_,by rw[MP];exact h0,bT,by rw[MP],by rw[MP];exact h1⟩
def O4(l:List aJ)(hl:l.length<=12)(kx:∀y∈l,Tq y)(M:aV)(w:ax)(v:aA)(hM:Bd M w)(hs:ab M w v l):
 xG 218 #[v, .func (.func 203) #[] #[]] w (JI w l):=by
 by_cases h0:0<l.length
 .exact Hp l hl h0 kx M w v hM hs
 .have e:l=[]:=Qdd (by omega);subst e;obtain⟨a,cap,rfl,_⟩:=hs.aq;refine dw (DA a cap _ w) ?_;exact⟨_,rfl, .inl ⟨rfl,rfl⟩,dS⟩
def yb(l:List aJ)(hl:l.length<=12)(kx:∀y∈l,Tq y)(M:aV)(w:ax)(v:aA)(hM:Bd M w)(hs:ab M w v l):xG 157 #[v] w (JI w l):=by
 have HE:=ag (O4 l hl kx M w v hM hs);go_enter func157,ntmps157;go_wp2_with fail;refine(HE.o).mono ?_;rintro e w1⟨v',rfl,hs,hb⟩;have HS:=ag hs;have HB:=ag hb;go_wp2;go_ret;exact⟨_,rfl,HS.o,HB.o⟩
def RY(h:lK zj B w l.length l)(hf:∀y∈l,y.list=[]):O2 B w l:=by
 obtain⟨s,cur,h1,h2,h3,h4,h5,h6,h7⟩:=h;refine⟨cur,h1,h2,λi x hx=> ?_⟩;obtain⟨a,b,c,d,p0,p1,p2,p3,k,n,t,ll,ad,rfl,ht,he,_,hor⟩:=h7 i x hx;have T5:ll=[]:=hf _ (Qaf hx);subst T5;obtain⟨rfl,rfl,rfl,rfl⟩:a=xI k/\b=xI n/\c=xS t/\d=xL ad 0 0:=by simpa using he
 rcases hor with⟨_,rfl⟩|⟨b,b0,b1,b2,rfl,hr⟩
 .exact⟨k,n,t,rfl,ht,p0,p1,p2,p3⟩
 .exact absurd b0 (by simp)
theorem JI.flat(h:JI W l v w')(hf:∀y∈l,y.list=[]):∃za,v=xL za l.length l.length/\(l=[]/\za=none\/∃b,0<l.length/\W.heap.size<=b/\b<w'.heap.size/\za=some ⟨b,0,none⟩/\O2 b w' l):=by
 rcases h with⟨rfl,rfl⟩|⟨B,h0,hB,rfl,hr⟩
 .exact⟨_,rfl, .inl ⟨rfl,rfl⟩⟩
 .exact⟨_,rfl, .inr ⟨B,h0,hB,hr.lt,rfl,RY hr hf⟩⟩
def AA(x:aJ)(h12:x.list.length<=12)(hf:∀y∈x.list,y.list=[])(kx:∀y∈x.list,Tq y):Tq x:=by
 obtain⟨vk,vn,vs,l⟩:=x;intro M w v hM hu;have hvs:=O3 hu;obtain⟨a,cj,rfl,hs⟩:=dh hu;dsimp only[aJ.list]at*;have CK:Hd (∀W,aC w W->w.heap.size+2<=W->_):=λW hb hz=>yb l h12 kx (dX M w 2) W _ (dt hM hz) (hs.ev (dj hb));have yS:=ag hvs;have Kc:=ag hf;have H12:=ag h12;go_enter func203,ntmps203;go_wp2_with fail;refine(CK.o _ (Bx.du w _ _).1 (by simp)).mono ?_;rintro e w1⟨vx,rfl,hs1,hb1⟩;obtain⟨za,rfl,hz⟩:=hs1.flat Kc.o;have HZ:=ag hz;have HB:=ag ((Bx.du w (ej vk vn vs (xL a l.length cj)) (ej 0 0 () ())).ae hb1);have⟨r0,r1,r2,r3⟩:=af (HB.o.bO rfl);have⟨e0,e1,e2,e3⟩:=af (HB.o.cg rfl);have f3:=aj (HB.o.bO rfl) 3;have⟨g0,g1,g2,g3⟩:=hZ (HB.o.cg rfl);go_wp2_with fail;refine Qae (v:= .agg #[vk,vn,vs,xL za l.length l.length]) (by simp[results,results203,go_sem,e0,e1,e2,e3]) rfl ⟨_,rfl,⟨_,rfl,?_⟩,?_⟩
 .refine⟨vk,vn,vs,l,za,rfl,yS.o,rfl,H12.o,?_⟩;rcases HZ.o with h|⟨b,b0,b1,b2,b3,cur,c1,c2,c3⟩
  .exact .inl h
  .have hz:↑w+2<=b:=by simpa using b1
   refine .inr ⟨b,b0,by omega,by simpa [World.setCell]using b2,b3,cur,?_,c2,c3⟩;rw[Qag _ _ _ _ (by simp;omega),Qag _ _ _ _ (by simp;omega),Qag _ _ _ _ (by simp;omega),Qag _ _ _ _ (by simp;omega),Qag _ _ _ _ (by simp;omega)];exact c1
 .exact((((HB.o.1.setCell (by simp) _).setCell (by simp) _).setCell (by simp) _).setCell (by simp) _).setCell (by simp) _
def qca(x:aJ)(h:x.list=[]):Tq x:=AA x (by rw[h];exact Qbf _) (λy hy=>by rw[h]at hy;cases hy) (λy hy=>by rw[h]at hy;cases hy)
def qcb(x:aJ)(h12:x.list.length<=12)(hf:∀y∈x.list,y.list=[]):Tq x:=AA x h12 hf λy hy=>qca y (hf y hy)
def uR {fs:List aH}(h:bA fs ay vs)(hl:vs.length<=12)(M:aV)(w:ax)(v:aA)(hM:Bd M w)(hs:ab M w v vs):xC 157 #[v] w (cm w (JI w vs)):=
 yb vs hl (λx hx=>by
  have⟨f,_,hv⟩:=fj h x hx;have vN:=nB hv;exact qcb x vN.1 vN.2) M w v hM hs
def BV {fs:List aH}(h:bA fs ay vs)(hl:vs.length<=12):xg 157 vs:=λM w v hM hs=>
 (uR h hl M w v hM hs).mono (by
   rintro e w'⟨v',rfl,hc,hb⟩;refine⟨_,rfl,?_,hb⟩;rcases hc with⟨rfl,rfl⟩|⟨B,h0,hB,rfl,hr⟩
   .exact ab.nil _ _
   .exact hr.slice (by unfold maxLen;omega) λi hi=>Qde (hM i hi) hB)
section
variable {R:Xo}{B:Nat}{w w':ax}{n:Nat}{xs:List aJ}{s:Nat->Nat}
end
end
end Go.Proofs.YtepaofffbkfodaaGreatDoor
