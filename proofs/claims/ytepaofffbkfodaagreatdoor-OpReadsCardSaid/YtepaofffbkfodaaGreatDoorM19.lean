/- A part of OpReads's proof; no condition. -/
import Derived.Test.YtepaofffbkfodaaGreatDoorM14
import Derived.Test.YtepaofffbkfodaaGreatDoorM18
import Derived.Shelf.Strings.Search3
import Derived.Shelf.Strconv.Itoa3
import Derived.Lib.ItoaLen
import Derived.Lib.AppendIntMem
set_option linter.all false
set_option maxHeartbeats 8000000
set_option maxRecDepth 100000
namespace Go.Proofs.YtepaofffbkfodaaGreatDoor
open Tryz
variable{w' w W w2:aj}{s s1 nm:aM}{i B K bm m j b:Nat}{a0 a1 a2 a3 v fv:an}{l vs:List aA}{a:fA}{M M':aN}{c:ax}{many:Int}{o:Obj}
section
open Go.RowKit Go.Shelf
def jI:Go.Shelf.Ren:=⟨λ|143=>393|219=>402|217=>406|225=>407|224=>408|267=>409|266=>415|314=>416|n=>n,λ|9=>9|3=>3|4=>4|5=>5|46=>216|146=>457|51=>279|n=>n,λ|1=>5|n=>n⟩
def LS:Go.Proofs.Lays.n143 prog jI:={
 mixed:=by kernel_rfl
 f143:=Tryz.func393.trans (congrArg some (by kernel_rfl))
 f217:=Tryz.func406.trans (congrArg some (by kernel_rfl))
 f219:=Tryz.func402.trans (congrArg some (by kernel_rfl))
 f224:=Tryz.func408.trans (congrArg some (by kernel_rfl))
 f225:=Tryz.func407.trans (congrArg some (by kernel_rfl))
 f266:=Tryz.func415.trans (congrArg some (by kernel_rfl))
 f267:=Tryz.func409.trans (congrArg some (by kernel_rfl))
 f314:=Tryz.func416.trans (congrArg some (by kernel_rfl))
 t3:=underlying3
 a3:=isAgg3
 z3:=sizeOf3
 v3:=zeroValue3
 t4:=underlying4
 a4:=isAgg4
 z4:=sizeOf4
 v4:=zeroValue4
 t5:=underlying5
 a5:=isAgg5
 z5:=sizeOf5
 v5:=zeroValue5
 t9:=underlying9
 a9:=isAgg9
 z9:=sizeOf9
 v9:=zeroValue9
 t46:=underlying216
 a46:=isAgg216
 z46:=sizeOf216
 v46:=zeroValue216
 t51:=underlying279
 a51:=isAgg279
 z51:=sizeOf279
 v51:=zeroValue279
 t146:=underlying457
 a146:=isAgg457
 z146:=sizeOf457
 v146:=zeroValue457
 g1:=by kernel_rfl}
def su:Go.Shelf.Ren:=⟨λ|171=>204|243=>257|246=>283|283=>322|284=>323|285=>324|286=>325|129=>197|317=>348|318=>349|319=>350|320=>351|337=>389|338=>390|n=>n,λ|3=>3|9=>9|2=>2|4=>4|171=>398|0=>0|53=>281|37=>252|5=>5|173=>400|212=>420|51=>279|20=>20|213=>421|46=>216|232=>447|233=>448|n=>n,λ|17=>2|18=>3|19=>4|n=>n⟩
def O2:Go.Proofs.LaysM.n171 prog su:={
 mixed:=by kernel_rfl
 f129:=Tryz.func197.trans (congrArg some (by kernel_rfl))
 f171:=Tryz.func204.trans (congrArg some (by kernel_rfl))
 f243:=Tryz.func257.trans (congrArg some (by kernel_rfl))
 f246:=Tryz.func283.trans (congrArg some (by kernel_rfl))
 f283:=Tryz.func322.trans (congrArg some (by kernel_rfl))
 f284:=Tryz.func323.trans (congrArg some (by kernel_rfl))
 f285:=Tryz.func324.trans (congrArg some (by kernel_rfl))
 f286:=Tryz.func325.trans (congrArg some (by kernel_rfl))
 f317:=Tryz.func348.trans (congrArg some (by kernel_rfl))
 f318:=Tryz.func349.trans (congrArg some (by kernel_rfl))
 f319:=Tryz.func350.trans (congrArg some (by kernel_rfl))
 f320:=Tryz.func351.trans (congrArg some (by kernel_rfl))
 f337:=Tryz.func389.trans (congrArg some (by kernel_rfl))
 f338:=Tryz.func390.trans (congrArg some (by kernel_rfl))
 t0:=underlying0
 a0:=isAgg0
 z0:=sizeOf0
 v0:=zeroValue0
 t2:=underlying2
 a2:=isAgg2
 z2:=sizeOf2
 v2:=zeroValue2
 t3:=underlying3
 a3:=isAgg3
 z3:=sizeOf3
 v3:=zeroValue3
 t4:=underlying4
 a4:=isAgg4
 z4:=sizeOf4
 v4:=zeroValue4
 t5:=underlying5
 a5:=isAgg5
 z5:=sizeOf5
 v5:=zeroValue5
 t9:=underlying9
 a9:=isAgg9
 z9:=sizeOf9
 v9:=zeroValue9
 t20:=underlying20
 a20:=isAgg20
 z20:=sizeOf20
 v20:=zeroValue20
 t37:=underlying252
 a37:=isAgg252
 z37:=sizeOf252
 v37:=zeroValue252
 t46:=underlying216
 a46:=isAgg216
 z46:=sizeOf216
 v46:=zeroValue216
 t51:=underlying279
 a51:=isAgg279
 z51:=sizeOf279
 v51:=zeroValue279
 t53:=underlying281
 a53:=isAgg281
 z53:=sizeOf281
 v53:=zeroValue281
 t171:=underlying398
 a171:=isAgg398
 z171:=sizeOf398
 v171:=zeroValue398
 t173:=underlying400
 a173:=isAgg400
 z173:=sizeOf400
 v173:=zeroValue400
 t212:=underlying420
 a212:=isAgg420
 z212:=sizeOf420
 v212:=zeroValue420
 t213:=underlying421
 a213:=isAgg421
 z213:=sizeOf421
 t232:=underlying447
 a232:=isAgg447
 z232:=sizeOf447
 v232:=zeroValue447
 t233:=underlying448
 a233:=isAgg448
 z233:=sizeOf448
 v233:=zeroValue448
 g17:=by kernel_rfl
 g18:=by kernel_rfl
 g19:=by kernel_rfl
 i0:=by kernel_rfl
 i2:=by kernel_rfl
 i3:=by kernel_rfl
 i4:=by kernel_rfl
 i5:=by kernel_rfl
 i9:=by kernel_rfl
 i20:=by kernel_rfl
 i37:=by kernel_rfl
 i46:=by kernel_rfl
 i51:=by kernel_rfl
 i53:=by kernel_rfl
 i171:=by kernel_rfl
 i173:=by kernel_rfl
 i212:=by kernel_rfl
 i232:=by kernel_rfl
 i233:=by kernel_rfl
 m17:=by kernel_rfl
 m18:=by kernel_rfl
 m19:=by kernel_rfl}
def Vu:jI.f 143=393:=by kernel_rfl
def Zp:su.f 171=204:=by kernel_rfl
structure Gd(w:aj):Prop where
 tb:Tb w
 mx:∃m,w.cell? ⟨jI.g 1,0,none⟩=some (xI m)
 pw:∀W,aq w W->Lib.TabIs prog W "internal/strconv.uint64pow10" .u64 Lib.pow10Tab
theorem Gd.below {w:aj}(h:Gd w)(hb:aq w w'):Gd w':=by
 obtain⟨m,hm⟩:=h.mx;exact⟨h.tb.below hb,⟨m,(hb.cell (p:=⟨jI.g 1,0,none⟩) (oL hm)).trans hm⟩,λW hW=>h.pw W (hb.trans (hW.mono hb.size))⟩
def LU(s t:aM)(hs:s.size<=1000)(w:aj)(hg:Gd w):xC 393 #[xS s,xS t] w (ji (xI (Lib.index s.data.toList t.data.toList)) w):=by
 obtain⟨m,hm⟩:=hg.mx;have h:=Any.strings_Index LS s t m w (by omega) hm;rw[Vu]at h;exact h.mono λe w'⟨h1,h2⟩=>⟨h1,h2.symm⟩
def Sv(n:Int)(w:aj)(e:Ending)(w':aj):Prop:=∃s:aM,iD s.data.toList/\s.size<=30/\e=xR (xS s)/\aq w w'
def DZ:∀d,d<10->(32:UInt8)<=UInt8.ofNat (48+d)/\UInt8.ofNat (48+d)<127:=by decide
def sw(u:Nat):∀c∈Lib.decDigits u,32<=c/\c<127:=by
 intro c hc;rw[Lib.decDigits_eq]at hc;obtain⟨t,_,rfl⟩:=List.mem_map.1 hc;exact DZ _ (Nat.mod_lt _ (by omega))
def Hp(n:Int):∀c∈Lib.itoa n,32<=c/\c<127:=by
 intro c hc;unfold Lib.itoa at hc;split at hc
 .rcases Qdf.1 hc with rfl|hc
  .decide
  .exact sw _ _ hc
 .exact sw _ _ hc
def J3(n:Int)(hn:sf n)(w:aj)(hg:Gd w):xC 204 #[xI n] w (Sv n w):=by
 obtain⟨h0,h1⟩:=hn;have h:=Any.strconv_Itoa O2 n (by omega) (by omega) w (hg.pw w dQ);rw[Zp]at h;refine h.mono λe w'⟨h2,k,os,h3⟩=>⟨_,?_,?_,h2,by rw[h3];exact Lib.below_grow _ w bN k os⟩
 .exact oR _ (by simpa using Hp n)
 .have:=Lib.itoa_length_le n (by omega) (by omega);simp[ByteArray.size];omega
def Sw(s t:aM)(hs:s.size<=1000)(w:aj)(hg:Gd w):xC 362 #[xS s,xS t] w λe w'=>∃x:Int,e=xR (xI x)/\aq w w':=by
 have h1:=Lib.index_ge s.data.toList t.data.toList;have h2:=Lib.index_le s.data.toList t.data.toList;rw[bq]at h2;have HI:=af (LU s t hs w hg);generalize Lib.index s.data.toList t.data.toList=x at*;by_cases hx:x<0
 .go_enter func362,ntmps362;go_wp2_with fail;refine cT (HI.o) ?_;go_wp2;go_ret;exact⟨_,rfl,dQ⟩
 .obtain⟨i,rfl⟩:=Int.eq_ofNat_of_zero_le (by omega:0<=x);have hi:i<=s.size:=by omega
  have Rz:=af (show(s.extract 0 i).size<=1000 by simp;omega);go_enter func362,ntmps362;go_wp2_with fail;refine cT (HI.o) ?_;go_wp2_with fail;refine(DO (s.extract 0 i) Rz.o _).mono ?_;rintro e w1⟨m,_,rfl,hb⟩;have HB:=af hb;go_wp2;go_ret;exact⟨_,rfl,HB.o⟩
section
variable {M:aN}{w:aj}{lv:an}{vs:List aA}
def iU(hl:ab M w lv vs){k n:Int}{ll:List aA}(hx:vs[i]? =some (.mk k n s ll)):∃b off cap a c,lv=xL (some ⟨b,off,none⟩) vs.length cap/\i<vs.length/\b<w.heap.size/\∀W,aq w W->(bt W b (off+i*4) (xI k)/\bt W b (off+i*4+1) (xI n)/\bt W b (off+i*4+2) (xS s)/\bt W b (off+i*4+3) (xL a ll.length c))/\ct M W (.agg #[xI k,xI n,xS s,xL a ll.length c]) (aA.mk k n s ll):=by
 obtain⟨b,off,cap,a,c,h1,h2,_,_,h3⟩:=dy hl hx;exact⟨b,off,cap,a,c,h1,(Qad.1 hx).1,h2,h3⟩
def Sx(hl:ab M w lv vs)(k n:Int)(s:aM)(ll:List aA)(hx:vs[0]? =some (.mk k n s ll))(hs:fQ s):xG 353 #[lv] w jr:=by
 obtain⟨b,off,cap,a,c,rfl,h0,hb,hc⟩:=iU hl hx;obtain⟨q0,q1,q2,q3⟩:=(hc (w.alloc (xK iH 44)) bM).1;simp only[Nat.zero_mul,Nat.add_zero]at q0 q1 q2 q3;have TC:=hs.1;go_enter func353,ntmps353;go_wp2_with fail;refine(DO s (by omega) _).mono ?_;rintro e w1⟨m,hm,rfl,aF⟩;have aY:=af ((Bx.eD w (eN 0 0 ⟨#[]⟩ (xL none 0 0))).below aF);go_wp2_with fail;refine(js _ _).mono ?_;rintro e w2⟨_,rfl,⟨z,hz,rfl⟩,bC⟩;have aQ:=af (aY.o.below bC);have HZ:=af hz;obtain⟨c0,c1,c2,c3⟩:=ae (aQ.o.bG rfl);obtain⟨f0,f1,f2,f3⟩:=iK (aQ.o.bG rfl);unfold kB;go_wp2_with fail;refine Qae (v:=kB z) (by simp[results,results353,go_sem,kB,c0,c1,c2,c3]) rfl (show cg w jr _ _ from⟨_,rfl,⟨_,HZ.o,rfl⟩,?_⟩);exact(((aQ.o.1.setCell (by simp) _).setCell (by simp) _).setCell (by simp) _).setCell (by simp) _
def O3(hl:ab M w lv vs)(k n:Int)(s:aM)(ll:List aA)(hx:vs[0]? =some (.mk k n s ll))(k' n':Int)(s':aM)(ll':List aA)(TE:vs[1]? =some (.mk k' n' s' ll'))(hs:fQ s):xG 356 #[lv] w ff:=by
 obtain⟨b,off,cap,a,c,rfl,h0,hb,hc⟩:=iU hl hx;obtain⟨q0,q1,q2,q3⟩:=(hc (w.alloc (xK iH 44)) bM).1;simp only[Nat.zero_mul,Nat.add_zero]at q0 q1 q2 q3;obtain⟨b',zM,ig,a',c',M8,h0',l6,hc'⟩:=iU hl TE;obtain⟨⟨rfl,rfl⟩,rfl⟩:(b=b'/\off=zM)/\cap=ig:=by simpa using M8
 obtain⟨r0,r1,r2,r3⟩:=(hc' (w.alloc (xK iH 44)) bM).1;simp only[Nat.one_mul]at r0 r1 r2 r3;have TC:=hs.1;have HS:=af hs.2;have HT:Hd (∀p,qy s p->∀W,xC 357 #[xS (s.extract 0 p)] W (cg W ff)):=λp hp W=>si _ (by have:=hp.take;simpa using this) (by simp;omega) W;have HH:Hd (∀W,xC 358 #[xS s,xI n'] W (DP W s)):=λW=>Ax s HS.o (by omega) n' W;go_enter func356,ntmps356;go_wp2_with fail;refine(HH.o _).mono ?_;rintro e w1⟨p,hp,rfl,aF⟩;have aY:=af ((Bx.eD w (eN 0 0 ⟨#[]⟩ (xL none 0 0))).below aF);have j5:=hp.1;have HP:=af hp;go_wp2_with fail;refine(HT.o p HP.o _).mono ?_;rintro e w2⟨_,rfl,⟨z,hz,rfl⟩,bC⟩;have aQ:=af (aY.o.below bC);have HZ:=af hz;obtain⟨c0,c1,c2,c3⟩:=ae (aQ.o.bG rfl);obtain⟨f0,f1,f2,f3⟩:=iK (aQ.o.bG rfl);unfold mB;go_wp2_with fail;refine Qae (v:=mB z) (by simp[results,results356,go_sem,mB,c0,c1,c2,c3]) rfl (show cg w ff _ _ from⟨_,rfl,⟨_,HZ.o,rfl⟩,?_⟩);exact(((aQ.o.1.setCell (by simp) _).setCell (by simp) _).setCell (by simp) _).setCell (by simp) _
def O4(hl:ab M w lv vs)(k n:Int)(s:aM)(ll:List aA)(hx:vs[0]? =some (.mk k n s ll))(k' n':Int)(s':aM)(ll':List aA)(TE:vs[1]? =some (.mk k' n' s' ll'))(hs:fQ s):xG 360 #[lv] w ff:=by
 obtain⟨b,off,cap,a,c,rfl,h0,hb,hc⟩:=iU hl hx;obtain⟨q0,q1,q2,q3⟩:=(hc (w.alloc (xK iH 44)) bM).1;simp only[Nat.zero_mul,Nat.add_zero]at q0 q1 q2 q3;obtain⟨b',zM,ig,a',c',M8,h0',l6,hc'⟩:=iU hl TE;obtain⟨⟨rfl,rfl⟩,rfl⟩:(b=b'/\off=zM)/\cap=ig:=by simpa using M8
 obtain⟨r0,r1,r2,r3⟩:=(hc' (w.alloc (xK iH 44)) bM).1;simp only[Nat.one_mul]at r0 r1 r2 r3;have TC:=hs.1;have HS:=af hs.2;have HT:Hd (∀p,qy s p->∀W,xC 357 #[xS (s.extract p s.size)] W (cg W ff)):=λp hp W=>si _ (by have:=hp.drop;rw[(AB s p hp.1).1];exact this) (by simp;omega) W;have HH:Hd (∀W,xC 358 #[xS s,xI n'] W (DP W s)):=λW=>Ax s HS.o (by omega) n' W;go_enter func360,ntmps360;go_wp2_with fail;refine(HH.o _).mono ?_;rintro e w1⟨p,hp,rfl,aF⟩;have aY:=af ((Bx.eD w (eN 0 0 ⟨#[]⟩ (xL none 0 0))).below aF);have j5:=hp.1;have HP:=af hp;go_wp2_with fail;refine(HT.o p HP.o _).mono ?_;rintro e w2⟨_,rfl,⟨z,hz,rfl⟩,bC⟩;have aQ:=af (aY.o.below bC);have HZ:=af hz;obtain⟨c0,c1,c2,c3⟩:=ae (aQ.o.bG rfl);obtain⟨f0,f1,f2,f3⟩:=iK (aQ.o.bG rfl);unfold mB;go_wp2_with fail;refine Qae (v:=mB z) (by simp[results,results360,go_sem,mB,c0,c1,c2,c3]) rfl (show cg w ff _ _ from⟨_,rfl,⟨_,HZ.o,rfl⟩,?_⟩);exact(((aQ.o.1.setCell (by simp) _).setCell (by simp) _).setCell (by simp) _).setCell (by simp) _
def O5(hl:ab M w lv vs)(k n:Int)(s:aM)(ll:List aA)(hx:vs[0]? =some (.mk k n s ll))(k' n':Int)(s':aM)(ll':List aA)(TE:vs[1]? =some (.mk k' n' s' ll'))(hs:fQ s)(hg:Gd w):xG 361 #[lv] w jr:=by
 obtain⟨b,off,cap,a,c,rfl,h0,hb,hc⟩:=iU hl hx;obtain⟨q0,q1,q2,q3⟩:=(hc (w.alloc (xK iH 44)) bM).1;simp only[Nat.zero_mul,Nat.add_zero]at q0 q1 q2 q3;obtain⟨b',zM,ig,a',c',M8,h0',l6,hc'⟩:=iU hl TE;obtain⟨⟨rfl,rfl⟩,rfl⟩:(b=b'/\off=zM)/\cap=ig:=by simpa using M8
 obtain⟨r0,r1,r2,r3⟩:=(hc' (w.alloc (xK iH 44)) bM).1;simp only[Nat.one_mul]at r0 r1 r2 r3;have TC:=hs.1;have HG:Hd (Gd (w.alloc (xK iH 44)).drew):=hg.below bM.drew;have HI:Hd (∀W,Gd W->xC 362 #[xS s,xS s'] W λe w'=>∃x:Int,e=xR (xI x)/\aq W w'):=λW hg=>Sw s s' (by omega) W hg;go_enter func361,ntmps361;have h0i:(0:Int)<(vs.length:Int):=by omega
 have h1i:(1:Int)<(vs.length:Int):=by omega
 go_upto_region 1 with fail;go_region_law(first
  |(go_simp;go_at_call 362;refine(HI.o _ HG.o).mono ?_;rintro e w1⟨x,rfl,aF⟩;have aY:=af (((Bx.eD w (eN 0 0 ⟨#[]⟩ (xL none 0 0))).drew).below aF);clear aF)
  |(go_simp;go_at_call 354;refine(js _ _).mono ?_;rintro e w2⟨_,rfl,⟨z,hz,rfl⟩,bC⟩;have aQ:=af (aY.o.below bC);have HZ:=af hz;have c0:=(ae (aQ.o.bG rfl)).1;have c1:=(ae (aQ.o.bG rfl)).2.1;have c2:=(ae (aQ.o.bG rfl)).2.2.1;have c3:=(ae (aQ.o.bG rfl)).2.2.2;obtain⟨f0,f1,f2,f3⟩:=iK (aQ.o.bG rfl);unfold kB));all_goals
  go_wp2_with fail;refine Qae (v:=kB z) (by simp[results,results361,go_sem,kB,c0,c1,c2,c3]) rfl (show cg w jr _ _ from⟨_,rfl,⟨_,HZ.o,rfl⟩,?_⟩);exact(((aQ.o.1.setCell (by simp) _).setCell (by simp) _).setCell (by simp) _).setCell (by simp) _
def O7(hl:ab M w lv vs)(k n:Int)(s:aM)(ll:List aA)(hx:vs[0]? =some (.mk k n s ll))(hn:sf n)(hg:Gd w):xG 363 #[lv] w ff:=by
 obtain⟨b,off,cap,a,c,rfl,h0,hb,hc⟩:=iU hl hx;obtain⟨q0,q1,q2,q3⟩:=(hc (w.alloc (xK iH 44)) bM).1;simp only[Nat.zero_mul,Nat.add_zero]at q0 q1 q2 q3;have HG:Hd (Gd (w.alloc (xK iH 44))):=hg.below bM;have HN:=af hn;go_enter func363,ntmps363;go_wp2_with fail;refine(J3 n HN.o _ HG.o).mono ?_;rintro e w1⟨s1,fu,dO,rfl,aF⟩;have aY:=af ((Bx.eD w (eN 0 0 ⟨#[]⟩ (xL none 0 0))).below aF);have qH:=af fu;go_wp2_with fail;refine(si s1 qH.o (by omega) _).mono ?_;rintro e w2⟨_,rfl,⟨z,hz,rfl⟩,bC⟩;have aQ:=af (aY.o.below bC);have HZ:=af hz;obtain⟨c0,c1,c2,c3⟩:=ae (aQ.o.bG rfl);obtain⟨f0,f1,f2,f3⟩:=iK (aQ.o.bG rfl);unfold mB;go_wp2_with fail;refine Qae (v:=mB z) (by simp[results,results363,go_sem,mB,c0,c1,c2,c3]) rfl (show cg w ff _ _ from⟨_,rfl,⟨_,HZ.o,rfl⟩,?_⟩);exact(((aQ.o.1.setCell (by simp) _).setCell (by simp) _).setCell (by simp) _).setCell (by simp) _
def Vv(hl:ab M w lv vs)(k n:Int)(s:aM)(ll:List aA)(hx:vs[0]? =some (.mk k n s ll))(x1 x2:aA)(h1:vs[1]? =some x1)(h2:vs[2]? =some x2):xG 367 #[lv] w λv w'=>ct M w' v (if n=0 then x2 else x1):=by
 obtain⟨b,off,cap,a,c,rfl,h0,hb,hc⟩:=iU hl hx;obtain⟨q0,q1,q2,q3⟩:=(hc (w.alloc (xK iH 44)) bM).1;simp only[Nat.zero_mul,Nat.add_zero]at q0 q1 q2 q3;have hL:=h0;obtain⟨k1,n1,s1,l1⟩:=x1;obtain⟨k2,n2,s2,l2⟩:=x2;obtain⟨b',zM,ig,a',c',M8,h0',l6,hc'⟩:=iU hl h1;obtain⟨⟨rfl,rfl⟩,rfl⟩:(b=b'/\off=zM)/\cap=ig:=by simpa using M8
 obtain⟨b'',qat,qau,a'',c'',qdx,qhb,qhc,qav⟩:=iU hl h2;obtain⟨⟨rfl,rfl⟩,rfl⟩:(b=b''/\off=qat)/\cap=qau:=by simpa using qdx
 obtain⟨r0,r1,r2,r3⟩:=(hc' (w.alloc (xK iH 44)) bM).1;obtain⟨t0,t1,t2,t3⟩:=(qav (w.alloc (xK iH 44)) bM).1;simp only[Nat.one_mul]at r0 r1 r2 r3;have wm:Hd (∀W,aq w W->ct M W (.agg #[xI k1,xI n1,xS s1,xL a' l1.length c']) (aA.mk k1 n1 s1 l1)):=λW hW=>(hc' W hW).2;have QS:Hd (∀W,aq w W->ct M W (.agg #[xI k2,xI n2,xS s2,xL a'' l2.length c'']) (aA.mk k2 n2 s2 l2)):=λW hW=>(qav W hW).2;have y9:b≠w.heap.size:=by omega
 have aQ:=af (Bx.eD w (eN 0 0 ⟨#[]⟩ (xL none 0 0)));obtain⟨c0,c1,c2,c3⟩:=ae (aQ.o.bG rfl);by_cases hn:n=0
 .have HN:Hd ((if n=0 then aA.mk k2 n2 s2 l2 else .mk k1 n1 s1 l1)= .mk k2 n2 s2 l2):=if_pos hn;rw[HN.o];subst hn;go_enter func367,ntmps367;go_wp2_with fail;refine Qae (v:= .agg #[xI k2,xI n2,xS s2,xL a'' l2.length c'']) (by simp[results,results367,go_sem]) rfl ⟨_,rfl,QS.o _ ?_,?_⟩;all_goals exact bM
 .have HN:Hd ((if n=0 then aA.mk k2 n2 s2 l2 else .mk k1 n1 s1 l1)= .mk k1 n1 s1 l1):=if_neg hn;rw[HN.o];have Tg:(n !=0)=true:=by simpa using hn
  go_enter func367,ntmps367;go_wp2_with fail;refine Qae (v:= .agg #[xI k1,xI n1,xS s1,xL a' l1.length c']) (by simp[results,results367,go_sem]) rfl ⟨_,rfl,wm.o _ ?_,?_⟩;all_goals exact bM
end
end
section
open Go.RowKit
def cW(h:Below B w W)(hK:B<=K):Below B w ((((W.setCell ⟨K,0,none⟩ a0).setCell ⟨K,1,none⟩ a1).setCell ⟨K,2,none⟩ a2).setCell ⟨K,3,none⟩ a3):=
 (((h.setCell hK _).setCell hK _).setCell hK _).setCell hK _
def Ia(s:aM)(hs:s=⟨#[42]⟩\/s=⟨#[45]⟩\/s=⟨#[47]⟩\/s=⟨#[61]⟩\/s=⟨#[62]⟩)(m n:Int)(hm:sf m)(hn:sf n)(a b:fA)(c d:Nat)(w:aj):
 xG 372 #[xS s, .agg #[xI 1,xI m,xS ⟨#[]⟩,xL a 0 c], .agg #[xI 1,xI n,xS ⟨#[]⟩,xL b 0 d]] w jr:=by
 have bW:=af (Bx.gO w (eN 1 m ⟨#[]⟩ (xL a 0 c)) (eN 1 n ⟨#[]⟩ (xL b 0 d)) (eN 0 0 ⟨#[]⟩ (xL none 0 0)));have nJ:=af (Bx.gO w (eN 1 m ⟨#[]⟩ (xL a 0 c)) (eN 1 (-n) ⟨#[]⟩ (xL b 0 d)) (eN 0 0 ⟨#[]⟩ (xL none 0 0)));have HP:=af (Ec m n hm hn);have HQ:=af (BX m n hm hn);have HH:Hd (∀s:aM,s=⟨#[61]⟩\/s=⟨#[62]⟩->∀x W,xC 399 #[xS s,xI x] W (Pp W)):=λs hs x W=>by
  rcases hs with rfl|rfl
  .exact AE [61] (.inl rfl) x W
  .exact AE [62] (.inr rfl) x W
 obtain⟨m1,m2⟩:=hm;obtain⟨n1,n2⟩:=hn;have qeg:(s=⟨#[61]⟩\/s=⟨#[62]⟩)\/s=⟨#[42]⟩\/s=⟨#[45]⟩\/s=⟨#[47]⟩:=by
  rcases hs with h|h|h|h|h
  .exact .inr (.inl h)
  .exact .inr (.inr (.inl h))
  .exact .inr (.inr (.inr h))
  .exact .inl (.inl h)
  .exact .inl (.inr h)
 rcases qeg with h|rfl|rfl|rfl
 .skip;rcases h with rfl|rfl;all_goals
   go_enter func372,ntmps372;go_wp2_with fail;refine(Eb m n _ _ _ _ _).mono ?_;rintro e w1⟨x,rfl,aF⟩;have aY:=af (bW.o.below aF);go_wp2_with fail;refine(HH.o _ (by first|exact .inl rfl|exact .inr rfl) x _).mono ?_;rintro e w'⟨y,rfl,rfl⟩;cases y;all_goals
    go_wp2_with fail;refine(js _ _).mono ?_;rintro e w2⟨_,rfl,⟨z,hz,rfl⟩,bC⟩;have aQ:=af (aY.o.below bC);have HZ:=af hz;obtain⟨c0,c1,c2,c3⟩:=ae (aQ.o.fR rfl);obtain⟨f0,f1,f2,f3⟩:=iK (aQ.o.fR rfl);unfold kB;go_wp2_with fail;refine Qae (v:=kB z) (by simp[results,results372,go_sem,kB,c0,c1,c2,c3]) rfl (show cg w jr _ _ from⟨_,rfl,⟨_,HZ.o,rfl⟩,?_⟩);exact cW aQ.o.1 (by omega)
 .go_enter func372,ntmps372;go_wp2_with fail;refine(HP.o _).mono ?_;rintro e w'⟨x,rfl,rfl⟩;go_wp2_with fail;refine(js _ _).mono ?_;rintro e w2⟨_,rfl,⟨z,hz,rfl⟩,bC⟩;have aQ:=af (bW.o.below bC);have HZ:=af hz;obtain⟨c0,c1,c2,c3⟩:=ae (aQ.o.fR rfl);obtain⟨f0,f1,f2,f3⟩:=iK (aQ.o.fR rfl);unfold kB;go_wp2_with fail;refine Qae (v:=kB z) (by simp[results,results372,go_sem,kB,c0,c1,c2,c3]) rfl (show cg w jr _ _ from⟨_,rfl,⟨_,HZ.o,rfl⟩,?_⟩);exact cW aQ.o.1 (by omega)
 .go_enter func372,ntmps372;go_wp2_with fail;refine(js _ _).mono ?_;rintro e w2⟨_,rfl,⟨z,hz,rfl⟩,bC⟩;have aQ:=af (nJ.o.below bC);have HZ:=af hz;obtain⟨c0,c1,c2,c3⟩:=ae (aQ.o.fR rfl);obtain⟨f0,f1,f2,f3⟩:=iK (aQ.o.fR rfl);unfold kB;go_wp2_with fail;refine Qae (v:=kB z) (by simp[results,results372,go_sem,kB,c0,c1,c2,c3]) rfl (show cg w jr _ _ from⟨_,rfl,⟨_,HZ.o,rfl⟩,?_⟩);exact cW aQ.o.1 (by omega)
 .go_enter func372,ntmps372;go_wp2_with fail;refine(HQ.o _).mono ?_;rintro e w'⟨x,rfl,rfl⟩;go_wp2_with fail;refine(js _ _).mono ?_;rintro e w2⟨_,rfl,⟨z,hz,rfl⟩,bC⟩;have aQ:=af (bW.o.below bC);have HZ:=af hz;obtain⟨c0,c1,c2,c3⟩:=ae (aQ.o.fR rfl);obtain⟨f0,f1,f2,f3⟩:=iK (aQ.o.fR rfl);unfold kB;go_wp2_with fail;refine Qae (v:=kB z) (by simp[results,results372,go_sem,kB,c0,c1,c2,c3]) rfl (show cg w jr _ _ from⟨_,rfl,⟨_,HZ.o,rfl⟩,?_⟩);exact cW aQ.o.1 (by omega)
def Eh(s t:aM)(hs:fQ s)(ht:fQ t)(a b:fA)(c d:Nat)(w:aj):
 xG 372 #[xS ⟨#[38]⟩, .agg #[xI 2,xI 0,xS s,xL a 0 c], .agg #[xI 2,xI 0,xS t,xL b 0 d]] w ff:=by
 have bW:=af (Bx.gO w (eN 2 0 s (xL a 0 c)) (eN 2 0 t (xL b 0 d)) (eN 0 0 ⟨#[]⟩ (xL none 0 0)));have h1:=hs.1;have h2:=ht.1;have HT:Hd (∀u:aM,u.data.toList=s.data.toList++t.data.toList->∀W,xC 357 #[xS u] W (cg W ff)):=λu hu W=>si u (by rw[hu];exact ue hs.2 ht.2) (by have:=congrArg List.length hu;rw[Qda,bq,bq,bq]at this;omega) W;go_enter func372,ntmps372;go_wp2_with fail;refine(HT.o _ (by simp) _).mono ?_;rintro e w2⟨_,rfl,⟨z,hz,rfl⟩,bC⟩;have aQ:=af (bW.o.below bC);have HZ:=af hz;obtain⟨c0,c1,c2,c3⟩:=ae (aQ.o.fR rfl);obtain⟨f0,f1,f2,f3⟩:=iK (aQ.o.fR rfl);unfold mB;go_wp2_with fail;refine Qae (v:=mB z) (by simp[results,results372,go_sem,mB,c0,c1,c2,c3]) rfl (show cg w ff _ _ from⟨_,rfl,⟨_,HZ.o,rfl⟩,?_⟩);exact cW aQ.o.1 (by omega)
def yb(c:ax)(many:Int)(e:aw)(t:aT):Prop:=∀(M N:aN)(w:aj)(v:an)(b bm:Nat)(vs:List aA),Bd N w->ct M w v e->sE N c vs b bm w->bh c.fields many vs->Gd w->
 xC 328 #[xP b,v] w (cg w λu w'=>∃x,nu c t many e vs x/\ct N w' u x)
def sH {many:Int}{x:aA}(h:dx ⟨1,0⟩ many x):∃n,x= .mk 1 n oe []/\sf n:=by
 rcases h with⟨h,_⟩|⟨_,h⟩
 .simp at h
 .rcases h with⟨_,n,rfl,h1,h2⟩|⟨h,_⟩|⟨h,_⟩
  .exact⟨n,rfl,h1,h2⟩
  .simp at h
  .simp at h
def v7 {many:Int}{x:aA}(h:dx ⟨2,0⟩ many x):∃s,x= .mk 2 0 s []/\fQ s:=by
 rcases h with⟨h,_⟩|⟨_,h⟩
 .simp at h
 .rcases h with⟨h,_⟩|⟨_,s,rfl,h1⟩|⟨h,_⟩
  .simp at h
  .exact⟨s,rfl,h1⟩
  .simp at h
def Kb(many n:Int)(h:sf n):dx ⟨1,0⟩ many (.mk 1 n oe []):= .inr ⟨by simp, .inl ⟨rfl,n,rfl,h.1,h.2⟩⟩
def Kc(many:Int)(s:aM)(h:fQ s):dx ⟨2,0⟩ many (.mk 2 0 s []):= .inr ⟨by simp, .inr (.inl ⟨rfl,s,rfl,h⟩)⟩
def Ei(h:fQ s):s.size<=maxLen:=by have:=h.1;unfold maxLen;omega
def SG {c:ax}{many:Int}{e:aw}{vs:List aA}{N:aN}{w:aj}(he:e.kind≠3)(h:jr v w):∃x,nu c ⟨1,0⟩ many e vs x/\ct N w' v x:=by
 obtain⟨n,hn,rfl⟩:=h;exact⟨_,⟨Kb many n hn,λh=>absurd h he⟩,oK 1 n oe jH⟩
def Pt {c:ax}{many:Int}{e:aw}{vs:List aA}{N:aN}{w:aj}(he:e.kind≠3)(h:ff v w):∃x,nu c ⟨2,0⟩ many e vs x/\ct N w' v x:=by
 obtain⟨s,hs,rfl⟩:=h;exact⟨_,⟨Kc many s hs,λh=>absurd h he⟩,oK 2 0 s (Ei hs)⟩
def jV {w:aj}(h:fH w bm):
 (∃v,∀W,W.heap[bm]? =w.heap[bm]?->(Instr.lookup 402 (.map (some bm)) (xS ⟨#[108,101,110]⟩) false).run prog W= .ok (gI v 353) W)/\
 (∃v,∀W,W.heap[bm]? =w.heap[bm]?->(Instr.lookup 402 (.map (some bm)) (xS ⟨#[108,101,102,116]⟩) false).run prog W= .ok (gI v 356) W)/\
 (∃v,∀W,W.heap[bm]? =w.heap[bm]?->(Instr.lookup 402 (.map (some bm)) (xS ⟨#[102,114,111,109]⟩) false).run prog W= .ok (gI v 360) W)/\
 (∃v,∀W,W.heap[bm]? =w.heap[bm]?->(Instr.lookup 402 (.map (some bm)) (xS ⟨#[102,105,110,100]⟩) false).run prog W= .ok (gI v 361) W)/\
 (∃v,∀W,W.heap[bm]? =w.heap[bm]?->(Instr.lookup 402 (.map (some bm)) (xS ⟨#[116,101,120,116]⟩) false).run prog W= .ok (gI v 363) W):=by
 obtain⟨es,clk,h0,⟨v1,a1,t1⟩,⟨v2,a2,t2⟩,⟨v3,a3,t3⟩,⟨v4,a4,t4⟩,⟨v5,a5,t5⟩,h6⟩:=h;exact⟨⟨v1,λW hW=>fm (hW.trans h0) _ _ a1⟩,⟨v2,λW hW=>fm (hW.trans h0) _ _ a2⟩,⟨v3,λW hW=>fm (hW.trans h0) _ _ a3⟩,⟨v4,λW hW=>fm (hW.trans h0) _ _ a4⟩,⟨v5,λW hW=>fm (hW.trans h0) _ _ a5⟩⟩
inductive nT(c:ax):Int->Int->aM->List aT->aT->Prop
 |num(n:Int)(s:aM):nT c 1 n s [] ⟨1,0⟩
 |txt(n:Int)(s:aM):iD s.data.toList->s.size<=100->nT c 2 n s [] ⟨2,0⟩
 |fld(n:Int)(f:az)(i:Nat):fieldAt c f.name=i->c.fields[i]? =some f->nT c 3 n f.name [] f.type
 |ari(n:Int)(s:aM):s=⟨#[42]⟩\/s=⟨#[45]⟩\/s=⟨#[47]⟩\/s=⟨#[61]⟩\/s=⟨#[62]⟩->nT c 4 n s [⟨1,0⟩,⟨1,0⟩] ⟨1,0⟩
 |cat(n:Int):nT c 4 n ⟨#[38]⟩ [⟨2,0⟩,⟨2,0⟩] ⟨2,0⟩
 |len(n:Int):nT c 6 n ⟨#[108,101,110]⟩ [⟨2,0⟩] ⟨1,0⟩
 |left(n:Int):nT c 6 n ⟨#[108,101,102,116]⟩ [⟨2,0⟩,⟨1,0⟩] ⟨2,0⟩
 |from_(n:Int):nT c 6 n ⟨#[102,114,111,109]⟩ [⟨2,0⟩,⟨1,0⟩] ⟨2,0⟩
 |find(n:Int):nT c 6 n ⟨#[102,105,110,100]⟩ [⟨2,0⟩,⟨2,0⟩] ⟨1,0⟩
 |text(n:Int):nT c 6 n ⟨#[116,101,120,116]⟩ [⟨1,0⟩] ⟨2,0⟩
 |ite(n p:Int):p=1\/p=2->nT c 6 n ⟨#[105,102]⟩ [⟨1,0⟩,⟨p,0⟩,⟨p,0⟩] ⟨p,0⟩
def Vx {α:Type}{l:List α}(h:l.length=1):∃a,l=[a]:=List.length_eq_one_iff.1 h
def qct {α:Type}{l:List α}(h:l.length=2):∃a b,l=[a,b]:=by
 match l,h with
 |[a,b],_=>exact⟨a,b,rfl⟩
def qcu {α:Type}{l:List α}(h:l.length=3):∃a b c,l=[a,b,c]:=by
 match l,h with
 |[a,b,c],_=>exact⟨a,b,c,rfl⟩
def NJ(N:aN)(R:Nat)(m:Nat)(many:Int)(ts:List aT)(i:Nat)(wr:aj):Prop:=
 ∃xs:List aA,xs.length=i/\(∀(j:Nat)(x:aA)(u:aT),xs[j]? =some x->ts[j]? =some u->dx u many x)/\dL N R 44 wr m xs
theorem NJ.below {N:aN}{R:Nat}{many:Int}{ts:List aT}{w:aj}(h:NJ N R m many ts i w)(hb:aq w w'):NJ N R m many ts i w':=by
 obtain⟨xs,h1,h2,h3⟩:=h;exact⟨xs,h1,h2,h3.below hb⟩
theorem NJ.lt {N:aN}{R:Nat}{many:Int}{ts:List aT}{w:aj}(h:NJ N R m many ts i w):R<w.heap.size:=by
 obtain⟨xs,h1,h2,h3⟩:=h;exact h3.lt
theorem NJ.cell {N:aN}{R:Nat}{many:Int}{ts:List aT}{w:aj}(h:NJ N R m many ts i w)(hj:j<m*4):∃v,bt w R j v/\w.frozen? ⟨R,j,none⟩=false:=by
 obtain⟨xs,h1,h2,h3⟩:=h;exact h3.cell (j:=j) hj
theorem NJ.step {N:aN}{R:Nat}{many:Int}{ts:List aT}{w:aj}(h:NJ N R m many ts i w)(hi:i<m){u:aT}(hu:ts[i]? =some u){x:aA}(hx:dx u many x){a b c d:an}(hr:au.rep (orM N R) w [a,b,c,d] x):
 NJ N R m many ts (i+1) ((((w.setCell ⟨R,i*4,none⟩ a).setCell ⟨R,i*4+1,none⟩ b).setCell ⟨R,i*4+2,none⟩ c).setCell ⟨R,i*4+3,none⟩ d):=by
 obtain⟨xs,h1,h2,h3⟩:=h;refine⟨xs++[x],by simp[h1],λj y v hy hv=> ?_,h3.BK rfl h1 hi hr⟩;by_cases hj:j<xs.length
 .rw[Qbc hj]at hy;exact h2 j y v hy hv
 .rw[Qbd (by omega)]at hy;have h0:j-xs.length=0:=by
   cases hq:j-xs.length with
   |zero=>rfl
   |succ q=>rw[hq]at hy;simp at hy
  rw[h0]at hy;simp at hy;subst hy;have:j=i:=by omega
  subst this;rw[hu]at hv;cases hv;exact hx
theorem sE.or {N:aN}{c:ax}{vs:List aA}{R:Nat}{w:aj}(h:sE N c vs b bm w)(k:aq w w')(hR:w.heap.size<=R):sE (orM N R) c vs b bm w':=by
 obtain⟨⟨fa,fc,vv,h1,h2,h3⟩,h4⟩:=h;have E:Ev N w (orM N R) w':=⟨ai.ao k,λi hi=>hi.imp_right λe=>by rw[e];exact hR⟩;exact⟨⟨fa,fc,vv,(k.block b (Qaa.1 h1).1).trans h1,h2.ev E,h3.ev E⟩,h4.below k⟩
def sI {N:aN}{w:aj}{k n:Int}{a:an}(h:ct N w a (aA.mk k n s l)):s.size<=maxLen:=by
 obtain⟨cs,_,h⟩:=h;obtain⟨_,_,_,h⟩:=eZ.iff.1 h;exact h
def Ej {w:aj}{c:Nat}(h:ab M w (xL a 0 c) ([]:List aA)):ab M' w' (xL a 0 c) ([]:List aA):=by
 obtain⟨css,⟨h1,a',c',h2,h3,h4,h5⟩,h6,h7⟩:=h;cases h2;exact⟨[],⟨rfl,a,c,rfl,h3,h4,λh=>absurd h (by simp)⟩,rfl,λi cs x h=>by simp at h⟩
def Pu {p many:Int}(hp:p=1\/p=2){w:aj}{k n:Int}(h:dx ⟨p,0⟩ many (.mk k n s l)){c:Nat}(hs:ab M w (xL a l.length c) l)(hz:s.size<=maxLen):ct M' w' (.agg #[xI k,xI n,xS s,xL a l.length c]) (aA.mk k n s l):=by
 have e:l=[]:=by
  rcases hp with rfl|rfl
  .obtain⟨_,h,_⟩:=sH h;cases h;rfl
  .obtain⟨_,h,_⟩:=v7 h;cases h;rfl
 subst e;exact⟨_,rfl,eZ.iff.2 ⟨_,rfl,Ej hs,hz⟩⟩
def WF(c:ax)(t:aT)(many:Int)(e:aw)(vs:List aA)(u:an)(_:aj):Prop:=∃(k n:Int)(s:aM)(a:fA)(g:Nat)(x:aA),u= .agg #[xI k,xI n,xS s,xL a 0 g]/\nu c t many e vs x/\∀N w',ct N w' u x
section
variable {c:ax}{many:Int}{e:aw}{vs:List aA}{w0 w wr:aj}{f:Nat}{args:Array an}{N:aN}{R:Nat}
def Ib(he:e.kind≠3)(h:xC f args w (cg w0 jr)):xC f args w (cg w0 (WF c ⟨1,0⟩ many e vs)):=h.mono (by
 rintro _ w'⟨_,rfl,⟨n,hn,rfl⟩,hb⟩;exact⟨_,rfl,⟨_,_,_,_,_,_,rfl,⟨Kb many n hn,λh=>absurd h he⟩,λN w'=>oK 1 n oe jH⟩,hb⟩)
def BY(he:e.kind≠3)(h:xC f args w (cg w0 ff)):xC f args w (cg w0 (WF c ⟨2,0⟩ many e vs)):=h.mono (by
 rintro _ w'⟨_,rfl,⟨s,hs,rfl⟩,hb⟩;exact⟨_,rfl,⟨_,_,_,_,_,_,rfl,⟨Kc many s hs,λh=>absurd h he⟩,λN w'=>oK 2 0 s (Ei hs)⟩,hb⟩)
def VB {k0 n0 k1 n1:Int}{s0:aM}(h:ab N wr (xL (some ⟨R,0,none⟩) 2 2) [aA.mk k0 n0 s0 [],aA.mk k1 n1 s1 []]):∃a0 g0 a1 g1,(bt wr R 0 (xI k0)/\bt wr R 1 (xI n0)/\bt wr R 2 (xS s0)/\bt wr R 3 (xL a0 0 g0))/\bt wr R 4 (xI k1)/\bt wr R 5 (xI n1)/\bt wr R 6 (xS s1)/\bt wr R 7 (xL a1 0 g1):=by
 obtain⟨bp,op,cp,a0,g0,RV,_,_,tC⟩:=iU h (i:=0) rfl;obtain⟨bp',op',cp',a1,g1,C2,_,_,mZ⟩:=iU h (i:=1) rfl;simp only[Value.slice.injEq,Qcf,Addr.mk.injEq]at RV C2;obtain⟨⟨rfl,rfl,-⟩,-⟩:=RV;obtain⟨⟨rfl,rfl,-⟩,-⟩:=C2;have q:=(tC wr dQ).1;have r:=(mZ wr dQ).1;simp only[Nat.zero_mul,Nat.one_mul,Nat.add_zero,Nat.zero_add,Qcd]at q r;exact⟨a0,g0,a1,g1,q,r⟩
end
set_option maxHeartbeats 16000000 in
theorem ei(c:ax)(fV:c.name.size<=maxLen)(many:Int)(k n:Int)(s:aM)(l:List aw)(ts:List aT)(t:aT)(RO:ts.length<=3)(Q5:l.length=ts.length)(Q6:∀(i:Nat)(x:aw)(u:aT),l[i]? =some x->ts[i]? =some u->yb c many x u)(FD:nT c k n s ts t):yb c many (.mk k n s l) t:=by
 intro M N w v b bm vs hN gq Fx dA hg;obtain⟨cs,rfl,bV⟩:=gq;obtain⟨lv,rfl,bI,ke⟩:=cH.iff.1 bV;obtain⟨i0,ed,ej,dO,er⟩:=info_parts gY;have HN:=af hN;have HG:=af hg;have zj:=af dA;have CZ:Hd (∀W,aq w W->sE N c vs b bm W):=λW hb=>Fx.below hb;have HK:Hd (∀(i:Nat)(k n:Int)(s:aM)(ll:List aw),l[i]? =some (aw.mk k n s ll)->_):=λi k n s ll hx=>Ka bI hx;have br:Hd (∀(i:Nat)(x:aw)(u:aT)(W:aj)(v:an),l[i]? =some x->ts[i]? =some u->aq w W->w.heap.size+1+1<W.heap.size->ct M W v x->_):=λi x u W v h1 h2 h3 h5 h4=>Q6 i x u h1 h2 M (orM N (w.heap.size+1+1)) W v b bm vs (λj hj=>by rcases hj with hj|rfl;(have:=hN j hj;have:=h3.size;omega);exact h5) h4 (Fx.or h3 (by omega)) dA (hg.below h3);have RR:b<w.heap.size:=by
  obtain⟨⟨fa,fc,vv,h1,_⟩,_⟩:=Fx;exact(Qaa.1 h1).1
 have TJ:bm<w.heap.size:=by
  obtain⟨_,es,clk,h0,_⟩:=Fx;exact(Qaa.1 h0).1
 have TG:=af FD;obtain⟨la,lc,rfl,Jq,hlm,_⟩:=bI.open_;generalize yU:ts.length=m at*;have eF:=af Q5;rw[Q5]at Jq HK⊢;obtain⟨cur,wj,bJ⟩:=mC (P:=prog) ((w.alloc (Eg k n s (.slice la m lc))).alloc (eN 0 0 ⟨#[]⟩ (.slice none 0 0))) 42 44 i0 _ underlying42 ed ej m (by omega) (by omega);have zg:=af yU;clear Fx bV bI Q6 FD Q5 yU hN hg dA;have jN:Hd (Bx w [Eg k n s (xL la m lc),eN 0 0 ⟨#[]⟩ (xL none 0 0)] (((w.alloc (Eg k n s (xL la m lc))).alloc (eN 0 0 ⟨#[]⟩ (xL none 0 0))).alloc (.cells cur 44))):=(Bx.dq w _ _).alloc _;have Ju:Hd (NJ N (w.heap.size+1+1) m many ts 0 (((w.alloc (Eg k n s (xL la m lc))).alloc (eN 0 0 ⟨#[]⟩ (xL none 0 0))).alloc (.cells cur 44))):=⟨[],rfl,λj x u h=>by simp at h,dL.made cur ((Bx.gO w _ _ _).fR rfl) (by rw[bJ,dO];rfl)⟩;clear bJ;rw[show((w.alloc (Eg k n s (xL la m lc))).alloc (eN 0 0 ⟨#[]⟩ (xL none 0 0))).heap.size=w.heap.size+1+1 from by simp]at wj;unfold Eg eN at wj jN Ju;go_enter func328,ntmps328;go_wp2;go_loopg [6,7,17]m(λg _ _ iv wr=>∃i:Nat,i<=m/\g=m-i/\iv=xI i/\Hd (Bx w [Eg k n s (xL la m lc),eN 0 0 ⟨#[]⟩ (xL none 0 0)] wr)/\Hd (NJ N (w.heap.size+1+1) m many ts i wr));case atStart=>exact⟨0,Qbf _,rfl,rfl,jN,Ju⟩
 case round=>
  obtain⟨i,hi,rfl,rfl,HB,HA⟩:=hrel;have hsz:=HB.o.bF;simp only[Qcc,Qcd]at hsz;have Xi:w.heap.size+1+1<wr.heap.size:=HA.o.lt;by_cases bu:i<m
  .obtain⟨⟨xk,xn,xs,xl⟩,hx⟩:=eB l i (by rw[eF.o];exact bu);obtain⟨u,hu⟩:=eB ts i (by rw[zg.o];exact bu);obtain⟨bk,off,cap,xa,xc,hv,yT,ay⟩:=HK.o i _ _ _ _ hx;obtain⟨rfl,rfl⟩:=iB hv;obtain⟨⟨q0,q1,q2,q3⟩,_⟩:=ay wr HB.o.1;have mP:=af (λo=>br.o i _ _ (wr.alloc o) _ hx hu (HB.o.1.alloc HB.o.1.size o) (by simp;omega) (ay (wr.alloc o) (HB.o.1.alloc HB.o.1.size o)).2);have HU:=af hu;clear hv ay hx hu;go_wp2_with fail;refine(mP.o _).mono ?_;rintro e w1⟨_,rfl,⟨⟨yk,yn,ys,yl⟩,hy,F1⟩,aF⟩;obtain⟨ua,uc,rfl,Gg⟩:=dd F1;have aY:=af (HB.o.below (aU aF));have lK:=af (HA.o.below (aU aF));have HY:=af hy;have HYA:=af (show au.rep (α:=aA) (orM N (w.heap.size+1+1)) w1 [xI yk,xI yn,xS ys,xL ua yl.length uc] (.mk yk yn ys yl)by
    obtain⟨cs,hc,hr⟩:=F1;have CO:=congrArg (λv:an=>match v with| .agg a=>a.toList|_=>[]) hc;simp at CO;rw[CO];exact hr);have qef:=lK.o.lt;clear aF hy F1 Gg;have Yt:i*4+3<m*4:=by omega
   obtain⟨u0,p0,f0⟩:=lK.o.cell (j:=i*4) (by omega);obtain⟨u1,p1,f1⟩:=lK.o.cell (j:=i*4+1) (by omega);obtain⟨u2,p2,f2⟩:=lK.o.cell (j:=i*4+2) (by omega);obtain⟨u3,p3,f3⟩:=lK.o.cell (j:=i*4+3) (by omega);go_wp2;go_roundg(m-(i+1));case measure=>omega
   case rel=>
    refine⟨i+1,by omega,rfl,by go_num,?_,?_⟩
    .exact((aY.o.du (B:=w.heap.size+2) ((((dQ.setCell (by simp) _).setCell (by simp) _).setCell (by simp) _).setCell (by simp) _) (by simp)))
    .exact(lK.o.step bu HU.o HY.o.1 HYA.o)
  .have tF:=af (show∃xs:List aA,xs.length=m/\(∀(j:Nat)(x:aA)(u:aT),xs[j]? =some x->ts[j]? =some u->dx u many x)/\ab N wr (xL (some ⟨w.heap.size+1+1,0,none⟩) m m) xs by
    obtain⟨xs,h1,h2,h3⟩:=HA.o;obtain rfl:i=m:=by omega
    exact⟨xs,h1,h2,h3.slice h1 (λh=>by have:=HN.o _ h;omega) (by unfold maxLen;omega)⟩);obtain⟨e0,e1,e2,e3⟩:=ae (HB.o.bG rfl);obtain⟨c0,c1,c2,c3⟩:=ae (HB.o.bU rfl);obtain⟨f0,f1,f2,f3⟩:=iK (HB.o.bU rfl);clear HA;cases TG.o with
   |num n s=>
    go_wp2_with fail;refine(js _ _).mono ?_;rintro e w2⟨_,rfl,⟨z,hz,rfl⟩,bC⟩;have aQ:=af (HB.o.below bC);have HZ:=af hz;clear bC hz;obtain⟨c0,c1,c2,c3⟩:=ae (aQ.o.bU rfl);obtain⟨f0,f1,f2,f3⟩:=iK (aQ.o.bU rfl);unfold kB;go_wp2_with fail;refine Qae (v:=kB z) (by simp[results,results328,go_sem,kB,c0,c1,c2,c3]) rfl ⟨_,rfl,SG (w:=w2) (by simp[aw.kind]) ⟨_,HZ.o,rfl⟩,?_⟩;exact cW aQ.o.1 (by omega)
   |txt n s fu j6=>
    go_wp2_with fail;refine(si s fu (by omega) _).mono ?_;rintro e w2⟨_,rfl,⟨z,hz,rfl⟩,bC⟩;have aQ:=af (HB.o.below bC);have HZ:=af hz;clear bC hz;obtain⟨c0,c1,c2,c3⟩:=ae (aQ.o.bU rfl);obtain⟨f0,f1,f2,f3⟩:=iK (aQ.o.bU rfl);unfold mB;go_wp2_with fail;refine Qae (v:=mB z) (by simp[results,results328,go_sem,mB,c0,c1,c2,c3]) rfl ⟨_,rfl,Pt (w:=w2) (by simp[aw.kind]) ⟨_,HZ.o,rfl⟩,?_⟩;exact cW aQ.o.1 (by omega)
   |fld n f i RU Nt=>
    obtain⟨⟨fa,fc,vv,tt,cq,kZ⟩,_⟩:=CZ.o w dQ;have bW:Hd (∀W,aq w W->bR W b (xK #[xS c.name,xL fa c.fields.length fc,vv, .map (some bm)] 405)):=λW hb=>(hb.block b RR).trans tt;have Nj:Hd (∀W,aq w W->xC 107 #[.agg #[xS c.name,xL fa c.fields.length fc],xS f.name] W (cr (.tuple #[xI (i:Int),xB true]) W)):=λW hb=>mh N _ W c f.name i true (cq.below hb) fV (by rw[RU];rw[if_neg (by omega)]) (by rw[RU];simp);obtain⟨⟨xk,xn,xs,xl⟩,hx⟩:=eB vs i (by rw[zj.o.1];exact(Qad.1 Nt).1);obtain⟨bf,of,cf,xa,xc,rfl,ze,F2,vN⟩:=iU kZ hx;have HCV:=af vN;have qbd:=af (vN w dQ).2;have CK:Hd (xs.size<=maxLen):=(sI qbd.o);have YA:Hd (dx f.type many (.mk xk xn xs xl)):=zj.o.2 i f _ Nt hx;have TK:=af (show vs[(fieldAt c f.name).toNat]? =some (.mk xk xn xs xl)by rw[RU];simpa using hx);have QR:Hd (Dw 371 (.mk xk xn xs xl)):=sj 1 _ (nv YA.o);obtain⟨b0,b1,b2,b3⟩:=ae (bW.o wr HB.o.1);clear tt cq kZ RU Nt hx vN;go_upto_region 11 with fail;go_region_law(first
     |(go_simp;go_at_call 107;refine bY (Nj.o _ HB.o.1.drew) λw2 bC=> ?_;have aQ:=af (HB.o.drew.below bC);clear bC));all_goals
     obtain⟨b0,b1,b2,b3⟩:=ae (bW.o w2 aQ.o.1);obtain⟨⟨q0,q1,q2,q3⟩,gq⟩:=HCV.o w2 aQ.o.1;have QS:=af (QR.o (ew N w 2) w2 _ (dN HN.o aQ.o.bF) (qbd.o.ev (dF aQ.o.1)));clear gq;go_wp2_with fail;refine(QS.o).mono ?_;rintro e w3⟨_,rfl,hy,bP⟩;obtain⟨ua,uc,rfl,Gg⟩:=dd hy;have bO:=af (aQ.o.below bP);have HY:=af Gg;clear bP hy Gg;obtain⟨c0,c1,c2,c3⟩:=ae (bO.o.bU rfl);obtain⟨f0,f1,f2,f3⟩:=iK (bO.o.bU rfl);go_wp2_with fail;refine Qae (v:= .agg #[xI xk,xI xn,xS xs,xL ua xl.length uc]) (by simp[results,results328,go_sem,c0,c1,c2,c3]) rfl ⟨_,rfl,⟨.mk xk xn xs xl,⟨YA.o,λ_=>TK.o⟩,?_⟩,?_⟩
     .exact⟨_,rfl,kz (HY.o.ev ((((((fj w3).setCell (.inl (.inr ⟨by simp,by simp⟩)) _).setCell (.inl (.inr ⟨by simp,by simp⟩)) _).setCell (.inl (.inr ⟨by simp,by simp⟩)) _).setCell (.inl (.inr ⟨by simp,by simp⟩)) _))) CK.o⟩
     .exact cW bO.o.1 (by omega)
   |ari n s hs=> ?ari
   |cat n=> ?cat
   |len n=> ?len
   |left n=> ?left
   |from_ n=> ?from_
   |find n=> ?find
   |text n=> ?text
   |ite n p hp=> ?ite;all_goals
    obtain⟨xs,KI,RW,mX⟩:=tF.o;obtain⟨⟨fa,fc,vv,tt,-,-⟩,l9⟩:=CZ.o wr HB.o.1;obtain⟨b0,b1,b2,b3⟩:=ae tt;have ed:(0:Int)<2:=by omega
    have NN:(1:Int)<2:=by omega
    have F6:∀(v u:an)(w:aj),(Instr.field 425 (.agg #[v,u]) 1).run prog w= .ok u w:=λ_ _ _=>by kernel_rfl
    have FX:aq wr wr.drew:=⟨rfl,rfl,rfl,bN,λ_ _=>rfl⟩;have hgd:=HG.o.below HB.o.1.drew
   case' ari|cat|left|from_|find=>
    obtain rfl:m=2:=by simpa using zg.o.symm
    obtain⟨x0,x1,rfl⟩:=qct KI
   case' len|text=>
    obtain rfl:m=1:=by simpa using zg.o.symm
    obtain⟨x0,rfl⟩:=Vx KI
   case' ari|text=>
    obtain⟨z0,rfl,ej⟩:=sH (RW 0 _ _ rfl rfl)
   case' cat|left|from_|find|len=>
    obtain⟨z0,rfl,ej⟩:=v7 (RW 0 _ _ rfl rfl)
   case' ari|left|from_=>
    obtain⟨z1,rfl,dO⟩:=sH (RW 1 _ _ rfl rfl)
   case' cat|find=>
    obtain⟨z1,rfl,dO⟩:=v7 (RW 1 _ _ rfl rfl)
   case' ari|cat=>
    obtain⟨a0,g0,a1,g1,⟨q0,q1,q2,q3⟩,r0,r1,r2,r3⟩:=VB mX
   case' ari=>
    unfold oe at q2 r2;have NY:=af (Ib (c:=c) (many:=many) (e:= .mk 4 n s l) (vs:=vs) (by simp[aw.kind]) (Ia s hs z0 z1 ej dO a0 a1 g0 g1 wr.drew));clear hs tt l9 mX RW KI FX hgd;go_upto_region 14 with fail
   case' cat=>
    have NY:=af (BY (c:=c) (many:=many) (e:= .mk 4 n ⟨#[38]⟩ l) (vs:=vs) (by simp[aw.kind]) (Eh z0 z1 ej dO a0 a1 g0 g1 wr.drew));clear tt l9 mX RW KI FX hgd;go_upto_region 14 with fail
   case' len=>
    have NY:=af (Ib (c:=c) (many:=many) (e:= .mk 6 n ⟨#[108,101,110]⟩ l) (vs:=vs) (by simp[aw.kind]) (Sx (mX.below FX) 2 0 z0 [] rfl ej));obtain⟨v,qq⟩:=(jV l9).1
   case' left=>
    have NY:=af (BY (c:=c) (many:=many) (e:= .mk 6 n ⟨#[108,101,102,116]⟩ l) (vs:=vs) (by simp[aw.kind]) (O3 (mX.below FX) 2 0 z0 [] rfl 1 z1 oe [] rfl ej));obtain⟨v,qq⟩:=(jV l9).2.1
   case' from_=>
    have NY:=af (BY (c:=c) (many:=many) (e:= .mk 6 n ⟨#[102,114,111,109]⟩ l) (vs:=vs) (by simp[aw.kind]) (O4 (mX.below FX) 2 0 z0 [] rfl 1 z1 oe [] rfl ej));obtain⟨v,qq⟩:=(jV l9).2.2.1
   case' find=>
    have NY:=af (Ib (c:=c) (many:=many) (e:= .mk 6 n ⟨#[102,105,110,100]⟩ l) (vs:=vs) (by simp[aw.kind]) (O5 (mX.below FX) 2 0 z0 [] rfl 2 0 z1 [] rfl ej hgd));obtain⟨v,qq⟩:=(jV l9).2.2.2.1
   case' text=>
    have NY:=af (BY (c:=c) (many:=many) (e:= .mk 6 n ⟨#[116,101,120,116]⟩ l) (vs:=vs) (by simp[aw.kind]) (O7 (mX.below FX) 1 z0 oe [] rfl ej hgd));obtain⟨v,qq⟩:=(jV l9).2.2.2.2
   case' ite=>
    obtain rfl:m=3:=by simpa using zg.o.symm
    obtain⟨x0,x1,x2,rfl⟩:=qcu KI;obtain⟨z0,rfl,ej⟩:=sH (RW 0 _ _ rfl rfl);have NR:dx ⟨p,0⟩ many (if z0=0 then x2 else x1):=by
     split
     .exact RW 2 _ _ rfl rfl
     .exact RW 1 _ _ rfl rfl
    have NY:Hd (xC 367 _ wr.drew (cg wr.drew (WF c ⟨p,0⟩ many (.mk 6 n ⟨#[105,102]⟩ l) vs))):=(Vv (mX.below FX) 1 z0 oe [] rfl x1 x2 rfl rfl).mono (by
     rintro _ w'⟨u,rfl,hu,hb⟩;generalize(if z0=0 then x2 else x1)=x at*;obtain⟨yk,yn,ys,yl⟩:=x;obtain⟨ua,uc,rfl,Gg⟩:=dd hu;have e:yl=[]:=by
      rcases hp with rfl|rfl
      .obtain⟨_,h,_⟩:=sH NR;cases h;rfl
      .obtain⟨_,h,_⟩:=v7 NR;cases h;rfl
     subst e;exact⟨_,rfl,⟨_,_,_,_,_,_,rfl,⟨NR,λh=>by simp[aw.kind]at h⟩,λN w'=>Pu hp NR Gg (sI hu)⟩,hb⟩);have qq:=J9 l9
   case' len|left|from_|find|text|ite=>
    have Q7:=qq wr.drew rfl;clear qq tt l9 mX RW KI FX hgd;unfold gI at Q7;go_upto_region 18 with fail
   all_goals
    go_region_law(first
     |(go_simp;first|go_at_call 372|go_at_call 353|go_at_call 356|go_at_call 360|go_at_call 361|go_at_call 363|go_at_call 367
       refine(NY.o).mono ?_;rintro e w2⟨_,rfl,⟨yk,yn,ys,ya,yc,x,rfl,hx⟩,bC⟩;have aQ:=af (HB.o.drew.below bC);have HX:=af hx;clear bC hx;have c0:=(ae (aQ.o.bU rfl)).1;have c1:=(ae (aQ.o.bU rfl)).2.1;have c2:=(ae (aQ.o.bU rfl)).2.2.1;have c3:=(ae (aQ.o.bU rfl)).2.2.2;obtain⟨f0,f1⟩:=mV (aQ.o.bU rfl);have f2:=ag (aQ.o.bU rfl) 2;have f3:=ag (aQ.o.bU rfl) 3))
   all_goals
    go_wp2_with fail;exact Qae (v:= .agg #[xI yk,xI yn,xS ys,xL ya 0 yc]) (by simp[results,results328,go_sem,c0,c1,c2,c3]) rfl ⟨_,rfl,⟨x,HX.o.1,HX.o.2 _ _⟩,cW aQ.o.1 (by omega)⟩
def gx {l:List aw}{ts:List aT}(h:∀p∈l.zip ts,sF c p.1 p.2):∀(i:Nat)(x:aw)(u:aT),l[i]? =some x->ts[i]? =some u->sF c x u:=by
 intro i x u hx hu;refine h (x,u) (Qaf (i:=i) ?_);rw[List.getElem?_zip_eq_some];exact⟨hx,hu⟩
def fI {l:List aw}{ts:List aT}(h:∀p∈l.zip ts,yb c many p.1 p.2):∀(i:Nat)(x:aw)(u:aT),l[i]? =some x->ts[i]? =some u->yb c many x u:=by
 intro i x u hx hu;refine h (x,u) (Qaf (i:=i) ?_);rw[List.getElem?_zip_eq_some];exact⟨hx,hu⟩
def Mc(fV:c.name.size<=maxLen){e:aw}{t:aT}(h:kW c e t):sF c e t:=by
 induction h with
 |num n h1 h2=>exact dM c fV _ _ _ [] [] _ (by decide) rfl (λi x u h=>by simp at h) (.num _)
 |txt s hs=>exact dM c fV _ _ _ [] [] _ (by decide) rfl (λi x u h=>by simp at h) (.txt _)
 |fld f i h1 h2=>exact dM c fV _ _ _ [] [] _ (by decide) rfl (λi x u h=>by simp at h) (.fld f i h1 h2)
 |ari s a b hs _ _ h1 h2=>exact dM c fV _ _ _ [a,b] [⟨1,0⟩,⟨1,0⟩] _ (by decide) rfl (gx (by simp;exact⟨h1,h2⟩)) (.ari _ (by rcases hs with rfl|rfl|rfl;exact .inl rfl;exact .inr (.inl rfl);exact .inr (.inr rfl)))
 |cat a b _ _ h1 h2=>exact dM c fV _ _ _ [a,b] [⟨2,0⟩,⟨2,0⟩] _ (by decide) rfl (gx (by simp;exact⟨h1,h2⟩)) .cat
 |cmp s a b hs _ _ h1 h2=>exact dM c fV _ _ _ [a,b] [⟨1,0⟩,⟨1,0⟩] _ (by decide) rfl (gx (by simp;exact⟨h1,h2⟩)) (.cmp _ (by rcases hs with rfl|rfl;exact .inl rfl;exact .inr rfl))
 |len a _ h1=>exact dM c fV _ _ _ [a] [⟨2,0⟩] _ (by decide) rfl (gx (by simp;exact h1)) (.call ⟨#[108,101,110]⟩ 1 [⟨2,0⟩] (by simp[jU]))
 |text a _ h1=>exact dM c fV _ _ _ [a] [⟨1,0⟩] _ (by decide) rfl (gx (by simp;exact h1)) (.call ⟨#[116,101,120,116]⟩ 2 [⟨1,0⟩] (by simp[jU]))
 |left a b _ _ h1 h2=>exact dM c fV _ _ _ [a,b] [⟨2,0⟩,⟨1,0⟩] _ (by decide) rfl (gx (by simp;exact⟨h1,h2⟩)) (.call ⟨#[108,101,102,116]⟩ 2 [⟨2,0⟩,⟨1,0⟩] (by simp[jU]))
 |from_ a b _ _ h1 h2=>exact dM c fV _ _ _ [a,b] [⟨2,0⟩,⟨1,0⟩] _ (by decide) rfl (gx (by simp;exact⟨h1,h2⟩)) (.call ⟨#[102,114,111,109]⟩ 2 [⟨2,0⟩,⟨1,0⟩] (by simp[jU]))
 |find a b _ _ h1 h2=>exact dM c fV _ _ _ [a,b] [⟨2,0⟩,⟨2,0⟩] _ (by decide) rfl (gx (by simp;exact⟨h1,h2⟩)) (.call ⟨#[102,105,110,100]⟩ 1 [⟨2,0⟩,⟨2,0⟩] (by simp[jU]))
 |ite a b d p hp _ _ _ h1 h2 h3=>exact dM c fV _ _ _ [a,b,d] [⟨1,0⟩,⟨p,0⟩,⟨p,0⟩] _ (by simp) rfl (gx (by simp;exact⟨h1,h2,h3⟩)) (.ite p hp)
def SH:∀s∈([[120],[45],[98],[110,111],[97,32,98]]:List (List UInt8)),s.length<=100/\∀c∈s,32<=c/\c<127:=by decide
def Pv(fV:c.name.size<=maxLen)(many:Int){e:aw}{t:aT}(h:kW c e t):yb c many e t:=by
 induction h with
 |num n h1 h2=>exact ei c fV many _ _ _ [] [] _ (by decide) rfl (λi x u h=>by simp at h) (.num _ _)
 |txt s hs=>
  obtain⟨h1,h2⟩:=SH s hs;exact ei c fV many _ _ _ [] [] _ (by decide) rfl (λi x u h=>by simp at h) (.txt _ _ (oR _ (by simpa [bL]using h2)) (by simpa [bL,ByteArray.size]using h1))
 |fld f i h1 h2=>exact ei c fV many _ _ _ [] [] _ (by decide) rfl (λi x u h=>by simp at h) (.fld _ f i h1 h2)
 |ari s a b hs _ _ h1 h2=>exact ei c fV many _ _ _ [a,b] [⟨1,0⟩,⟨1,0⟩] _ (by decide) rfl (fI (by simp;exact⟨h1,h2⟩)) (.ari _ _ (by rcases hs with rfl|rfl|rfl;exact .inl rfl;exact .inr (.inl rfl);exact .inr (.inr (.inl rfl))))
 |cat a b _ _ h1 h2=>exact ei c fV many _ _ _ [a,b] [⟨2,0⟩,⟨2,0⟩] _ (by decide) rfl (fI (by simp;exact⟨h1,h2⟩)) (.cat _)
 |cmp s a b hs _ _ h1 h2=>exact ei c fV many _ _ _ [a,b] [⟨1,0⟩,⟨1,0⟩] _ (by decide) rfl (fI (by simp;exact⟨h1,h2⟩)) (.ari _ _ (by rcases hs with rfl|rfl;exact .inr (.inr (.inr (.inl rfl)));exact .inr (.inr (.inr (.inr rfl)))))
 |len a _ h1=>exact ei c fV many _ _ _ [a] [⟨2,0⟩] _ (by decide) rfl (fI (by simp;exact h1)) (.len _)
 |text a _ h1=>exact ei c fV many _ _ _ [a] [⟨1,0⟩] _ (by decide) rfl (fI (by simp;exact h1)) (.text _)
 |left a b _ _ h1 h2=>exact ei c fV many _ _ _ [a,b] [⟨2,0⟩,⟨1,0⟩] _ (by decide) rfl (fI (by simp;exact⟨h1,h2⟩)) (.left _)
 |from_ a b _ _ h1 h2=>exact ei c fV many _ _ _ [a,b] [⟨2,0⟩,⟨1,0⟩] _ (by decide) rfl (fI (by simp;exact⟨h1,h2⟩)) (.from_ _)
 |find a b _ _ h1 h2=>exact ei c fV many _ _ _ [a,b] [⟨2,0⟩,⟨2,0⟩] _ (by decide) rfl (fI (by simp;exact⟨h1,h2⟩)) (.find _)
 |ite a b d p hp _ _ _ h1 h2 h3=>exact ei c fV many _ _ _ [a,b,d] [⟨1,0⟩,⟨p,0⟩,⟨p,0⟩] _ (by simp) rfl (fI (by simp;exact⟨h1,h2,h3⟩)) (.ite _ p hp)
structure XOk(e:aw):Prop where
 nodes:iw e=true
 deep:kM e<=8
 size:ek e<=40
def scO(s:aM)(a b c:an):Obj:=xK #[xS s,a,b,c] 405
def SI(w2:aj)(nm:aM)(fv vv:an)(K bm:Nat)(wx:aj):Prop:=wx.heap[K]? =some (scO nm fv vv (.map (some bm)))/\fH wx bm/\aq w2 wx
def Ek {vv:an}(l9:fH w' bm)(hj:aq w2 w'):SI w2 nm fv vv w'.heap.size bm (w'.alloc (xK #[xS nm,fv,vv, .map (some bm)] 405)):=
 ⟨Qbh w' _,l9.below bM,hj.alloc hj.size _⟩
def Pw {vv:an}{x0 x1 x2 x3:an}(l9:fH w' bm)(hj:aq w2 w')(hk:w'.heap[K]? =some (xK #[x0,x1,x2,x3] 405)/\w2.heap.size<=K)(hb:K<bm):
 SI w2 nm fv vv K bm ((((w'.setCell ⟨K,0,none⟩ (xS nm)).setCell ⟨K,1,none⟩ fv).setCell ⟨K,2,none⟩ vv).setCell ⟨K,3,none⟩ (.map (some bm))):=by
 have h1:=Qca _ K 0 _ _ (xS nm) hk.1;have h2:=Qca _ K 1 _ _ fv h1;have h3:=Qca _ K 2 _ _ vv h2;have h4:=Qca _ K 3 _ _ (.map (some bm)) h3;refine⟨by simpa [scO]using h4,l9.only (S:=λi=>i=K) ?_ (λi hi=>by rw[hi];exact hb),cW hj hk.2⟩;exact((((ai.refl (λi=>i=K) w').setCell (p:=⟨K,0,none⟩) (.inl rfl) _).setCell (p:=⟨K,1,none⟩) (.inl rfl) _).setCell (p:=⟨K,2,none⟩) (.inl rfl) _).setCell (p:=⟨K,3,none⟩) (.inl rfl) _
def Ic(h:Below B w W)(hK:B<=K)(hB:B<=W.heap.size):Below B w (((W.setCell ⟨K,0,none⟩ a0).setCell ⟨K,1,none⟩ a1).alloc o):=by
 have h1:=(h.setCell (p:=⟨K,0,none⟩) hK a0).setCell (p:=⟨K,1,none⟩) hK a1;exact h1.alloc (by simpa [World.setCell]using hB) o
def zD(hb:Below (w2.alloc o).drew.heap.size (w2.alloc o).drew w'):w'.heap[w2.heap.size]? =some o/\w2.heap.size<=w2.heap.size:=⟨(hb.block w2.heap.size (by show _<(w2.alloc o).heap.size;simp)).trans (Qbh w2 o),bN⟩
def jB(hb:Below w2.drew.heap.size w2.drew w'):aq w2 w':=(Qbg _ w2).drew.trans hb
def jD(hb:Below (w2.alloc o).drew.heap.size (w2.alloc o).drew w'):aq w2 w':=((Qbg _ w2).alloc bN o).drew.trans (hb.mono (by show w2.heap.size<=(w2.alloc o).heap.size;simp))
def bmD(h:(w2.alloc o).drew.heap.size<=bm):w2.heap.size<bm:=by
 have:(w2.alloc o).heap.size<=bm:=h;simp at this;omega
def El(c:ax)(hc:cG c)(e:aw)(t:aT)(hx:XOk e)(ht:kW c e t)(M:aN)(w:aj)(v fv:an)(hM:Bd M w)(gq:ct M w v e)(cq:ab M w fv c.fields)(hT:Tb w):
 xC 287 #[v, .agg #[xS c.name,fv]] w λε w'=>ε=xR (.tuple #[.agg #[xI t.kind,xI t.of],xI 0])/\aq w w':=by
 have fV:=cF hc.small;have HR:=gG (w:=w) (λW hb=>AD e hx.nodes hx.deep hx.size M W v (hM.below hb) (gq.below hb) (hT.below hb));have HC:Hd (∀W,aq w W->xC 45 #[.agg #[xS c.name,fv]] W (cr (xB true) W)):=λW hb=>by
  have h:=fX M fv W c (cq.below hb) fV;rw[hc.right]at h;exact h
 have Xa:Hd (∀W b bm,aq w W->sE M c [] b bm W->_):=λW b bm h1 h2=>Mc fV ht M M W v b bm [] (gq.below h1) h2;have iL:=af cq;obtain⟨cs,rfl,bV⟩:=gq;obtain⟨k,n,s,l⟩:=e;obtain⟨lv,rfl,bI,_⟩:=cH.iff.1 bV;obtain⟨la,lc,rfl,_⟩:=bI.open_;obtain⟨fa,fc,rfl,_⟩:=cq.open_;clear hx ht cq bV bI hT;go_enter func287,ntmps287;go_wp2_with fail;refine bY (HR.o _ (Bx.gO w _ _ _).1) λw1 aF=> ?_;have aY:=af ((Bx.gO w (Eg k n s (xL la l.length lc)) (cU c.name (xL fa c.fields.length fc)) (FT 0 0)).below aF);obtain⟨a0,a1⟩:=ah (aY.o.bU rfl);clear aF;go_wp2_with fail;refine bY (HC.o _ aY.o.1) λw2 bC=> ?_;have aQ:=af (aY.o.below bC);have HS:Hd (∀W',aq w2 W'->W'.cell? ⟨w.heap.size+1,0,none⟩=some (xS c.name)/\W'.cell? ⟨w.heap.size+1,1,none⟩=some (xL fa c.fields.length fc)):=λW' hb=>ah ((aQ.o.below hb).bU rfl);obtain⟨a0,a1⟩:=ah (aQ.o.bU rfl);have HJ:Hd (aq w2 w2):=dQ;clear bC;go_upto_region 5 with fail;go_cut [6](λs6 wx=>∃K bm:Nat,s6=xP K/\Hd (SI w2 c.name (xL fa c.fields.length fc) (xL none 0 0) K bm wx));case first=>
  go_region_held3(λw'=>w'.cell? ⟨w.heap.size+1,0,none⟩=some (xS c.name)/\w'.cell? ⟨w.heap.size+1,1,none⟩=some (xL fa c.fields.length fc))
   (with_reducible first|exact HS.o _ HJ.o|exact HS.o _ HJ.o.drew|exact HS.o _ (HJ.o.alloc HJ.o.size _)|exact HS.o _ ((HJ.o.alloc HJ.o.size _).drew)|exact HS.o _ (cW HJ.o HK.o.2))
   ((go_at_call 326;refine(Ef _).mono ?_;rintro e w3⟨bm,rfl,l9,TJ,bP⟩;have KL:=af l9;try(with_reducible(have CY:=af (bmD TJ)))
     try(with_reducible(have HK:=af (zD bP)))
     try with_reducible have k0:=(ae HK.o.1).1
     try with_reducible have k1:=(ae HK.o.1).2.1
     try with_reducible have k2:=(ae HK.o.1).2.2.1
     try with_reducible have k3:=(ae HK.o.1).2.2.2
     try with_reducible have y0:=ag HK.o.1 0
     try with_reducible have y1:=ag HK.o.1 1
     try with_reducible have y2:=ag HK.o.1 2
     try with_reducible have y3:=ag HK.o.1 3
     have HJ:Hd (aq w2 w3):=(by with_reducible first|exact af (jB bP)|exact af (jD bP));clear bP l9 TJ));all_goals(go_wp2;go_meet)
  all_goals
   refine⟨_,bm,rfl,?_⟩;first
    |with_reducible exact af (Ek KL.o HJ.o)
    |with_reducible exact af (Pw KL.o HJ.o HK.o CY.o)
 case rest=>
  obtain⟨K,bm,rfl,HM⟩:=hcut;obtain⟨w3,hw3⟩:=bS (wc);subst hw3;have bO:=af (aQ.o.below HM.o.2.2);obtain⟨e0,e1,e2,e3⟩:=ae (bO.o.bG rfl);have CZ:Hd (sE M c [] K bm w3):=⟨⟨fa,fc,xL none 0 0,HM.o.1,iL.o.below bO.o.1,ab.nil _ _⟩,HM.o.2.1⟩;clear a0 a1 HS;go_wp2_with fail;refine bY (Xa.o _ _ _ bO.o.1 CZ.o) λw4 eA=> ?_;have dI:=af (bO.o.below eA);obtain⟨c0,c1⟩:=ah (dI.o.fR rfl);obtain⟨f0,f1⟩:=mV (dI.o.fR rfl);have Nn:w.heap.size+1+1<w4.heap.size:=(Qaa.1 (dI.o.fR rfl)).1;clear eA;go_wp2_with fail;refine Qae (v:= .tuple #[.agg #[xI t.kind,xI t.of],xI 0]) (by simp[results,results287,go_sem,c0,c1,Nn]) rfl ⟨rfl,?_⟩;exact Ic dI.o.1 (by omega) (by omega)
def Px(c:ax)(hc:cG c)(many:Int)(hm:many<=100000)(e:aw)(t:aT)(hx:XOk e)(ht:kW c e t)(M:aN)(w:aj)(v fv vv:an)(vs:List aA)(hM:Bd M w)(gq:ct M w v e)(cq:ab M w fv c.fields)(dA:ab M w vv vs)(hv:bh c.fields many vs)(hg:Gd w):
 xG 289 #[v, .agg #[xS c.name,fv],vv] w λr w'=>∃u x,r= .tuple #[u,xI 0]/\nu c t many e vs x/\ct M w' u x:=by
 have fV:=cF hc.small;have Xa:=gG (w:=w) (λW hb=>El c hc e t hx ht M W v fv (hM.below hb) (gq.below hb) (cq.below hb) (hg.tb.below hb));have qk:=gG (w:=w) (λW hb=>hZ c hc.right fV many hm vs hv M W fv vv (cq.below hb) (dA.below hb) (hg.tb.below hb));have HWX:Hd (∀W b bm,aq w W->w.heap.size+3<=W.heap.size->sE (ew M w 3) c vs b bm W->_):=λW b bm h1 h3 h2=>Pv fV many ht M (ew M w 3) W v b bm vs (dN hM h3) (gq.below h1) h2 hv (hg.below h1);have iL:=af cq;have zj:=af dA;obtain⟨cs,rfl,bV⟩:=gq;obtain⟨k,n,s,l⟩:=e;obtain⟨lv,rfl,bI,_⟩:=cH.iff.1 bV;obtain⟨la,lc,rfl,_⟩:=bI.open_;obtain⟨fa,fc,rfl,_⟩:=cq.open_;obtain⟨va,vc,rfl,_⟩:=dA.open_;clear hx ht cq bV bI hg dA hv;go_enter func289,ntmps289;go_wp2_with fail;refine bY (Xa.o _ (Bx.gO w _ _ _).1) λw1 aF=> ?_;have aY:=af ((Bx.gO w (Eg k n s (xL la l.length lc)) (cU c.name (xL fa c.fields.length fc)) (eN 0 0 ⟨#[]⟩ (xL none 0 0))).below aF);obtain⟨a0,a1⟩:=ah (aY.o.bU rfl);have Ct:w.heap.size+1<w1.heap.size:=(Qaa.1 (aY.o.bU rfl)).1;clear aF;go_wp2_with fail;refine bY (qk.o _ (aY.o.1.alloc aY.o.1.size _)) λw2 bC=> ?_;have aQ:=af (aY.o.below (aU bC));have HS:Hd (∀W',aq w2 W'->W'.cell? ⟨w.heap.size+1,0,none⟩=some (xS c.name)/\W'.cell? ⟨w.heap.size+1,1,none⟩=some (xL fa c.fields.length fc)):=λW' hb=>ah ((aQ.o.below hb).bU rfl);obtain⟨a0,a1⟩:=ah (aQ.o.bU rfl);have HJ:Hd (aq w2 w2):=dQ;clear bC;go_upto_region 7 with fail;go_cut [12](λs6 wx=>∃K bm:Nat,s6=xP K/\Hd (SI w2 c.name (xL fa c.fields.length fc) (xL va vs.length vc) K bm wx));case first=>
  go_region_held3(λw'=>w'.cell? ⟨w.heap.size+1,0,none⟩=some (xS c.name)/\w'.cell? ⟨w.heap.size+1,1,none⟩=some (xL fa c.fields.length fc))
   (with_reducible first|exact HS.o _ HJ.o|exact HS.o _ HJ.o.drew|exact HS.o _ (HJ.o.alloc HJ.o.size _)|exact HS.o _ ((HJ.o.alloc HJ.o.size _).drew)|exact HS.o _ (cW HJ.o HK.o.2))
   ((go_at_call 326;refine(Ef _).mono ?_;rintro e w3⟨bm,rfl,l9,TJ,bP⟩;have KL:=af l9;try(with_reducible(have CY:=af (bmD TJ)))
     try(with_reducible(have HK:=af (zD bP)))
     try with_reducible have k0:=(ae HK.o.1).1
     try with_reducible have k1:=(ae HK.o.1).2.1
     try with_reducible have k2:=(ae HK.o.1).2.2.1
     try with_reducible have k3:=(ae HK.o.1).2.2.2
     try with_reducible have y0:=ag HK.o.1 0
     try with_reducible have y1:=ag HK.o.1 1
     try with_reducible have y2:=ag HK.o.1 2
     try with_reducible have y3:=ag HK.o.1 3
     have HJ:Hd (aq w2 w3):=(by with_reducible first|exact af (jB bP)|exact af (jD bP));clear bP l9 TJ));all_goals(go_wp2;go_meet)
  all_goals
   refine⟨_,bm,rfl,?_⟩;first
    |with_reducible exact af (Ek KL.o HJ.o)
    |with_reducible exact af (Pw KL.o HJ.o HK.o CY.o)
 case rest=>
  obtain⟨K,bm,rfl,HM⟩:=hcut;obtain⟨w3,hw3⟩:=bS (wc);subst hw3;have bO:=af (aQ.o.below HM.o.2.2);obtain⟨e0,e1,e2,e3⟩:=ae (bO.o.bG rfl);have CZ:Hd (sE (ew M w 3) c vs K bm w3):=⟨⟨fa,fc,_,HM.o.1,iL.o.ev (dF bO.o.1),zj.o.ev (dF bO.o.1)⟩,HM.o.2.1⟩;clear a0 a1 HS;go_wp2_with fail;refine(HWX.o _ _ _ bO.o.1 bO.o.bF CZ.o).mono ?_;rintro e w4⟨_,rfl,⟨⟨yk,yn,ys,yl⟩,YK,F1⟩,eA⟩;obtain⟨ua,uc,rfl,Gg⟩:=dd F1;have HY:=af Gg;have HY2:Hd (ys.size<=maxLen):=sI F1;have TK:=af YK;have dI:=af (bO.o.below eA);obtain⟨c0,c1,c2,c3⟩:=ae (dI.o.fR rfl);obtain⟨f0,f1,f2,f3⟩:=iK (dI.o.fR rfl);clear eA F1 YK Gg;go_wp2_with fail;refine Qae (v:= .tuple #[.agg #[xI yk,xI yn,xS ys,xL ua yl.length uc],xI 0]) (by simp[results,results289,go_sem,c0,c1,c2,c3]) rfl ⟨_,rfl,⟨_,_,rfl,TK.o,⟨_,rfl,kz (HY.o.ev ?_) HY2.o⟩⟩,cW dI.o.1 (by omega)⟩;exact((((fj w4).setCell (.inl (.inr ⟨by simp;omega,by simp⟩)) _).setCell (.inl (.inr ⟨by simp;omega,by simp⟩)) _).setCell (.inl (.inr ⟨by simp;omega,by simp⟩)) _).setCell (.inl (.inr ⟨by simp;omega,by simp⟩)) _
end
section
open Go.RowKit Go.Shelf
def PG {k n:Int}(h:ct M w v (aA.mk k n s l)):s.size<=maxLen:=by
 obtain⟨cs,rfl,hr⟩:=h;obtain⟨_,_,_,hz⟩:=eZ.iff.1 hr;exact hz
end
section
open Go.RowKit
def Ug:aA->Prop| .mk k n s l=>∀(M:aN)(w:aj)(v:an),Bd M w->ct M w v (aA.mk k n s l)->xC 203 #[v] w (cg w λv' w'=>∃a,v'= .agg #[xI k,xI n,xS s,xL a l.length l.length]/\zy w.heap.size w'.heap.size w' [xI k,xI n,xS s,xL a l.length l.length] (.mk k n s l))
def Kf(w:aj)(l:List aA)(v:an)(w':aj):Prop:=l=[]/\v=xL none 0 0\/∃B,0<l.length/\w.heap.size<=B/\v=xL (some ⟨B,0,none⟩) l.length l.length/\lj zy B w' l.length l
def Is(l:List aA)(hl:l.length<=12)(h0:0<l.length)(kp:∀y∈l,Ug y)(M:aN)(w:aj)(v:an)(hM:Bd M w)(hs:ab M w v l):
 xG 218 #[v, .func (.func 203) #[] #[]] w (Kf w l):=by
 obtain⟨i0,ed,ej,dO,er⟩:=info_parts gY;have HC:Hd (∀(i:Nat)(k n:Int)(s:aM)(ll:List aA),l[i]? =some (.mk k n s ll)->_):=λi k n s ll hx=>dy hs hx;have CT:Hd (∀y∈l,Ug y):=kp;obtain⟨a,bQ,rfl,cV,lL,_⟩:=hs.open_;generalize hn:l.length=n at*;have eF:=af hn;have yJ:((n:Int)==0)=false:=by simp;omega
 obtain⟨cur,wj,bJ⟩:=mC (P:=prog) w 42 44 i0 _ underlying42 ed ej n (by omega) (by omega);have Ju:Hd (lj zy w.heap.size (w.alloc (.cells cur 44)) n []):=lj.made cur (Qbh w _) (by rw[bJ,dO]);go_enter func218,ntmps218;go_wp2;go_loopg [6,7,16]n(λg _ _ iv wr=>∃i:Nat,i<=n/\g=n-i/\iv=xI i/\Hd (lj zy w.heap.size wr n (l.take i))/\Hd (aq w wr));case atStart=>exact⟨0,Qbf _,rfl,rfl,Ju,bM⟩
 case round=>
  obtain⟨i,hi,rfl,rfl,HA,HB⟩:=hrel;have hsz:w.heap.size<wr.heap.size:=HA.o.lt;by_cases bu:i<n
  .obtain⟨⟨xk,xn,xs,xl⟩,hx⟩:=eB l i (by rw[eF.o];exact bu);obtain⟨b,off,cap,a',c',hv,hb,bI,mX,ay⟩:=HC.o i xk xn xs xl hx;obtain⟨rfl,rfl⟩:=iB hv;obtain⟨q0,q1,q2,q3⟩:=(ay wr HB.o).1;have ow:=af (show(l.take i).length=i by have:=eF.o;rw[Qdb];omega);have nG:=af (show l.take (i+1)=l.take i++[.mk xk xn xs xl]by rw[Qbb,hx];rfl);have br:Hd (∀o,xC 203 #[.agg #[xI xk,xI xn,xS xs,xL a' xl.length c']] (wr.alloc o) (cg (wr.alloc o) λv' w'=>∃a,v'= .agg #[xI xk,xI xn,xS xs,xL a xl.length xl.length]/\zy (wr.alloc o).heap.size w'.heap.size w' [xI xk,xI xn,xS xs,xL a xl.length xl.length] (aA.mk xk xn xs xl))):=λo=>
    CT.o _ (Qaf hx) M _ _ (λj hj=>by have:=hM j hj;simp;omega) ⟨_,rfl,kz (bI.below (HB.o.alloc (by omega) o)) mX⟩;go_wp2_with fail;refine(br.o _).mono ?_;rintro e w1⟨_,rfl,⟨ya,rfl,gq⟩,aF⟩;have aY:=af (aU aF);have tG:=af ((HA.o.below pZ bM).snoc pZ aF (by rw[ow.o];exact bu) gq);rw[ow.o,<-nG.o]at tG;have lK:=af (HA.o.below pZ aY.o);have Yt:i*4+3<n*4:=by omega
   obtain⟨u0,p0,f0⟩:=lK.o.cell (j:=i*4) (by omega);obtain⟨u1,p1,f1⟩:=lK.o.cell (j:=i*4+1) (by omega);obtain⟨u2,p2,f2⟩:=lK.o.cell (j:=i*4+2) (by omega);obtain⟨u3,p3,f3⟩:=lK.o.cell (j:=i*4+3) (by omega);go_wp2;go_roundg(n-(i+1));case measure=>omega
   case rel=>
    refine⟨i+1,by omega,rfl,by go_num,tG,(show Below _ _ _ from ?_)⟩;exact(((((HB.o.trans (aY.o.mono (by omega))).setCell (by simp) _).setCell (by simp) _).setCell (by simp) _).setCell (by simp) _)
  .go_wp2;go_ret;refine⟨xL (some ⟨w.heap.size,0,none⟩) n n,rfl,?_,HB.o⟩;have h1:=HA.o;have Nl:=eF.o;rw[Qah (by rw[Nl];omega)]at h1;exact .inr ⟨_,by rw[Nl];exact h0,bN,by rw[Nl],by rw[Nl];exact h1⟩
def PH(l:List aA)(hl:l.length<=12)(kp:∀y∈l,Ug y)(M:aN)(w:aj)(v:an)(hM:Bd M w)(hs:ab M w v l):
 xG 218 #[v, .func (.func 203) #[] #[]] w (Kf w l):=by
 by_cases h0:0<l.length
 .exact Is l hl h0 kp M w v hM hs
 .have e:l=[]:=Qdd (by omega);subst e;obtain⟨a,cap,rfl,_⟩:=hs.open_;refine cT (DQ a cap _ w) ?_;exact⟨_,rfl, .inl ⟨rfl,rfl⟩,dQ⟩
def yg(l:List aA)(hl:l.length<=12)(kp:∀y∈l,Ug y)(M:aN)(w:aj)(v:an)(hM:Bd M w)(hs:ab M w v l):xG 157 #[v] w (Kf w l):=by
 have HE:=af (PH l hl kp M w v hM hs);go_enter func157,ntmps157;go_wp2_with fail;refine(HE.o).mono ?_;rintro e w1⟨v',rfl,hs,hb⟩;have HS:=af hs;have HB:=af hb;go_wp2;go_ret;exact⟨_,rfl,HS.o,HB.o⟩
def SK(h:lj zy B w l.length l)(hf:∀y∈l,y.list=[]):PF B w l:=by
 obtain⟨s,cur,h1,h2,h3,h4,h5,h6,h7⟩:=h;refine⟨cur,h1,h2,λi x hx=> ?_⟩;obtain⟨a,b,c,d,p0,p1,p2,p3,k,n,t,ll,ad,rfl,ht,he,_,hor⟩:=h7 i x hx;have Xl:ll=[]:=hf _ (Qaf hx);subst Xl;obtain⟨rfl,rfl,rfl,rfl⟩:a=xI k/\b=xI n/\c=xS t/\d=xL ad 0 0:=by simpa using he
 rcases hor with⟨_,rfl⟩|⟨b,b0,b1,b2,rfl,hr⟩
 .exact⟨k,n,t,rfl,ht,p0,p1,p2,p3⟩
 .exact absurd b0 (by simp)
theorem Kf.flat(h:Kf W l v w')(hf:∀y∈l,y.list=[]):∃za,v=xL za l.length l.length/\(l=[]/\za=none\/∃b,0<l.length/\W.heap.size<=b/\b<w'.heap.size/\za=some ⟨b,0,none⟩/\PF b w' l):=by
 rcases h with⟨rfl,rfl⟩|⟨B,h0,hB,rfl,hr⟩
 .exact⟨_,rfl, .inl ⟨rfl,rfl⟩⟩
 .exact⟨_,rfl, .inr ⟨B,h0,hB,hr.lt,rfl,SK hr hf⟩⟩
def AP(x:aA)(Ga:x.list.length<=12)(hf:∀y∈x.list,y.list=[])(kp:∀y∈x.list,Ug y):Ug x:=by
 obtain⟨vk,vn,vs,l⟩:=x;intro M w v hM hu;have dA:=PG hu;obtain⟨a,bQ,rfl,hs⟩:=dd hu;dsimp only[aA.list]at*;have CT:Hd (∀W,aq w W->w.heap.size+2<=W.heap.size->_):=λW hb hz=>yg l Ga kp (ew M w 2) W _ (dN hM hz) (hs.ev (dF hb));have zj:=af dA;have KR:=af hf;have H12:=af Ga;go_enter func203,ntmps203;go_wp2_with fail;refine(CT.o _ (Bx.dq w _ _).1 (by simp)).mono ?_;rintro e w1⟨vx,rfl,fu,aF⟩;obtain⟨za,rfl,hz⟩:=fu.flat KR.o;have HZ:=af hz;have HB:=af ((Bx.dq w (eN vk vn vs (xL a l.length bQ)) (eN 0 0 ⟨#[]⟩ (xL none 0 0))).below aF);obtain⟨r0,r1,r2,r3⟩:=ae (HB.o.bG rfl);obtain⟨e0,e1,e2,e3⟩:=ae (HB.o.bU rfl);have f3:=ag (HB.o.bG rfl) 3;obtain⟨g0,g1,g2,g3⟩:=iK (HB.o.bU rfl);go_wp2_with fail;refine Qae (v:= .agg #[xI vk,xI vn,xS vs,xL za l.length l.length]) (by simp[results,results203,go_sem,e0,e1,e2,e3]) rfl ⟨_,rfl,⟨_,rfl,?_⟩,?_⟩
 .refine⟨vk,vn,vs,l,za,rfl,zj.o,rfl,H12.o,?_⟩;rcases HZ.o with h|⟨b,b0,b1,b2,b3,cur,c1,c2,c3⟩
  .exact .inl h
  .have hz:w.heap.size+2<=b:=by simpa using b1
   refine .inr ⟨b,b0,by omega,by simpa [World.setCell]using b2,b3,cur,?_,c2,c3⟩;rw[Qag _ _ _ _ (by simp;omega),Qag _ _ _ _ (by simp;omega),Qag _ _ _ _ (by simp;omega),Qag _ _ _ _ (by simp;omega),Qag _ _ _ _ (by simp;omega)];exact c1
 .exact((((HB.o.1.setCell (by simp) _).setCell (by simp) _).setCell (by simp) _).setCell (by simp) _).setCell (by simp) _
def qcx(x:aA)(h:x.list=[]):Ug x:=AP x (by rw[h];exact Qbf _) (λy hy=>by rw[h]at hy;cases hy) (λy hy=>by rw[h]at hy;cases hy)
def qcy(x:aA)(Ga:x.list.length<=12)(hf:∀y∈x.list,y.list=[]):Ug x:=AP x Ga hf λy hy=>qcx y (hf y hy)
def u9 {fs:List az}(h:bh fs many vs)(hl:vs.length<=12)(M:aN)(w:aj)(v:an)(hM:Bd M w)(hs:ab M w v vs):xC 157 #[v] w (cg w (Kf w vs)):=
 yg vs hl (λx hx=>by
  obtain⟨f,_,hv⟩:=eT h x hx;have Np:=nv hv;exact qcy x Np.1 Np.2) M w v hM hs
def B6 {fs:List az}(h:bh fs many vs)(hl:vs.length<=12):xy 157 vs:=λM w v hM hs=>
 (u9 h hl M w v hM hs).mono (by
   rintro e w'⟨v',rfl,hc,hb⟩;refine⟨_,rfl,?_,hb⟩;rcases hc with⟨rfl,rfl⟩|⟨B,h0,hB,rfl,hr⟩
   .exact ab.nil _ _
   .exact hr.slice (by unfold maxLen;omega) λi hi=>Qde (hM i hi) hB)
section
variable {R:X8}{B:Nat}{w w':aj}{n:Nat}{xs:List aA}{s:Nat->Nat}
end
end
end Go.Proofs.YtepaofffbkfodaaGreatDoor
