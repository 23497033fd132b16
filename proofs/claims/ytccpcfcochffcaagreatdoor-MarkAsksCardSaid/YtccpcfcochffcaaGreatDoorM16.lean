/- A part of MarkAsks's proof; no condition. -/
import Derived.Test.YtccpcfcochffcaaGreatDoorM14
import Derived.Test.YtccpcfcochffcaaGreatDoorM15
import Derived.Shelf.Strings.Search3
import Derived.Shelf.Strconv.Itoa3
import Derived.Lib.ItoaLen
import Derived.Lib.AppendIntMem
set_option linter.all false
set_option maxHeartbeats 8000000
set_option maxRecDepth 100000
namespace Go.Proofs.YtccpcfcochffcaaGreatDoor
open Tryz
variable{w' w W:aj}{s:aT}{i B j b:Nat}{l vs:List au}{v u:an}{M:aS}{many:Int}{y:au}{al S:List Int}
section
open Go.RowKit Go.Shelf
def jG:Go.Shelf.Ren:=⟨λ|143=>314|219=>329|217=>334|225=>335|224=>336|267=>337|266=>347|314=>348|n=>n,λ|9=>9|3=>3|4=>4|5=>5|46=>157|146=>411|51=>208|n=>n,λ|1=>2|n=>n⟩
def Mh:Go.Proofs.Lays.n143 prog jG:={
 mixed:=by kernel_rfl
 f143:=Tryz.func314.trans (congrArg some (by kernel_rfl))
 f217:=Tryz.func334.trans (congrArg some (by kernel_rfl))
 f219:=Tryz.func329.trans (congrArg some (by kernel_rfl))
 f224:=Tryz.func336.trans (congrArg some (by kernel_rfl))
 f225:=Tryz.func335.trans (congrArg some (by kernel_rfl))
 f266:=Tryz.func347.trans (congrArg some (by kernel_rfl))
 f267:=Tryz.func337.trans (congrArg some (by kernel_rfl))
 f314:=Tryz.func348.trans (congrArg some (by kernel_rfl))
 t3:=underlying3
 a3:=isAgg3
 z3:=sizeOf3
 v3:=zeroValue3
 t4:=underlying4
 a4:=isAgg4
 z4:=sizeOf4
 v4:=zeroValue4
 t5:=underlying5
 a5:=isAgg5
 z5:=sizeOf5
 v5:=zeroValue5
 t9:=underlying9
 a9:=isAgg9
 z9:=sizeOf9
 v9:=zeroValue9
 t46:=underlying157
 a46:=isAgg157
 z46:=sizeOf157
 v46:=zeroValue157
 t51:=underlying208
 a51:=isAgg208
 z51:=sizeOf208
 v51:=zeroValue208
 t146:=underlying411
 a146:=isAgg411
 z146:=sizeOf411
 v146:=zeroValue411
 g1:=by kernel_rfl}
def sR:Go.Shelf.Ren:=⟨λ|171=>294|243=>315|246=>330|283=>338|284=>339|285=>340|286=>341|129=>131|317=>349|318=>350|319=>351|320=>352|337=>356|338=>357|n=>n,λ|3=>3|9=>9|2=>2|4=>4|171=>401|0=>0|53=>210|37=>395|5=>5|173=>403|212=>414|51=>208|20=>20|213=>415|46=>157|232=>426|233=>427|n=>n,λ|17=>3|18=>6|19=>7|n=>n⟩
def Pa:Go.Proofs.LaysM.n171 prog sR:={
 mixed:=by kernel_rfl
 f129:=Tryz.func131.trans (congrArg some (by kernel_rfl))
 f171:=Tryz.func294.trans (congrArg some (by kernel_rfl))
 f243:=Tryz.func315.trans (congrArg some (by kernel_rfl))
 f246:=Tryz.func330.trans (congrArg some (by kernel_rfl))
 f283:=Tryz.func338.trans (congrArg some (by kernel_rfl))
 f284:=Tryz.func339.trans (congrArg some (by kernel_rfl))
 f285:=Tryz.func340.trans (congrArg some (by kernel_rfl))
 f286:=Tryz.func341.trans (congrArg some (by kernel_rfl))
 f317:=Tryz.func349.trans (congrArg some (by kernel_rfl))
 f318:=Tryz.func350.trans (congrArg some (by kernel_rfl))
 f319:=Tryz.func351.trans (congrArg some (by kernel_rfl))
 f320:=Tryz.func352.trans (congrArg some (by kernel_rfl))
 f337:=Tryz.func356.trans (congrArg some (by kernel_rfl))
 f338:=Tryz.func357.trans (congrArg some (by kernel_rfl))
 t0:=underlying0
 a0:=isAgg0
 z0:=sizeOf0
 v0:=zeroValue0
 t2:=underlying2
 a2:=isAgg2
 z2:=sizeOf2
 v2:=zeroValue2
 t3:=underlying3
 a3:=isAgg3
 z3:=sizeOf3
 v3:=zeroValue3
 t4:=underlying4
 a4:=isAgg4
 z4:=sizeOf4
 v4:=zeroValue4
 t5:=underlying5
 a5:=isAgg5
 z5:=sizeOf5
 v5:=zeroValue5
 t9:=underlying9
 a9:=isAgg9
 z9:=sizeOf9
 v9:=zeroValue9
 t20:=underlying20
 a20:=isAgg20
 z20:=sizeOf20
 v20:=zeroValue20
 t37:=underlying395
 a37:=isAgg395
 z37:=sizeOf395
 v37:=zeroValue395
 t46:=underlying157
 a46:=isAgg157
 z46:=sizeOf157
 v46:=zeroValue157
 t51:=underlying208
 a51:=isAgg208
 z51:=sizeOf208
 v51:=zeroValue208
 t53:=underlying210
 a53:=isAgg210
 z53:=sizeOf210
 v53:=zeroValue210
 t171:=underlying401
 a171:=isAgg401
 z171:=sizeOf401
 v171:=zeroValue401
 t173:=underlying403
 a173:=isAgg403
 z173:=sizeOf403
 v173:=zeroValue403
 t212:=underlying414
 a212:=isAgg414
 z212:=sizeOf414
 v212:=zeroValue414
 t213:=underlying415
 a213:=isAgg415
 z213:=sizeOf415
 t232:=underlying426
 a232:=isAgg426
 z232:=sizeOf426
 v232:=zeroValue426
 t233:=underlying427
 a233:=isAgg427
 z233:=sizeOf427
 v233:=zeroValue427
 g17:=by kernel_rfl
 g18:=by kernel_rfl
 g19:=by kernel_rfl
 i0:=by kernel_rfl
 i2:=by kernel_rfl
 i3:=by kernel_rfl
 i4:=by kernel_rfl
 i5:=by kernel_rfl
 i9:=by kernel_rfl
 i20:=by kernel_rfl
 i37:=by kernel_rfl
 i46:=by kernel_rfl
 i51:=by kernel_rfl
 i53:=by kernel_rfl
 i171:=by kernel_rfl
 i173:=by kernel_rfl
 i212:=by kernel_rfl
 i232:=by kernel_rfl
 i233:=by kernel_rfl
 m17:=by kernel_rfl
 m18:=by kernel_rfl
 m19:=by kernel_rfl}
def V3:jG.f 143=314:=by kernel_rfl
def ZK:sR.f 171=294:=by kernel_rfl
structure Gd(w:aj):Prop where
 tb:Tb w
 mx:∃m,w.cell? ⟨jG.g 1,0,none⟩=some (xI m)
 pw:∀W,aq w W->Lib.TabIs prog W "internal/strconv.uint64pow10" .u64 Lib.pow10Tab
theorem Gd.below {w:aj}(h:Gd w)(hb:aq w w'):Gd w':=by
 obtain⟨m,hm⟩:=h.mx;exact⟨h.tb.below hb,⟨m,(hb.cell (p:=⟨jG.g 1,0,none⟩) (mJ hm)).trans hm⟩,λW hW=>h.pw W (hb.trans (hW.mono hb.size))⟩
def Mi(s t:aT)(hs:s.size<=1000)(w:aj)(hg:Gd w):xC 314 #[xS s,xS t] w (gE (xI (Lib.index s.data.toList t.data.toList)) w):=by
 obtain⟨m,hm⟩:=hg.mx;have h:=Any.strings_Index Mh s t m w (by omega) hm;rw[V3]at h;exact h.mono λe w'⟨h1,h2⟩=>⟨h1,h2.symm⟩
def S5(n:Int)(w:aj)(e:Ending)(w':aj):Prop:=∃s:aT,iD s.data.toList/\s.size<=30/\e=xR (xS s)/\aq w w'
def EX:∀d,d<10->(32:UInt8)<=UInt8.ofNat (48+d)/\UInt8.ofNat (48+d)<127:=by decide
def sS(u:Nat):∀c∈Lib.decDigits u,32<=c/\c<127:=by
 intro c hc;rw[Lib.decDigits_eq]at hc;obtain⟨t,_,rfl⟩:=List.mem_map.1 hc;exact EX _ (Nat.mod_lt _ (by omega))
def ID(n:Int):∀c∈Lib.itoa n,32<=c/\c<127:=by
 intro c hc;unfold Lib.itoa at hc;split at hc
 .rcases Qdf.1 hc with rfl|hc
  .decide
  .exact sS _ _ hc
 .exact sS _ _ hc
def S6(n:Int)(hn:uP n)(w:aj)(hg:Gd w):xC 294 #[xI n] w (S5 n w):=by
 obtain⟨h0,h1⟩:=hn;have h:=Any.strconv_Itoa Pa n (by omega) (by omega) w (hg.pw w dK);rw[ZK]at h;refine h.mono λe w'⟨h2,k,os,h3⟩=>⟨_,?_,?_,h2,by rw[h3];exact Lib.below_grow _ w bq k os⟩
 .exact pE _ (by simpa using ID n)
 .have:=Lib.itoa_length_le n (by omega) (by omega);simp[ByteArray.size];omega
def S7(s t:aT)(hs:s.size<=1000)(w:aj)(hg:Gd w):xC 292 #[xS s,xS t] w λe w'=>∃x:Int,e=xR (xI x)/\aq w w':=by
 have h1:=Lib.index_ge s.data.toList t.data.toList;have h2:=Lib.index_le s.data.toList t.data.toList;rw[bh]at h2;have HI:=af (Mi s t hs w hg);generalize Lib.index s.data.toList t.data.toList=x at*;by_cases hx:x<0
 .go_enter func292,ntmps292;go_wp2_with fail;refine dJ (HI.o) ?_;go_wp2;go_ret;exact⟨_,rfl,dK⟩
 .obtain⟨i,rfl⟩:=Int.eq_ofNat_of_zero_le (by omega:0<=x);have hi:i<=s.size:=by omega
  have QB:=af (show(s.extract 0 i).size<=1000 by simp;omega);go_enter func292,ntmps292;go_wp2_with fail;refine dJ (HI.o) ?_;go_wp2_with fail;refine(EJ (s.extract 0 i) QB.o _).mono ?_;rintro e w1⟨m,_,rfl,hb⟩;have HB:=af hb;go_wp2;go_ret;exact⟨_,rfl,HB.o⟩
section
variable {M:aS}{w:aj}{lv:an}{vs:List au}
def iz(hl:ab M w lv vs){k n:Int}{ll:List au}(hx:vs[i]? =some (.mk k n s ll)):∃b off cap a c,lv=xL (some ⟨b,off,none⟩) vs.length cap/\i<vs.length/\b<w.heap.size/\∀W,aq w W->(aU W b (off+i*4) (xI k)/\aU W b (off+i*4+1) (xI n)/\aU W b (off+i*4+2) (xS s)/\aU W b (off+i*4+3) (xL a ll.length c))/\bS M W (.agg #[xI k,xI n,xS s,xL a ll.length c]) (au.mk k n s ll):=by
 obtain⟨b,off,cap,a,c,h1,h2,_,_,h3⟩:=dZ hl hx;exact⟨b,off,cap,a,c,h1,(Qad.1 hx).1,h2,h3⟩
def S8(hl:ab M w lv vs)(k n:Int)(s:aT)(ll:List au)(hx:vs[0]? =some (.mk k n s ll))(hs:fN s):xG 283 #[lv] w ju:=by
 obtain⟨b,off,cap,a,c,rfl,h0,hb,hc⟩:=iz hl hx;obtain⟨q0,q1,q2,q3⟩:=(hc (w.alloc (xK iN 30)) bO).1;simp only[Nat.zero_mul,Nat.add_zero]at q0 q1 q2 q3;have Sd:=hs.1;go_enter func283,ntmps283;go_wp2_with fail;refine(EJ s (by omega) _).mono ?_;rintro e w1⟨m,hm,rfl,aC⟩;have aO:=af ((Bx.dR w (fZ 0 0 ⟨#[]⟩ (xL none 0 0))).below aC);go_wp2_with fail;refine(jw _ _).mono ?_;rintro e w2⟨_,rfl,⟨z,hz,rfl⟩,aY⟩;have aL:=af (aO.o.below aY);have HZ:=af hz;obtain⟨c0,c1,c2,c3⟩:=ae (aL.o.bJ rfl);obtain⟨f0,f1,f2,f3⟩:=ic (aL.o.bJ rfl);unfold kx;go_wp2_with fail;refine Qae (v:=kx z) (by simp[results,results283,go_sem,kx,c0,c1,c2,c3]) rfl (show bW w ju _ _ from⟨_,rfl,⟨_,HZ.o,rfl⟩,?_⟩);exact(((aL.o.1.setCell (by simp) _).setCell (by simp) _).setCell (by simp) _).setCell (by simp) _
def Pb(hl:ab M w lv vs)(k n:Int)(s:aT)(ll:List au)(hx:vs[0]? =some (.mk k n s ll))(k' n':Int)(s':aT)(ll':List au)(A6:vs[1]? =some (.mk k' n' s' ll'))(hs:fN s):xG 286 #[lv] w eZ:=by
 obtain⟨b,off,cap,a,c,rfl,h0,hb,hc⟩:=iz hl hx;obtain⟨q0,q1,q2,q3⟩:=(hc (w.alloc (xK iN 30)) bO).1;simp only[Nat.zero_mul,Nat.add_zero]at q0 q1 q2 q3;obtain⟨b',AV,fq,a',c',ry,h0',iI,hc'⟩:=iz hl A6;obtain⟨⟨rfl,rfl⟩,rfl⟩:(b=b'/\off=AV)/\cap=fq:=by simpa using ry
 obtain⟨r0,r1,r2,r3⟩:=(hc' (w.alloc (xK iN 30)) bO).1;simp only[Nat.one_mul]at r0 r1 r2 r3;have Sd:=hs.1;have HS:=af hs.2;have HT:Hd (∀p,qG s p->∀W,xC 287 #[xS (s.extract 0 p)] W (bW W eZ)):=λp hp W=>sN _ (by have:=hp.take;simpa using this) (by simp;omega) W;have HH:Hd (∀W,xC 288 #[xS s,xI n'] W (EK W s)):=λW=>Bv s HS.o (by omega) n' W;go_enter func286,ntmps286;go_wp2_with fail;refine(HH.o _).mono ?_;rintro e w1⟨p,hp,rfl,aC⟩;have aO:=af ((Bx.dR w (fZ 0 0 ⟨#[]⟩ (xL none 0 0))).below aC);have ki:=hp.1;have HP:=af hp;go_wp2_with fail;refine(HT.o p HP.o _).mono ?_;rintro e w2⟨_,rfl,⟨z,hz,rfl⟩,aY⟩;have aL:=af (aO.o.below aY);have HZ:=af hz;obtain⟨c0,c1,c2,c3⟩:=ae (aL.o.bJ rfl);obtain⟨f0,f1,f2,f3⟩:=ic (aL.o.bJ rfl);unfold mQ;go_wp2_with fail;refine Qae (v:=mQ z) (by simp[results,results286,go_sem,mQ,c0,c1,c2,c3]) rfl (show bW w eZ _ _ from⟨_,rfl,⟨_,HZ.o,rfl⟩,?_⟩);exact(((aL.o.1.setCell (by simp) _).setCell (by simp) _).setCell (by simp) _).setCell (by simp) _
def Pc(hl:ab M w lv vs)(k n:Int)(s:aT)(ll:List au)(hx:vs[0]? =some (.mk k n s ll))(k' n':Int)(s':aT)(ll':List au)(A6:vs[1]? =some (.mk k' n' s' ll'))(hs:fN s):xG 290 #[lv] w eZ:=by
 obtain⟨b,off,cap,a,c,rfl,h0,hb,hc⟩:=iz hl hx;obtain⟨q0,q1,q2,q3⟩:=(hc (w.alloc (xK iN 30)) bO).1;simp only[Nat.zero_mul,Nat.add_zero]at q0 q1 q2 q3;obtain⟨b',AV,fq,a',c',ry,h0',iI,hc'⟩:=iz hl A6;obtain⟨⟨rfl,rfl⟩,rfl⟩:(b=b'/\off=AV)/\cap=fq:=by simpa using ry
 obtain⟨r0,r1,r2,r3⟩:=(hc' (w.alloc (xK iN 30)) bO).1;simp only[Nat.one_mul]at r0 r1 r2 r3;have Sd:=hs.1;have HS:=af hs.2;have HT:Hd (∀p,qG s p->∀W,xC 287 #[xS (s.extract p s.size)] W (bW W eZ)):=λp hp W=>sN _ (by have:=hp.drop;rw[(BC s p hp.1).1];exact this) (by simp;omega) W;have HH:Hd (∀W,xC 288 #[xS s,xI n'] W (EK W s)):=λW=>Bv s HS.o (by omega) n' W;go_enter func290,ntmps290;go_wp2_with fail;refine(HH.o _).mono ?_;rintro e w1⟨p,hp,rfl,aC⟩;have aO:=af ((Bx.dR w (fZ 0 0 ⟨#[]⟩ (xL none 0 0))).below aC);have ki:=hp.1;have HP:=af hp;go_wp2_with fail;refine(HT.o p HP.o _).mono ?_;rintro e w2⟨_,rfl,⟨z,hz,rfl⟩,aY⟩;have aL:=af (aO.o.below aY);have HZ:=af hz;obtain⟨c0,c1,c2,c3⟩:=ae (aL.o.bJ rfl);obtain⟨f0,f1,f2,f3⟩:=ic (aL.o.bJ rfl);unfold mQ;go_wp2_with fail;refine Qae (v:=mQ z) (by simp[results,results290,go_sem,mQ,c0,c1,c2,c3]) rfl (show bW w eZ _ _ from⟨_,rfl,⟨_,HZ.o,rfl⟩,?_⟩);exact(((aL.o.1.setCell (by simp) _).setCell (by simp) _).setCell (by simp) _).setCell (by simp) _
def Pd(hl:ab M w lv vs)(k n:Int)(s:aT)(ll:List au)(hx:vs[0]? =some (.mk k n s ll))(k' n':Int)(s':aT)(ll':List au)(A6:vs[1]? =some (.mk k' n' s' ll'))(hs:fN s)(hg:Gd w):xG 291 #[lv] w ju:=by
 obtain⟨b,off,cap,a,c,rfl,h0,hb,hc⟩:=iz hl hx;obtain⟨q0,q1,q2,q3⟩:=(hc (w.alloc (xK iN 30)) bO).1;simp only[Nat.zero_mul,Nat.add_zero]at q0 q1 q2 q3;obtain⟨b',AV,fq,a',c',ry,h0',iI,hc'⟩:=iz hl A6;obtain⟨⟨rfl,rfl⟩,rfl⟩:(b=b'/\off=AV)/\cap=fq:=by simpa using ry
 obtain⟨r0,r1,r2,r3⟩:=(hc' (w.alloc (xK iN 30)) bO).1;simp only[Nat.one_mul]at r0 r1 r2 r3;have Sd:=hs.1;have HG:Hd (Gd (w.alloc (xK iN 30)).drew):=hg.below bO.drew;have HI:Hd (∀W,Gd W->xC 292 #[xS s,xS s'] W λe w'=>∃x:Int,e=xR (xI x)/\aq W w'):=λW hg=>S7 s s' (by omega) W hg;go_enter func291,ntmps291;have h0i:(0:Int)<(vs.length:Int):=by omega
 have h1i:(1:Int)<(vs.length:Int):=by omega
 go_upto_region 1 with fail;go_region_law(first
  |(go_simp;go_at_call 292;refine(HI.o _ HG.o).mono ?_;rintro e w1⟨x,rfl,aC⟩;have aO:=af (((Bx.dR w (fZ 0 0 ⟨#[]⟩ (xL none 0 0))).drew).below aC);clear aC)
  |(go_simp;go_at_call 284;refine(jw _ _).mono ?_;rintro e w2⟨_,rfl,⟨z,hz,rfl⟩,aY⟩;have aL:=af (aO.o.below aY);have HZ:=af hz;have c0:=(ae (aL.o.bJ rfl)).1;have c1:=(ae (aL.o.bJ rfl)).2.1;have c2:=(ae (aL.o.bJ rfl)).2.2.1;have c3:=(ae (aL.o.bJ rfl)).2.2.2;obtain⟨f0,f1,f2,f3⟩:=ic (aL.o.bJ rfl);unfold kx));all_goals
  go_wp2_with fail;refine Qae (v:=kx z) (by simp[results,results291,go_sem,kx,c0,c1,c2,c3]) rfl (show bW w ju _ _ from⟨_,rfl,⟨_,HZ.o,rfl⟩,?_⟩);exact(((aL.o.1.setCell (by simp) _).setCell (by simp) _).setCell (by simp) _).setCell (by simp) _
def Pe(hl:ab M w lv vs)(k n:Int)(s:aT)(ll:List au)(hx:vs[0]? =some (.mk k n s ll))(hn:uP n)(hg:Gd w):xG 293 #[lv] w eZ:=by
 obtain⟨b,off,cap,a,c,rfl,h0,hb,hc⟩:=iz hl hx;obtain⟨q0,q1,q2,q3⟩:=(hc (w.alloc (xK iN 30)) bO).1;simp only[Nat.zero_mul,Nat.add_zero]at q0 q1 q2 q3;have HG:Hd (Gd (w.alloc (xK iN 30))):=hg.below bO;have HN:=af hn;go_enter func293,ntmps293;go_wp2_with fail;refine(S6 n HN.o _ HG.o).mono ?_;rintro e w1⟨s1,dB,cY,rfl,aC⟩;have aO:=af ((Bx.dR w (fZ 0 0 ⟨#[]⟩ (xL none 0 0))).below aC);have rC:=af dB;go_wp2_with fail;refine(sN s1 rC.o (by omega) _).mono ?_;rintro e w2⟨_,rfl,⟨z,hz,rfl⟩,aY⟩;have aL:=af (aO.o.below aY);have HZ:=af hz;obtain⟨c0,c1,c2,c3⟩:=ae (aL.o.bJ rfl);obtain⟨f0,f1,f2,f3⟩:=ic (aL.o.bJ rfl);unfold mQ;go_wp2_with fail;refine Qae (v:=mQ z) (by simp[results,results293,go_sem,mQ,c0,c1,c2,c3]) rfl (show bW w eZ _ _ from⟨_,rfl,⟨_,HZ.o,rfl⟩,?_⟩);exact(((aL.o.1.setCell (by simp) _).setCell (by simp) _).setCell (by simp) _).setCell (by simp) _
def V4(hl:ab M w lv vs)(k n:Int)(s:aT)(ll:List au)(hx:vs[0]? =some (.mk k n s ll))(x1 x2:au)(h1:vs[1]? =some x1)(h2:vs[2]? =some x2):xG 298 #[lv] w λv w'=>bS M w' v (if n=0 then x2 else x1):=by
 obtain⟨b,off,cap,a,c,rfl,h0,hb,hc⟩:=iz hl hx;obtain⟨q0,q1,q2,q3⟩:=(hc (w.alloc (xK iN 30)) bO).1;simp only[Nat.zero_mul,Nat.add_zero]at q0 q1 q2 q3;have hL:=h0;obtain⟨k1,n1,s1,l1⟩:=x1;obtain⟨k2,n2,s2,l2⟩:=x2;obtain⟨b',AV,fq,a',c',ry,h0',iI,hc'⟩:=iz hl h1;obtain⟨⟨rfl,rfl⟩,rfl⟩:(b=b'/\off=AV)/\cap=fq:=by simpa using ry
 obtain⟨b'',qav,qaw,a'',c'',qd0,qg4,qg5,qax⟩:=iz hl h2;obtain⟨⟨rfl,rfl⟩,rfl⟩:(b=b''/\off=qav)/\cap=qaw:=by simpa using qd0
 obtain⟨r0,r1,r2,r3⟩:=(hc' (w.alloc (xK iN 30)) bO).1;obtain⟨t0,t1,t2,t3⟩:=(qax (w.alloc (xK iN 30)) bO).1;simp only[Nat.one_mul]at r0 r1 r2 r3;have rA:Hd (∀W,aq w W->bS M W (.agg #[xI k1,xI n1,xS s1,xL a' l1.length c']) (au.mk k1 n1 s1 l1)):=λW hW=>(hc' W hW).2;have AY:Hd (∀W,aq w W->bS M W (.agg #[xI k2,xI n2,xS s2,xL a'' l2.length c'']) (au.mk k2 n2 s2 l2)):=λW hW=>(qax W hW).2;have GM:b≠w.heap.size:=by omega
 have aL:=af (Bx.dR w (fZ 0 0 ⟨#[]⟩ (xL none 0 0)));obtain⟨c0,c1,c2,c3⟩:=ae (aL.o.bJ rfl);by_cases hn:n=0
 .have HN:Hd ((if n=0 then au.mk k2 n2 s2 l2 else .mk k1 n1 s1 l1)= .mk k2 n2 s2 l2):=if_pos hn;rw[HN.o];subst hn;go_enter func298,ntmps298;go_wp2_with fail;refine Qae (v:= .agg #[xI k2,xI n2,xS s2,xL a'' l2.length c'']) (by simp[results,results298,go_sem]) rfl ⟨_,rfl,AY.o _ ?_,?_⟩;all_goals exact bO
 .have HN:Hd ((if n=0 then au.mk k2 n2 s2 l2 else .mk k1 n1 s1 l1)= .mk k1 n1 s1 l1):=if_neg hn;rw[HN.o];have qL:(n !=0)=true:=by simpa using hn
  go_enter func298,ntmps298;go_wp2_with fail;refine Qae (v:= .agg #[xI k1,xI n1,xS s1,xL a' l1.length c']) (by simp[results,results298,go_sem]) rfl ⟨_,rfl,rA.o _ ?_,?_⟩;all_goals exact bO
end
def Pf(k1 k2 n1 n2:Int)(s1 s2:aT)(a1 a2:dC)(c1 c2:Nat)(w:aj):xC 113 #[jl k1 n1 s1 a1 0 c1,jl k2 n2 s2 a2 0 c2] w λe w'=>nN e/\aq w w':=by
 have HC:Hd (∀W,_):=λW=>iW k1 k2 n1 n2 s1 s2 a1 a2 c1 c2 W;unfold jl at*;go_enter func113,ntmps113;go_wp2_with fail;refine(HC.o _).mono ?_;rintro e w1⟨x,rfl,hb⟩;have HB:=af ((Bx.dh w _ _).below hb);go_wp2;go_ret;exact⟨dN _,HB.o.1⟩
def S9(k1 k2 n1 n2:Int)(s1 s2 op:aT)(a1 a2:dC)(c1 c2:Nat)(w:aj):xC 64 #[jl k1 n1 s1 a1 0 c1,xS op,jl k2 n2 s2 a2 0 c2] w λe w'=>nN e/\aq w w':=by
 have HC:Hd (∀W,_):=λW=>iW k1 k2 n1 n2 s1 s2 a1 a2 c1 c2 W;have HS:Hd (∀W,_):=λW=>Pf k1 k2 n1 n2 s1 s2 a1 a2 c1 c2 W;unfold jl at*;have iA:=af (Bx.dh w (xK #[xI k1,xI n1,xS s1,xL a1 0 c1] 30) (xK #[xI k2,xI n2,xS s2,xL a2 0 c2] 30));by_cases h1:(op.toList==[61])=true
 .go_enter func64,ntmps64;go_wp2_with fail;refine(HS.o _).mono ?_;rintro e w1⟨⟨b,rfl⟩,hb⟩;have HB:=af (iA.o.below hb);go_wp2;go_ret;exact⟨dN _,HB.o.1⟩
 by_cases h2:(op.toList==[60])=true
 .by_cases hk:k1=k2
  .subst hk;go_enter func64,ntmps64;go_wp2_with fail;refine(HC.o _).mono ?_;rintro e w1⟨x,rfl,hb⟩;have HB:=af (iA.o.below hb);go_wp2_with fail;all_goals
    go_ret;exact⟨dN _,HB.o.1⟩
  .have Y3:(k1==k2)=false:=by simpa using hk
   go_enter func64,ntmps64;go_wp2;go_ret;exact⟨dN _,iA.o.1⟩
 by_cases h3:(op.toList==[62])=true
 .by_cases hk:k1=k2
  .subst hk;go_enter func64,ntmps64;go_wp2_with fail;refine(HC.o _).mono ?_;rintro e w1⟨x,rfl,hb⟩;have HB:=af (iA.o.below hb);go_wp2_with fail;all_goals
    go_ret;exact⟨dN _,HB.o.1⟩
  .have Y3:(k1==k2)=false:=by simpa using hk
   go_enter func64,ntmps64;go_wp2;go_ret;exact⟨dN _,iA.o.1⟩
 go_enter func64,ntmps64;go_wp2;go_ret;exact⟨dN _,iA.o.1⟩
def CK(c:Nat)(w:aj):xC 152 #[.int .u8 c] w λe w'=>nN e/\w=w':=by
 go_enter func152,ntmps152;go_wp2_with fail;all_goals
  go_ret;exact⟨dN _,rfl⟩
def BD(s:aT)(w:aj)(hs:s.size<=maxLen):xC 101 #[xS s] w λe w'=>nN e/\w=w':=by
 unfold maxLen at hs;have HN:Hd (∀c W,_):=λc W=>CK c W;by_cases h1:s.size<1
 .go_enter func101,ntmps101;go_wp2;go_ret;exact⟨dN _,rfl⟩
 by_cases h2:20<s.size
 .go_enter func101,ntmps101;go_wp2;go_ret;exact⟨dN _,rfl⟩
 have h0:0<s.size:=by omega
 obtain⟨c,hc⟩:=fx (s[0]);have B9:(c.toNat:Int)<=255:=by have:=c.toNat_lt;omega
 go_enter func101,ntmps101;go_upto_region 1 with fail;go_cut [21](λv wx=>lZ v/\w=wx);case first=>
  go_wp2_with fail;all_goals
   go_meet;exact⟨⟨_,rfl⟩,rfl⟩
 case rest=>
 obtain⟨⟨b,rfl⟩,rfl⟩:=hcut;cases b;rotate_left
 .go_wp2;go_ret;exact⟨dN _,rfl⟩
 go_wp2;go_loopg [3,24]s.size(λg _ iv wr=>∃i:Nat,g=s.size-i/\i<=s.size/\iv=xI i/\w=wr);case atStart=>exact⟨0,rfl,by omega,rfl,rfl⟩
 case round=>
  obtain⟨i,rfl,hi,rfl,rfl⟩:=hrel;by_cases aX:i<s.size
  .obtain⟨x,hx⟩:=fx (s[i]);have Dp:(x.toNat:Int)<=255:=by have:=x.toNat_lt;omega
   go_wp2_with fail;refine(HN.o _ _).mono ?_;rintro e w'⟨⟨b,rfl⟩,rfl⟩;cases b
   .go_wp2;go_ret;exact⟨dN _,rfl⟩
   .go_wp2;go_roundg(s.size-(i+1));case measure=>omega
    case rel=>exact⟨i+1,rfl,by omega,by go_num,rfl⟩
  .go_wp2;go_ret;exact⟨dN _,rfl⟩
def sU {k n:Int}(h:bS M w v (au.mk k n s l)):s.size<=maxLen:=by
 obtain⟨cs,rfl,hr⟩:=h;obtain⟨_,_,_,hz⟩:=eN.iff.1 hr;exact hz
def AD(M:aS)(n:Int)(s:aT)(l:List au)(a:dC)(cap:Nat)(w:aj)(h:ab M w (xL a l.length cap) l):
 xC 116 #[.agg #[xI 5,xI n,xS s,xL a l.length cap]] w λe w'=>nN e/\aq w w':=by
 obtain⟨m,hm⟩:=fx (l.length);have HL:Hd (∀(i:Nat)(k n:Int)(s:aT)(ll:List au),l[i]? =some (.mk k n s ll)->_):=λi k n s ll hx=>iz h hx;have HN:=af hm;have hmb:m<=9223372036854775807:=by obtain⟨_,_,e,h1,h2,_⟩:=h.open_;omega
 rw[hm];go_enter func116,ntmps116;go_upto_region 13 with fail;have HB:=af (Bx.dR w (fZ 5 n s (xL a m cap)));unfold fZ at HB;generalize w.alloc (xK #[xI 5,xI n,xS s,xL a m cap] 30)=W at*;obtain⟨f0,f1,f2,f3⟩:=ae (HB.o.bJ rfl);go_cut [115](λv wx=>lZ v/\W=wx);case first=>
  rcases Decidable.em (n=0)with rfl|hn;rotate_left
  .have hn':(n !=0)=true:=by simpa using hn
   go_wp2;go_meet;exact⟨⟨_,rfl⟩,rfl⟩
  go_wp2_with fail;all_goals
   go_meet;exact⟨⟨_,rfl⟩,rfl⟩
 case rest=>
 obtain⟨⟨b,rfl⟩,rfl⟩:=hcut;cases b;rotate_left
 .go_wp2;go_ret;exact⟨dN _,HB.o.1⟩
 go_wp2;go_loopg [4,5]m(λg iv _ wr=>∃i:Nat,g=m-i/\i<=m/\iv=xI i/\Hd (Bx w [xK #[xI 5,xI n,xS s,xL a m cap] 30] wr));case atStart=>exact⟨0,rfl,by omega,rfl,HB⟩
 case round=>
  obtain⟨i,rfl,hi,rfl,HB⟩:=hrel;obtain⟨f0,f1,f2,f3⟩:=ae (HB.o.bJ rfl);by_cases aX:i<m
  .obtain⟨⟨k1,n1,s1,ll⟩,hx⟩:=dQ l i (by have:=HN.o;omega);obtain⟨b,off,fq,a',c',hv,_,hb,hc⟩:=HL.o i k1 n1 s1 ll hx;obtain⟨rfl,rfl⟩:=gY hv;obtain⟨⟨g0,g1,g2,g3⟩,qd1⟩:=hc _ HB.o.1;have dB:=sU qd1;by_cases hk:k1=5
   .subst hk;go_wp2;go_ret;exact⟨dN _,HB.o.1⟩
   .have Y3:(k1==5)=false:=by simpa using hk
    have HR:Hd (∀W,_):=λW=>qX ⟨k1,n1,s1,a',ll.length,c'⟩ hk (by exact dB) W;unfold rI.val at HR;dsimp only at HR;generalize ll.length=n5 at*;go_wp2_with fail;refine(HR.o _).mono ?_;rintro e w2⟨⟨b2,rfl,_⟩,aY⟩;have aL:=af (HB.o.below aY);cases b2
    .go_wp2;go_ret;exact⟨dN _,aL.o.1⟩
    .go_wp2;go_roundg(m-(i+1));case measure=>omega
     case rel=>exact⟨i+1,rfl,by omega,by go_num,aL⟩
  .go_wp2;go_ret;exact⟨dN _,HB.o.1⟩
def CL {k n:Int}(h:bS M w u (au.mk k n s l)):
 xC 116 #[u] w λe w'=>RS (k=5\/l=[]) e/\aq w w':=by
 have hz:=sU h;obtain⟨a,cap,rfl,hs⟩:=cQ h;by_cases hk:k=5
 .subst hk;refine(AD M n s l a cap w hs).mono ?_;rintro e w'⟨⟨b,rfl⟩,hb⟩;exact⟨⟨b,rfl,λ_=> .inl rfl⟩,hb⟩
 .refine(qX ⟨k,n,s,a,l.length,cap⟩ hk hz w).mono ?_;rintro e w'⟨⟨b,rfl,h⟩,hb⟩;exact⟨⟨b,rfl,λhb=> .inr (Qdd (h hb))⟩,hb⟩
end
section
open Go.RowKit
def UH:au->Prop| .mk k n s l=>∀(M:aS)(w:aj)(v:an),Bd M w->bS M w v (au.mk k n s l)->xC 203 #[v] w (bW w λv' w'=>∃a,v'= .agg #[xI k,xI n,xS s,xL a l.length l.length]/\mS w.heap.size w'.heap.size w' [xI k,xI n,xS s,xL a l.length l.length] (.mk k n s l))
def KA(w:aj)(l:List au)(v:an)(w':aj):Prop:=l=[]/\v=xL none 0 0\/∃B,0<l.length/\w.heap.size<=B/\v=xL (some ⟨B,0,none⟩) l.length l.length/\ld mS B w' l.length l
def IE(l:List au)(hl:l.length<=12)(h0:0<l.length)(jn:∀y∈l,UH y)(M:aS)(w:aj)(v:an)(hM:Bd M w)(hs:ab M w v l):
 xG 202 #[v, .func (.func 203) #[] #[]] w (KA w l):=by
 obtain⟨i0,dz,dX,cY,dA⟩:=info_parts fY;have HC:Hd (∀(i:Nat)(k n:Int)(s:aT)(ll:List au),l[i]? =some (.mk k n s ll)->_):=λi k n s ll hx=>dZ hs hx;have Ag:Hd (∀y∈l,UH y):=jn;obtain⟨a,bQ,rfl,cK,qE,_⟩:=hs.open_;generalize hn:l.length=n at*;have ek:=af hn;have tN:((n:Int)==0)=false:=by simp;omega
 obtain⟨cur,Cb,bD⟩:=mR (P:=prog) w 28 30 i0 _ underlying28 dz dX n (by omega) (by omega);have Nt:Hd (ld mS w.heap.size (w.alloc (.cells cur 30)) n []):=ld.made cur (Qbh w _) (by rw[bD,cY]);go_enter func202,ntmps202;go_wp2;go_loopg [6,7,16]n(λg _ _ iv wr=>∃i:Nat,i<=n/\g=n-i/\iv=xI i/\Hd (ld mS w.heap.size wr n (l.take i))/\Hd (aq w wr));case atStart=>exact⟨0,Qbf _,rfl,rfl,Nt,bO⟩
 case round=>
  obtain⟨i,hi,rfl,rfl,HA,HB⟩:=hrel;have hsz:w.heap.size<wr.heap.size:=HA.o.lt;by_cases aX:i<n
  .obtain⟨⟨xk,xn,xs,xl⟩,hx⟩:=dQ l i (by rw[ek.o];exact aX);obtain⟨b,off,cap,a',c',hv,hb,bo,iO,aw⟩:=HC.o i xk xn xs xl hx;obtain⟨rfl,rfl⟩:=gY hv;obtain⟨q0,q1,q2,q3⟩:=(aw wr HB.o).1;have oV:=af (show(l.take i).length=i by have:=ek.o;rw[Qdb];omega);have oR:=af (show l.take (i+1)=l.take i++[.mk xk xn xs xl]by rw[Qbb,hx];rfl);have bt:Hd (∀o,xC 203 #[.agg #[xI xk,xI xn,xS xs,xL a' xl.length c']] (wr.alloc o) (bW (wr.alloc o) λv' w'=>∃a,v'= .agg #[xI xk,xI xn,xS xs,xL a xl.length xl.length]/\mS (wr.alloc o).heap.size w'.heap.size w' [xI xk,xI xn,xS xs,xL a xl.length xl.length] (au.mk xk xn xs xl))):=λo=>
    Ag.o _ (Qaf hx) M _ _ (λj hj=>by have:=hM j hj;simp;omega) ⟨_,rfl,kr (bo.below (HB.o.alloc (by omega) o)) iO⟩;go_wp2_with fail;refine(bt.o _).mono ?_;rintro e w1⟨_,rfl,⟨ya,rfl,gz⟩,aC⟩;have aO:=af (aQ aC);have uf:=af ((HA.o.below jx bO).snoc jx aC (by rw[oV.o];exact aX) gz);rw[oV.o,<-oR.o]at uf;have kj:=af (HA.o.below jx aO.o);have YT:i*4+3<n*4:=by omega
   obtain⟨u0,p0,f0⟩:=kj.o.cell (j:=i*4) (by omega);obtain⟨u1,p1,f1⟩:=kj.o.cell (j:=i*4+1) (by omega);obtain⟨u2,p2,f2⟩:=kj.o.cell (j:=i*4+2) (by omega);obtain⟨u3,p3,f3⟩:=kj.o.cell (j:=i*4+3) (by omega);go_wp2;go_roundg(n-(i+1));case measure=>omega
   case rel=>
    refine⟨i+1,by omega,rfl,by go_num,uf,(show Below _ _ _ from ?_)⟩;exact(((((HB.o.trans (aO.o.mono (by omega))).setCell (by simp) _).setCell (by simp) _).setCell (by simp) _).setCell (by simp) _)
  .go_wp2;go_ret;refine⟨xL (some ⟨w.heap.size,0,none⟩) n n,rfl,?_,HB.o⟩;have h1:=HA.o;have Sa:=ek.o;rw[Qah (by rw[Sa];omega)]at h1;exact .inr ⟨_,by rw[Sa];exact h0,bq,by rw[Sa],by rw[Sa];exact h1⟩
def Pg(l:List au)(hl:l.length<=12)(jn:∀y∈l,UH y)(M:aS)(w:aj)(v:an)(hM:Bd M w)(hs:ab M w v l):
 xG 202 #[v, .func (.func 203) #[] #[]] w (KA w l):=by
 by_cases h0:0<l.length
 .exact IE l hl h0 jn M w v hM hs
 .have e:l=[]:=Qdd (by omega);subst e;obtain⟨a,cap,rfl,_⟩:=hs.open_;refine dJ (EO a cap _ w) ?_;exact⟨_,rfl, .inl ⟨rfl,rfl⟩,dK⟩
def yT(l:List au)(hl:l.length<=12)(jn:∀y∈l,UH y)(M:aS)(w:aj)(v:an)(hM:Bd M w)(hs:ab M w v l):xG 180 #[v] w (KA w l):=by
 have HE:=af (Pg l hl jn M w v hM hs);go_enter func180,ntmps180;go_wp2_with fail;refine(HE.o).mono ?_;rintro e w1⟨v',rfl,hs,hb⟩;have HS:=af hs;have HB:=af hb;go_wp2;go_ret;exact⟨_,rfl,HS.o,HB.o⟩
def Ta(h:ld mS B w l.length l)(hf:∀y∈l,y.list=[]):pJ B w l:=by
 obtain⟨s,cur,h1,h2,h3,h4,h5,h6,h7⟩:=h;refine⟨cur,h1,h2,λi x hx=> ?_⟩;obtain⟨a,b,c,d,p0,p1,p2,p3,k,n,t,ll,ad,rfl,ht,he,_,hor⟩:=h7 i x hx;have JX:ll=[]:=hf _ (Qaf hx);subst JX;obtain⟨rfl,rfl,rfl,rfl⟩:a=xI k/\b=xI n/\c=xS t/\d=xL ad 0 0:=by simpa using he
 rcases hor with⟨_,rfl⟩|⟨b,b0,b1,b2,rfl,hr⟩
 .exact⟨k,n,t,rfl,ht,p0,p1,p2,p3⟩
 .exact absurd b0 (by simp)
theorem KA.flat(h:KA W l v w')(hf:∀y∈l,y.list=[]):∃za,v=xL za l.length l.length/\(l=[]/\za=none\/∃b,0<l.length/\W.heap.size<=b/\b<w'.heap.size/\za=some ⟨b,0,none⟩/\pJ b w' l):=by
 rcases h with⟨rfl,rfl⟩|⟨B,h0,hB,rfl,hr⟩
 .exact⟨_,rfl, .inl ⟨rfl,rfl⟩⟩
 .exact⟨_,rfl, .inr ⟨B,h0,hB,hr.lt,rfl,Ta hr hf⟩⟩
def BE(x:au)(Dv:x.list.length<=12)(hf:∀y∈x.list,y.list=[])(jn:∀y∈x.list,UH y):UH x:=by
 obtain⟨vk,vn,vs,l⟩:=x;intro M w v hM hu;have dt:=sU hu;obtain⟨a,bQ,rfl,hs⟩:=cQ hu;dsimp only[au.list]at*;have Ag:Hd (∀W,aq w W->w.heap.size+2<=W.heap.size->_):=λW hb hz=>yT l Dv jn (dP M w 2) W _ (dp hM hz) (hs.ev (cW hb));have AZ:=af dt;have Ar:=af hf;have H12:=af Dv;go_enter func203,ntmps203;go_wp2_with fail;refine(Ag.o _ (Bx.dh w _ _).1 (by simp)).mono ?_;rintro e w1⟨vx,rfl,dB,aC⟩;obtain⟨za,rfl,hz⟩:=dB.flat Ar.o;have HZ:=af hz;have HB:=af ((Bx.dh w (fZ vk vn vs (xL a l.length bQ)) (fZ 0 0 ⟨#[]⟩ (xL none 0 0))).below aC);obtain⟨r0,r1,r2,r3⟩:=ae (HB.o.bJ rfl);obtain⟨e0,e1,e2,e3⟩:=ae (HB.o.cE rfl);have f3:=ag (HB.o.bJ rfl) 3;obtain⟨g0,g1,g2,g3⟩:=ic (HB.o.cE rfl);go_wp2_with fail;refine Qae (v:= .agg #[xI vk,xI vn,xS vs,xL za l.length l.length]) (by simp[results,results203,go_sem,e0,e1,e2,e3]) rfl ⟨_,rfl,⟨_,rfl,?_⟩,?_⟩
 .refine⟨vk,vn,vs,l,za,rfl,AZ.o,rfl,H12.o,?_⟩;rcases HZ.o with h|⟨b,b0,b1,b2,b3,cur,c1,c2,c3⟩
  .exact .inl h
  .have hz:w.heap.size+2<=b:=by simpa using b1
   refine .inr ⟨b,b0,by omega,by simpa [World.setCell]using b2,b3,cur,?_,c2,c3⟩;rw[Qag _ _ _ _ (by simp;omega),Qag _ _ _ _ (by simp;omega),Qag _ _ _ _ (by simp;omega),Qag _ _ _ _ (by simp;omega),Qag _ _ _ _ (by simp;omega)];exact c1
 .exact((((HB.o.1.setCell (by simp) _).setCell (by simp) _).setCell (by simp) _).setCell (by simp) _).setCell (by simp) _
def qc0(x:au)(h:x.list=[]):UH x:=BE x (by rw[h];exact Qbf _) (λy hy=>by rw[h]at hy;cases hy) (λy hy=>by rw[h]at hy;cases hy)
def qc1(x:au)(Dv:x.list.length<=12)(hf:∀y∈x.list,y.list=[]):UH x:=BE x Dv hf λy hy=>qc0 y (hf y hy)
def vL {fs:List ay}(h:aW fs many vs)(hl:vs.length<=12)(M:aS)(w:aj)(v:an)(hM:Bd M w)(hs:ab M w v vs):xC 180 #[v] w (bW w (KA w vs)):=
 yT vs hl (λx hx=>by
  obtain⟨f,_,hv⟩:=dw h x hx;have Aj:=nH hv;exact qc1 x Aj.1 Aj.2) M w v hM hs
def CM {fs:List ay}(h:aW fs many vs)(hl:vs.length<=12):yL 180 vs:=λM w v hM hs=>
 (vL h hl M w v hM hs).mono (by
   rintro e w'⟨v',rfl,hc,hb⟩;refine⟨_,rfl,?_,hb⟩;rcases hc with⟨rfl,rfl⟩|⟨B,h0,hB,rfl,hr⟩
   .exact ab.nil _ _
   .exact hr.slice (by unfold maxLen;omega) λi hi=>Qde (hM i hi) hB)
section
variable {R:V5}{B:Nat}{w w':aj}{n:Nat}{xs:List au}{s:Nat->Nat}
theorem kz.lt(h:kz R B w n xs s):B<w.heap.size:=by obtain⟨cur,h1,_⟩:=h;exact(Qaa.1 h1).1
theorem kz.at_(h:kz R B w n xs s){x:au}(hx:xs[i]? =some x):∃a b c d,(aU w B (i*4) a/\aU w B (i*4+1) b/\aU w B (i*4+2) c/\aU w B (i*4+3) d)/\
 (w.frozen? ⟨B,i*4,none⟩=false/\w.frozen? ⟨B,i*4+1,none⟩=false/\w.frozen? ⟨B,i*4+2,none⟩=false/\w.frozen? ⟨B,i*4+3,none⟩=false)/\R (s i) (s (i+1)) w [a,b,c,d] x:=by
 obtain⟨cur,h1,h2,h3,h4,h5,h6,h7⟩:=h;obtain⟨a,b,c,d,p0,p1,p2,p3,hr⟩:=h7 i x hx;exact⟨a,b,c,d,⟨cell_of_heap h1 p0,cell_of_heap h1 p1,cell_of_heap h1 p2,cell_of_heap h1 p3⟩,⟨ag h1 _,ag h1 _,ag h1 _,ag h1 _⟩,hr⟩
theorem kz.over(hR:yS R)(h:kz R B w n xs s)(hi:i<xs.length){a b c d:an}(hy:R (s i) (s (i+1)) w [a,b,c,d] y):
 kz R B (gJ w B (i*4) a b c d) n (xs.set i y) s:=by
 obtain⟨cur,h1,h2,h3,h4,h5,h6,h7⟩:=h;refine⟨_,dM h1 a b c d,by simp[h2],by simpa using h3,h4,h5,by simpa [kJ]using h6,λj x hx=> ?_⟩;have bD:i*4+4<=cur.size:=by omega
 have hj:j<xs.length:=by simpa using(Qad.1 hx).1
 have K8:s 0<=s j:=iX h5 (Qbf _);have hle:s (j+1)<=s xs.length:=iX h5 hj;have cm:∀k,k≠B->(gJ w B (i*4) a b c d).heap[k]? =w.heap[k]? :=λk hk=>gp hk;by_cases e:j=i
 .subst e;rw[List.getElem?_set_self hi]at hx;cases hx;refine⟨a,b,c,d,by rw[dj bD,if_pos rfl],by rw[dj bD,if_neg (by omega),if_pos rfl],by rw[dj bD,if_neg (by omega),if_neg (by omega),if_pos rfl],by rw[dj bD,if_neg (by omega),if_neg (by omega),if_neg (by omega),if_pos rfl],?_⟩;exact hR _ _ _ _ _ _ _ hy bq (by omega) λk k1 k2=>cm k (by omega)
 .rw[List.getElem?_set_ne (Ne.symm e)]at hx;obtain⟨a',b',c',d',p0,p1,p2,p3,hr⟩:=h7 j x hx;refine⟨a',b',c',d',?_,?_,?_,?_,hR _ _ _ _ _ _ _ hr bq (by omega) λk k1 k2=>cm k (by omega)⟩
  .rw[dj bD,if_neg (by omega),if_neg (by omega),if_neg (by omega),if_neg (by omega)];exact p0
  .rw[dj bD,if_neg (by omega),if_neg (by omega),if_neg (by omega),if_neg (by omega)];exact p1
  .rw[dj bD,if_neg (by omega),if_neg (by omega),if_neg (by omega),if_neg (by omega)];exact p2
  .rw[dj bD,if_neg (by omega),if_neg (by omega),if_neg (by omega),if_neg (by omega)];exact p3
theorem pJ.at_(h:pJ b w l){x:au}(hx:l[j]? =some x):∃k n t,x= .mk k n t []/\t.size<=maxLen/\(aU w b (j*4) (xI k)/\aU w b (j*4+1) (xI n)/\aU w b (j*4+2) (xS t)/\aU w b (j*4+3) (xL none 0 0))/\
 (w.frozen? ⟨b,j*4,none⟩=false/\w.frozen? ⟨b,j*4+1,none⟩=false/\w.frozen? ⟨b,j*4+2,none⟩=false/\w.frozen? ⟨b,j*4+3,none⟩=false):=by
 obtain⟨cur,h1,h2,h3⟩:=h;obtain⟨k,n,t,rfl,ht,p0,p1,p2,p3⟩:=h3 j x hx;exact⟨k,n,t,rfl,ht,⟨cell_of_heap h1 p0,cell_of_heap h1 p1,cell_of_heap h1 p2,cell_of_heap h1 p3⟩,⟨ag h1 _,ag h1 _,ag h1 _,ag h1 _⟩⟩
theorem pJ.stay(h:pJ b w l)(hb:w'.heap[b]? =w.heap[b]?):pJ b w' l:=by
 obtain⟨cur,h1,h2⟩:=h;exact⟨cur,hb.trans h1,h2⟩
theorem pJ.set(h:pJ b w l)(hj:j<l.length)(k n:Int)(t:aT)(ht:t.size<=maxLen):
 pJ b (gJ w b (j*4) (xI k) (xI n) (xS t) (xL none 0 0)) (l.set j (.mk k n t [])):=by
 obtain⟨cur,h1,h2,h3⟩:=h;refine⟨_,dM h1 _ _ _ _,by simp[h2],λi x hx=> ?_⟩;have bD:j*4+4<=cur.size:=by omega
 by_cases e:i=j
 .subst e;rw[List.getElem?_set_self hj]at hx;cases hx;exact⟨k,n,t,rfl,ht,by rw[dj bD,if_pos rfl],by rw[dj bD,if_neg (by omega),if_pos rfl],by rw[dj bD,if_neg (by omega),if_neg (by omega),if_pos rfl],by rw[dj bD,if_neg (by omega),if_neg (by omega),if_neg (by omega),if_pos rfl]⟩
 .rw[List.getElem?_set_ne (Ne.symm e)]at hx;obtain⟨k',n',t',rfl,Gm,p0,p1,p2,p3⟩:=h3 i x hx;refine⟨k',n',t',rfl,Gm,?_,?_,?_,?_⟩
  .rw[dj bD,if_neg (by omega),if_neg (by omega),if_neg (by omega),if_neg (by omega)];exact p0
  .rw[dj bD,if_neg (by omega),if_neg (by omega),if_neg (by omega),if_neg (by omega)];exact p1
  .rw[dj bD,if_neg (by omega),if_neg (by omega),if_neg (by omega),if_neg (by omega)];exact p2
  .rw[dj bD,if_neg (by omega),if_neg (by omega),if_neg (by omega),if_neg (by omega)];exact p3
theorem kz.nest(h:kz mS B w n xs s){k m:Int}{t:aT}{l':List au}(hx:xs[i]? =some (.mk k m t l))(hb:aU w B (i*4+3) (xL (some ⟨b,0,none⟩) l.length l.length))
 (hl:l'.length=l.length)(hr:pJ b w' l')(hz:w'.heap.size=w.heap.size)(ho:∀j,j≠b->w'.heap[j]? =w.heap[j]?):kz mS B w' n (xs.set i (.mk k m t l')) s:=by
 have Ad:=(Qad.1 hx).1;obtain⟨cur,h1,h2,h3,h4,h5,h6,h7⟩:=h;obtain⟨a0,a1,a2,a3,p0,p1,p2,p3,k0,m0,t0,l0,ad,e0,ht,e1,Dv,hor⟩:=h7 i _ hx;cases e0;obtain⟨rfl,rfl,rfl,rfl⟩:a0=xI k/\a1=xI m/\a2=xS t/\a3=xL ad l.length l.length:=by simpa using e1
 have Sb:=hb.symm.trans (cell_of_heap h1 p3);have K8:s 0<=s i:=iX h5 (Qbf _);rcases hor with⟨_,rfl⟩|⟨b',b0,b1,b2,rfl,hr0⟩
 .simp at Sb
 have e:b=b':=by simpa using Sb
 subst e;refine⟨cur,(ho B (by omega)).trans h1,h2,by simpa using h3,h4,h5,by simpa [hz]using h6,λj x A6=> ?_⟩;by_cases e:j=i
 .subst e;rw[List.getElem?_set_self Ad]at A6;cases A6;exact⟨_,_,_,_,p0,p1,p2,p3,k,m,t,l',_,rfl,ht,by rw[hl],by rw[hl];exact Dv, .inr ⟨b,by rw[hl];exact b0,b1,b2,rfl,hr⟩⟩
 .rw[List.getElem?_set_ne (Ne.symm e)]at A6;obtain⟨c0,c1,c2,c3,q0,q1,q2,q3,hq⟩:=h7 j x A6;have hj:=(Qad.1 A6).1;have hle:s (j+1)<=s xs.length:=iX h5 hj;refine⟨c0,c1,c2,c3,q0,q1,q2,q3,jx _ _ _ _ _ _ _ hq bq (by omega) λk k1 k2=>ho k λhkb=> ?_⟩;rcases Nat.lt_or_ge j i with T9|T9
  .have:s (j+1)<=s i:=iX h5 T9;omega
  .have:s (i+1)<=s j:=iX h5 (by omega);omega
end
def cF(al:List Int)(x:au):au:=if x.kind=4/\x.num∉al then .mk 0 0 jN []else x
def dx(al:List Int):au->au
 | .mk k n s l=>if k=5 then .mk k n s (l.map (cF al))else cF al (.mk k n s l)
def vM {x:au}(h:x.list=[]):(cF al x).list=[]:=by
 unfold cF;split
 .rfl
 .exact h
def yU {k:Int}{x:au}(h:kU k many x):kU k many (cF al x):=by
 unfold cF;split
 .rename_i hc;rcases h with⟨rfl,n,rfl,_⟩|⟨rfl,s,rfl,_⟩|⟨hk,_⟩
  .exact absurd hc.1 (by simp[au.kind])
  .exact absurd hc.1 (by simp[au.kind])
  .exact .inr (.inr ⟨hk, .inl rfl⟩)
 .exact h
def vN {x:au}:(cF al x).kind=3↔x.kind=3:=by
 unfold cF;split
 .rename_i hc;rw[hc.1];simp[au.kind]
 .exact Iff.rfl
def vO {x:au}(h:x.kind=3):cF al x=x:=by
 unfold cF;rw[if_neg λhc=>by rw[h]at hc;exact absurd hc.1 (by decide)]
def vP {x:au}(h:(cF al x).kind=4):(cF al x).num∈al:=by
 unfold cF at h⊢;split at h
 .simp[au.kind]at h
 .rename_i hc;rw[if_neg hc];exact Classical.byContradiction λhn=>hc ⟨h,hn⟩
def pK {n:Int}:dx al (.mk 5 n s l)= .mk 5 n s (l.map (cF al)):=
 if_pos (c:=(5:Int)=5) (t:=au.mk 5 n s (l.map (cF al))) (e:=cF al (.mk 5 n s l)) rfl
def nO:∀{v:au},v.kind≠5->dx al v=cF al v
 | .mk _ _ _ _,h=>if_neg h
def nP {j n:Int}(hj:j≠5):bw j (.mk 5 n s l)=(l.filter λi=>decide (i.kind=j)).map au.num:=if_neg (Ne.symm hj)
def BF {t:aR}{v:au}(h:db t many v):db t many (dx al v):=by
 rcases h with⟨hk,l,rfl,hl,hx⟩|⟨hk,h1⟩
 .refine .inl ⟨hk,l.map (cF al),rfl,by simpa using hl,λx A6=> ?_⟩;obtain⟨y,hy,rfl⟩:=List.mem_map.1 A6;exact yU (hx y hy)
 .refine .inr ⟨hk,?_⟩;rw[nO (kH h1)];exact yU h1
theorem yV:∀(l:List au),((l.map (cF al)).filter λi=>decide (i.kind=3)).map au.num=(l.filter λi=>decide (i.kind=3)).map au.num
 |[]=>rfl
 |x::r=>by
  by_cases h:x.kind=3
  .have e:=vO (al:=al) h;simp[List.filter_cons,e,h,yV r]
  .have e:¬(cF al x).kind=3:=λhc=>h (vN.1 hc);simp[List.filter_cons,e,h,yV r]
def vQ {t:aR}{v:au}(h:db t many v):bw 3 (dx al v)=bw 3 v:=by
 rcases h with⟨hk,l,rfl,hl,hx⟩|⟨hk,h1⟩
 .rw[pK,nP (by decide),nP (by decide)];exact yV l
 .have h5:=kH h1;have hl:=(iE h1 (.inl rfl)).1.1;have e:=nO (al:=al) h5;rw[e];by_cases h3:v.kind=3
  .rw[vO h3]
  .unfold bw;rw[if_neg h3,if_neg λhc=>h3 (vN.1 hc),hl,vM hl]
def sV {t:aR}{v:au}(h:db t many v):∀r∈bw 4 (dx al v),r∈al:=by
 intro r hr;rcases h with⟨hk,l,rfl,hl,hx⟩|⟨hk,h1⟩
 .rw[pK,nP (by decide)]at hr;obtain⟨y,hy,rfl⟩:=List.mem_map.1 hr;obtain⟨hy,h4⟩:=List.mem_filter.1 hy;obtain⟨z,_,rfl⟩:=List.mem_map.1 hy;exact vP (of_decide_eq_true h4)
 .have h5:=kH h1;have hl:=(iE h1 (.inl rfl)).1.1;have e:=nO (al:=al) h5;rw[e]at hr;unfold bw at hr;split at hr
  .rename_i h4;rw[List.mem_singleton.1 hr];exact vP h4
  .rw[vM hl]at hr;cases hr
def Ph(S:List Int)(o:bH):List Int:=(o.aJ.flatMap (bw 4)).filter λn=>decide (n∈S)
def BG(S:List Int)(o:bH):bH:={o with aJ:=o.aJ.map (dx (Ph S o))}
structure Pj(S:List Int)(v:au):Prop where
 refs:∀r∈bw 3 v,r∈S
 weaks:∀r∈bw 4 v,r∈S
def Pk {o:bH}{fs:List ay}(h:aW fs many o.aJ):aW fs many (BG S o).aJ:=by
 refine⟨by simpa [BG]using h.1,λi f v hf hv=> ?_⟩;unfold BG at hv;rw[List.getElem?_map]at hv;cases hx:o.aJ[i]? with
 |none=>rw[hx]at hv;simp at hv
 |some x=>
  rw[hx]at hv;simp at hv;subst hv;exact BF (h.2 i f x hf hx)
def Pl {o:bH}{fs:List ay}(h:aW fs many o.aJ)(hr:∀r∈o.aJ.flatMap (bw 3),r∈S):∀v∈(BG S o).aJ,Pj S v:=by
 intro v hv;unfold BG at hv;obtain⟨x,hx,rfl⟩:=List.mem_map.1 hv;obtain⟨f,_,hf⟩:=dw h x hx;refine⟨λr GN=> ?_,λr GN=> ?_⟩
 .rw[vQ hf]at GN;exact hr r (List.mem_flatMap.2 ⟨x,hx,GN⟩)
 .have:=sV hf r GN;unfold Ph at this;simpa using(List.mem_filter.1 this).2
theorem Pj.item {k n:Int}(h:Pj S (.mk k n s l))(hk:k=5){x:au}(hx:x∈l)(hl:x.list=[]):Pj S x:=by
 subst hk;obtain⟨h3,h4⟩:=h;rw[nP (by decide)]at h3 h4;refine⟨λr hr=> ?_,λr hr=> ?_⟩
 .unfold bw at hr;split at hr
  .rename_i hk;rw[List.mem_singleton.1 hr];exact h3 _ (List.mem_map.2 ⟨x,List.mem_filter.2 ⟨hx,by simpa using hk⟩,rfl⟩)
  .rw[hl]at hr;cases hr
 .unfold bw at hr;split at hr
  .rename_i hk;rw[List.mem_singleton.1 hr];exact h4 _ (List.mem_map.2 ⟨x,List.mem_filter.2 ⟨hx,by simpa using hk⟩,rfl⟩)
  .rw[hl]at hr;cases hr
theorem Pj.ref {n:Int}(h:n∈S):Pj S (.mk 3 n jN []):=
 ⟨λr hr=>by simp[bw,au.kind,au.num]at hr;rw[hr];exact h,λr hr=>by simp[bw,au.kind,au.list]at hr⟩
end
section
open Go.RowKit Go.Shelf
def Dh {k n:Int}(h:bS M w u (au.mk k n s l)):
 xC 69 #[u] w λe w'=>RS (k≠5/\l=[]) e/\aq w w':=by
 have HR:=fV (w:=w) (λW hb=>CL (w:=W) (h.below hb));obtain⟨a,cap,rfl,_⟩:=cQ h;obtain⟨m,hm⟩:=fx (l.length);rw[hm]at HR⊢;have bN:=af (Bx.dR w (xK #[xI k,xI n,xS s,xL a m cap] 30));go_enter func69,ntmps69;go_wp2_with fail;refine(HR.o _ bN.o.1).mono ?_;rintro e w1⟨⟨b,rfl,kD⟩,aC⟩;have HB:=af (bN.o.below aC);obtain⟨v0,v1,v2,v3⟩:=ae (HB.o.bJ rfl);cases b
 .clear kD aC;go_wp2;go_ret;exact⟨fA _,HB.o.1⟩
 have DF:Hd (k=5\/l=[]):=kD rfl;by_cases h5:k=5
 .subst h5;go_wp2;go_ret;exact⟨fA _,HB.o.1⟩
 have HP:Hd (k≠5/\l=[]):=⟨h5,DF.o.resolve_left h5⟩;have h5':(k !=5)=true:=by simpa using h5
 by_cases h3:k=3
 .subst h3;go_wp2;go_ret;exact⟨ij HP.o _,HB.o.1⟩
 have h3':(k !=3)=true:=by simpa using h3
 by_cases h4:k=4
 .subst h4;go_wp2;go_ret;exact⟨ij HP.o _,HB.o.1⟩
 have WO:(k !=4)=true:=by simpa using h4
 go_wp2;go_ret;exact⟨ij HP.o _,HB.o.1⟩
end
end Go.Proofs.YtccpcfcochffcaaGreatDoor
