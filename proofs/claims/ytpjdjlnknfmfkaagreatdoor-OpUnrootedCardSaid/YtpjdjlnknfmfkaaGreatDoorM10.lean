/- A part of the proof; no condition. -/
import Derived.Test.YtpjdjlnknfmfkaaGreatDoorM08
import Derived.Test.YtpjdjlnknfmfkaaGreatDoorM09
import Derived.Shelf.Strings.Search3
import Derived.Shelf.Strconv.Itoa3
import Derived.Lib.ItoaLen
import Derived.Lib.AppendIntMem
set_option linter.all false
set_option maxHeartbeats 8000000
set_option maxRecDepth 100000
namespace Go.Proofs.YtpjdjlnknfmfkaaGreatDoor
open Tryz
variable{w' w W w2:bq}{s s1 nm:bS}{i B K bm m j b:Nat}{a0 a1 a2 a3 v fv:bt}{l vs:List bE}{a:fM}{M M':bY}{c:bI}{br:Int}{o:Obj}{y:bE}{al:List Int}
section
open Go.RowKit Go.Shelf
def kI:Go.Shelf.Ren:=⟨λ|143=>428|219=>437|217=>441|225=>442|224=>443|267=>444|266=>450|314=>451|n=>n,λ|9=>9|3=>3|4=>4|5=>5|46=>248|146=>495|51=>305|n=>n,λ|1=>5|n=>n⟩
def LR:Go.Proofs.Lays.n143 prog kI:={
 mixed:=by kernel_rfl
 f143:=Tryz.func428.trans (by kernel_rfl)
 f217:=Tryz.func441.trans (by kernel_rfl)
 f219:=Tryz.func437.trans (by kernel_rfl)
 f224:=Tryz.func443.trans (by kernel_rfl)
 f225:=Tryz.func442.trans (by kernel_rfl)
 f266:=Tryz.func450.trans (by kernel_rfl)
 f267:=Tryz.func444.trans (by kernel_rfl)
 f314:=Tryz.func451.trans (by kernel_rfl)
 t3:=underlying3
 a3:=isAgg3
 z3:=sizeOf3
 v3:=zeroValue3
 t4:=underlying4
 a4:=isAgg4
 z4:=sizeOf4
 v4:=zeroValue4
 t5:=underlying5
 a5:=isAgg5
 z5:=sizeOf5
 v5:=zeroValue5
 t9:=underlying9
 a9:=isAgg9
 z9:=sizeOf9
 v9:=zeroValue9
 t46:=underlying248
 a46:=isAgg248
 z46:=sizeOf248
 v46:=zeroValue248
 t51:=underlying305
 a51:=isAgg305
 z51:=sizeOf305
 v51:=zeroValue305
 t146:=underlying495
 a146:=isAgg495
 z146:=sizeOf495
 v146:=zeroValue495
 g1:=by kernel_rfl}
def sN:Go.Shelf.Ren:=⟨λ|171=>216|243=>278|246=>313|283=>357|284=>358|285=>359|286=>360|129=>226|317=>383|318=>384|319=>385|320=>386|337=>424|338=>425|n=>n,λ|3=>3|9=>9|2=>2|4=>4|171=>436|0=>0|53=>307|37=>277|5=>5|173=>438|212=>458|51=>305|20=>20|213=>459|46=>248|232=>485|233=>486|n=>n,λ|17=>2|18=>3|19=>4|n=>n⟩
def O0:Go.Proofs.LaysM.n171 prog sN:={
 mixed:=by kernel_rfl
 f129:=Tryz.func226.trans (by kernel_rfl)
 f171:=Tryz.func216.trans (by kernel_rfl)
 f243:=Tryz.func278.trans (by kernel_rfl)
 f246:=Tryz.func313.trans (by kernel_rfl)
 f283:=Tryz.func357.trans (by kernel_rfl)
 f284:=Tryz.func358.trans (by kernel_rfl)
 f285:=Tryz.func359.trans (by kernel_rfl)
 f286:=Tryz.func360.trans (by kernel_rfl)
 f317:=Tryz.func383.trans (by kernel_rfl)
 f318:=Tryz.func384.trans (by kernel_rfl)
 f319:=Tryz.func385.trans (by kernel_rfl)
 f320:=Tryz.func386.trans (by kernel_rfl)
 f337:=Tryz.func424.trans (by kernel_rfl)
 f338:=Tryz.func425.trans (by kernel_rfl)
 t0:=underlying0
 a0:=isAgg0
 z0:=sizeOf0
 v0:=zeroValue0
 t2:=underlying2
 a2:=isAgg2
 z2:=sizeOf2
 v2:=zeroValue2
 t3:=underlying3
 a3:=isAgg3
 z3:=sizeOf3
 v3:=zeroValue3
 t4:=underlying4
 a4:=isAgg4
 z4:=sizeOf4
 v4:=zeroValue4
 t5:=underlying5
 a5:=isAgg5
 z5:=sizeOf5
 v5:=zeroValue5
 t9:=underlying9
 a9:=isAgg9
 z9:=sizeOf9
 v9:=zeroValue9
 t20:=underlying20
 a20:=isAgg20
 z20:=sizeOf20
 v20:=zeroValue20
 t37:=underlying277
 a37:=isAgg277
 z37:=sizeOf277
 v37:=zeroValue277
 t46:=underlying248
 a46:=isAgg248
 z46:=sizeOf248
 v46:=zeroValue248
 t51:=underlying305
 a51:=isAgg305
 z51:=sizeOf305
 v51:=zeroValue305
 t53:=underlying307
 a53:=isAgg307
 z53:=sizeOf307
 v53:=zeroValue307
 t171:=underlying436
 a171:=isAgg436
 z171:=sizeOf436
 v171:=zeroValue436
 t173:=underlying438
 a173:=isAgg438
 z173:=sizeOf438
 v173:=zeroValue438
 t212:=underlying458
 a212:=isAgg458
 z212:=sizeOf458
 v212:=zeroValue458
 t213:=underlying459
 a213:=isAgg459
 z213:=sizeOf459
 t232:=underlying485
 a232:=isAgg485
 z232:=sizeOf485
 v232:=zeroValue485
 t233:=underlying486
 a233:=isAgg486
 z233:=sizeOf486
 v233:=zeroValue486
 g17:=by kernel_rfl
 g18:=by kernel_rfl
 g19:=by kernel_rfl
 i0:=by kernel_rfl
 i2:=by kernel_rfl
 i3:=by kernel_rfl
 i4:=by kernel_rfl
 i5:=by kernel_rfl
 i9:=by kernel_rfl
 i20:=by kernel_rfl
 i37:=by kernel_rfl
 i46:=by kernel_rfl
 i51:=by kernel_rfl
 i53:=by kernel_rfl
 i171:=by kernel_rfl
 i173:=by kernel_rfl
 i212:=by kernel_rfl
 i232:=by kernel_rfl
 i233:=by kernel_rfl
 m17:=by kernel_rfl
 m18:=by kernel_rfl
 m19:=by kernel_rfl}
def Vx:kI.f 143=428:=by kernel_rfl
def Zg:sN.f 171=216:=by kernel_rfl
structure Gd(w:bq):Prop where
 tb:Tb w
 mx:∃m,w.cell? (kI.g 1,0)=some (xI m)
 pw:∀W,bC w W->Lib.TabIs prog W "internal/strconv.uint64pow10" .u64 Lib.pow10Tab
def Gd.aT {w:bq}(h:Gd w)(hb:bC w w'):Gd w':=by
 have⟨m,hm⟩:=h.mx;exact⟨h.tb.aT hb,⟨m,(hb.cell (p:=⟨kI.g 1,0,none⟩) (pI hm)).trans hm⟩,λW hW=>h.pw W (hb.trans (hW.mono hb.size))⟩
def LS(s t:bS)(hs:s.size<=1000)(w:bq)(hg:Gd w):xC 428 #[s,t] w (j7 (Lib.index s.data.toList t.data.toList) w):=by
 have⟨m,hm⟩:=hg.mx;have h:=Any.strings_Index LR s t m w (by omega) hm;rw[Vx]at h;exact h.mono λe w'⟨h1,h2⟩=>⟨h1,h2.symm⟩
def Sz(n:Int)(w:bq)(e:Ending)(w':bq):Prop:=∃s:bS,jI s.data.toList/\s.size<=30/\e=xR s/\bC w w'
def D9:∀d,d<10->(32:UInt8)<=UInt8.ofNat (48+d)/\UInt8.ofNat (48+d)<127:=by decide
def sO(u:Nat):∀c∈Lib.decDigits u,32<=c/\c<127:=by
 intro c hc;rw[Lib.decDigits_eq]at hc;obtain⟨t,_,rfl⟩:=aQ.1 hc;exact D9 _ (Nat.mod_lt _ (by omega))
def Hx(n:Int):∀c∈Lib.itoa n,32<=c/\c<127:=by
 intro c hc;unfold Lib.itoa at hc;split at hc
 .rcases aO.1 hc with rfl|hc
  .decide
  exact sO _ _ hc
 exact sO _ _ hc
def SA(n:Int)(hn:uA n)(w:bq)(hg:Gd w):xC 216 #[n] w (Sz n w):=by
 obtain⟨h0,h1⟩:=hn;have h:=Any.strconv_Itoa O0 n (by omega) (by omega) w (hg.pw w eH);rw[Zg]at h;refine h.mono λe w'⟨h2,k,os,h3⟩=>⟨_,?_,?_,h2,by rw[h3];exact Lib.below_grow _ w cN k os⟩
 .exact pO _ (by simpa using Hx n)
 have:=Lib.itoa_length_le n (by omega) (by omega);simp[ByteArray.size];omega
def SB(s t:bS)(hs:s.size<=1000)(w:bq)(hg:Gd w):xC 397 #[s,t] w λe w'=>∃x:Int,e=xR x/\bC w w':=by
 have h1:=Lib.index_ge s.data.toList t.data.toList;have h2:=Lib.index_le s.data.toList t.data.toList;rw[cH]at h2;have HI:=aV (LS s t hs w hg);generalize Lib.index s.data.toList t.data.toList=x at*;by_cases hx:x<0
 .go_enter func397,ntmps397;go_wp2_with fail;refine ey (HI.o) ?_;go_wp2;go_ret;exact⟨_,rfl,eH⟩
 obtain⟨i,rfl⟩:=Int.eq_ofNat_of_zero_le (by omega:0<=x);have hi:i<=s.size:=by omega
 have NM:=aV (show(s.extract 0 i).size<=1000 by simp;omega);delta xC;go_in;go_wp2_with fail;refine ey (HI.o) ?_;go_wp2_with fail;refine(DX (s.extract 0 i) NM.o _).mono ?_;rintro e w1⟨m,_,rfl,hb⟩;have HB:=aV hb;go_wp2;go_ret;exact⟨_,rfl,HB.o⟩
section
variable {M:bY}{w:bq}{lv:bt}{vs:List bE}
def jU(hl:aS M w lv vs){k n:Int}{ll:List bE}(hx:vs[i]? =some (.mk k n s ll)):∃b off cap a c,lv=xL (b,off) vs.length cap/\i<vs.length/\b<w.heap.size/\∀W,bC w W->(cC W b (off+i*4) k/\cC W b (off+i*4+1) n/\cC W b (off+i*4+2) s/\cC W b (off+i*4+3) (xL a ll.length c))/\dq M W (.agg #[k,n,s,xL a ll.length c]) (bE.mk k n s ll):=by
 have⟨b,off,cap,a,c,h1,h2,_,_,h3⟩:=ep hl hx;exact⟨b,off,cap,a,c,h1,(ag.1 hx).1,h2,h3⟩
def SC(hl:aS M w lv vs)(k n:Int)(s:bS)(ll:List bE)(hx:vs[0]? =some (.mk k n s ll))(hs:il s):xG 388 #[lv] w kA:=by
 obtain⟨b,off,cap,a,c,rfl,h0,hb,hc⟩:=jU hl hx;have⟨q0,q1,q2,q3⟩:=(hc (w.alloc (xK jl 50)) cU).1;simp only[Nat.zero_mul,Nat.add_zero]at q0 q1 q2 q3;have TG:=hs.1;delta xG;go_in;go_wp2_with fail;refine(DX s (by omega) _).mono ?_;rintro e w1⟨m,hm,rfl,hb1⟩;have cu:=aV ((Bx.fm w (fT 0 0 () ())).aT hb1);go_wp2_with fail;refine(kC _ _).mono ?_;rintro e w2⟨_,rfl,⟨z,hz,rfl⟩,cJ⟩;have bZ:=aV (cu.o.aT cJ);have HZ:=aV hz;have⟨c0,c1,c2,c3⟩:=aU (bZ.o.cP rfl);have⟨f0,f1,f2,f3⟩:=iS (bZ.o.cP rfl);unfold lG;go_wp2_with fail;refine ah (v:=lG z) (by simp[results,results388,go_sem,lG,c0,c1,c2,c3]) rfl (show de w kA _ _ from⟨_,rfl,⟨_,HZ.o,rfl⟩,?_⟩);exact(((bZ.o.1.setCell (by simp) _).setCell (by simp) _).setCell (by simp) _).setCell (by simp) _
def O1(hl:aS M w lv vs)(k n:Int)(s:bS)(ll:List bE)(hx:vs[0]? =some (.mk k n s ll))(k' n':Int)(s':bS)(ll':List bE)(JH:vs[1]? =some (.mk k' n' s' ll'))(hs:il s):xG 391 #[lv] w gx:=by
 obtain⟨b,off,cap,a,c,rfl,h0,hb,hc⟩:=jU hl hx;have⟨q0,q1,q2,q3⟩:=(hc (w.alloc (xK jl 50)) cU).1;simp only[Nat.zero_mul,Nat.add_zero]at q0 q1 q2 q3;have⟨b',off',cap',a',c',hv',h0',hb',hc'⟩:=jU hl JH;obtain⟨⟨rfl,rfl⟩,rfl⟩:(b=b'/\off=off')/\cap=cap':=by simpa using hv'
 have⟨r0,r1,r2,r3⟩:=(hc' (w.alloc (xK jl 50)) cU).1;simp only[Nat.one_mul]at r0 r1 r2 r3;have TG:=hs.1;have HS:=aV hs.2;have HT:Hd (∀p,qP s p->∀W,xC 392 #[xS (s.extract 0 p)] W (de W gx)):=λp hp W=>sK _ (by have:=hp.take;simpa using this) (by simp;omega) W;have HH:Hd (∀W,xC 393 #[s,n'] W (DY W s)):=λW=>AH s HS.o (by omega) n' W;delta xG;go_in;go_wp2_with fail;refine(HH.o _).mono ?_;rintro e w1⟨p,hp,rfl,hb1⟩;have cu:=aV ((Bx.fm w (fT 0 0 () ())).aT hb1);have hps:=hp.1;have HP:=aV hp;go_wp2_with fail;refine(HT.o p HP.o _).mono ?_;rintro e w2⟨_,rfl,⟨z,hz,rfl⟩,cJ⟩;have bZ:=aV (cu.o.aT cJ);have HZ:=aV hz;have⟨c0,c1,c2,c3⟩:=aU (bZ.o.cP rfl);have⟨f0,f1,f2,f3⟩:=iS (bZ.o.cP rfl);unfold nD;go_wp2_with fail;refine ah (v:=nD z) (by simp[results,results391,go_sem,nD,c0,c1,c2,c3]) rfl (show de w gx _ _ from⟨_,rfl,⟨_,HZ.o,rfl⟩,?_⟩);exact(((bZ.o.1.setCell (by simp) _).setCell (by simp) _).setCell (by simp) _).setCell (by simp) _
def O2(hl:aS M w lv vs)(k n:Int)(s:bS)(ll:List bE)(hx:vs[0]? =some (.mk k n s ll))(k' n':Int)(s':bS)(ll':List bE)(JH:vs[1]? =some (.mk k' n' s' ll'))(hs:il s):xG 395 #[lv] w gx:=by
 obtain⟨b,off,cap,a,c,rfl,h0,hb,hc⟩:=jU hl hx;have⟨q0,q1,q2,q3⟩:=(hc (w.alloc (xK jl 50)) cU).1;simp only[Nat.zero_mul,Nat.add_zero]at q0 q1 q2 q3;have⟨b',off',cap',a',c',hv',h0',hb',hc'⟩:=jU hl JH;obtain⟨⟨rfl,rfl⟩,rfl⟩:(b=b'/\off=off')/\cap=cap':=by simpa using hv'
 have⟨r0,r1,r2,r3⟩:=(hc' (w.alloc (xK jl 50)) cU).1;simp only[Nat.one_mul]at r0 r1 r2 r3;have TG:=hs.1;have HS:=aV hs.2;have HT:Hd (∀p,qP s p->∀W,xC 392 #[xS (s.extract p s.size)] W (de W gx)):=λp hp W=>sK _ (by have:=hp.drop;rw[(AL s p hp.1).1];exact this) (by simp;omega) W;have HH:Hd (∀W,xC 393 #[s,n'] W (DY W s)):=λW=>AH s HS.o (by omega) n' W;delta xG;go_in;go_wp2_with fail;refine(HH.o _).mono ?_;rintro e w1⟨p,hp,rfl,hb1⟩;have cu:=aV ((Bx.fm w (fT 0 0 () ())).aT hb1);have hps:=hp.1;have HP:=aV hp;go_wp2_with fail;refine(HT.o p HP.o _).mono ?_;rintro e w2⟨_,rfl,⟨z,hz,rfl⟩,cJ⟩;have bZ:=aV (cu.o.aT cJ);have HZ:=aV hz;have⟨c0,c1,c2,c3⟩:=aU (bZ.o.cP rfl);have⟨f0,f1,f2,f3⟩:=iS (bZ.o.cP rfl);unfold nD;go_wp2_with fail;refine ah (v:=nD z) (by simp[results,results395,go_sem,nD,c0,c1,c2,c3]) rfl (show de w gx _ _ from⟨_,rfl,⟨_,HZ.o,rfl⟩,?_⟩);exact(((bZ.o.1.setCell (by simp) _).setCell (by simp) _).setCell (by simp) _).setCell (by simp) _
def O3(hl:aS M w lv vs)(k n:Int)(s:bS)(ll:List bE)(hx:vs[0]? =some (.mk k n s ll))(k' n':Int)(s':bS)(ll':List bE)(JH:vs[1]? =some (.mk k' n' s' ll'))(hs:il s)(hg:Gd w):xG 396 #[lv] w kA:=by
 obtain⟨b,off,cap,a,c,rfl,h0,hb,hc⟩:=jU hl hx;have⟨q0,q1,q2,q3⟩:=(hc (w.alloc (xK jl 50)) cU).1;simp only[Nat.zero_mul,Nat.add_zero]at q0 q1 q2 q3;have⟨b',off',cap',a',c',hv',h0',hb',hc'⟩:=jU hl JH;obtain⟨⟨rfl,rfl⟩,rfl⟩:(b=b'/\off=off')/\cap=cap':=by simpa using hv'
 have⟨r0,r1,r2,r3⟩:=(hc' (w.alloc (xK jl 50)) cU).1;simp only[Nat.one_mul]at r0 r1 r2 r3;have TG:=hs.1;have HG:Hd (Gd (w.alloc (xK jl 50)).drew):=hg.aT cU.drew;have HI:Hd (∀W,Gd W->xC 397 #[s,s'] W λe w'=>∃x:Int,e=xR x/\bC W w'):=λW hg=>SB s s' (by omega) W hg;delta xG;go_in;have h0i:(0:Int)<(vs.length:Int):=by omega
 have h1i:(1:Int)<(vs.length:Int):=by omega
 go_upto_region 1 with fail;go_region_law(first
  |(go_simp;go_at_call 397;refine(HI.o _ HG.o).mono ?_;rintro e w1⟨x,rfl,hb1⟩;have cu:=aV (((Bx.fm w (fT 0 0 () ())).drew).aT hb1);clear hb1)
  |(go_simp;go_at_call 389;refine(kC _ _).mono ?_;rintro e w2⟨_,rfl,⟨z,hz,rfl⟩,cJ⟩;have bZ:=aV (cu.o.aT cJ);have HZ:=aV hz;have c0:=(aU (bZ.o.cP rfl)).1;have c1:=(aU (bZ.o.cP rfl)).2.1;have c2:=(aU (bZ.o.cP rfl)).2.2.1;have c3:=(aU (bZ.o.cP rfl)).2.2.2;have⟨f0,f1,f2,f3⟩:=iS (bZ.o.cP rfl);unfold lG));all_goals
  go_wp2_with fail;refine ah (v:=lG z) (by simp[results,results396,go_sem,lG,c0,c1,c2,c3]) rfl (show de w kA _ _ from⟨_,rfl,⟨_,HZ.o,rfl⟩,?_⟩);exact(((bZ.o.1.setCell (by simp) _).setCell (by simp) _).setCell (by simp) _).setCell (by simp) _
def O4(hl:aS M w lv vs)(k n:Int)(s:bS)(ll:List bE)(hx:vs[0]? =some (.mk k n s ll))(hn:uA n)(hg:Gd w):xG 398 #[lv] w gx:=by
 obtain⟨b,off,cap,a,c,rfl,h0,hb,hc⟩:=jU hl hx;have⟨q0,q1,q2,q3⟩:=(hc (w.alloc (xK jl 50)) cU).1;simp only[Nat.zero_mul,Nat.add_zero]at q0 q1 q2 q3;have HG:Hd (Gd (w.alloc (xK jl 50))):=hg.aT cU;have HN:=aV hn;delta xG;go_in;go_wp2_with fail;refine(SA n HN.o _ HG.o).mono ?_;rintro e w1⟨s1,hs1,hz1,rfl,hb1⟩;have cu:=aV ((Bx.fm w (fT 0 0 () ())).aT hb1);have re:=aV hs1;go_wp2_with fail;refine(sK s1 re.o (by omega) _).mono ?_;rintro e w2⟨_,rfl,⟨z,hz,rfl⟩,cJ⟩;have bZ:=aV (cu.o.aT cJ);have HZ:=aV hz;have⟨c0,c1,c2,c3⟩:=aU (bZ.o.cP rfl);have⟨f0,f1,f2,f3⟩:=iS (bZ.o.cP rfl);unfold nD;go_wp2_with fail;refine ah (v:=nD z) (by simp[results,results398,go_sem,nD,c0,c1,c2,c3]) rfl (show de w gx _ _ from⟨_,rfl,⟨_,HZ.o,rfl⟩,?_⟩);exact(((bZ.o.1.setCell (by simp) _).setCell (by simp) _).setCell (by simp) _).setCell (by simp) _
def Vy(hl:aS M w lv vs)(k n:Int)(s:bS)(ll:List bE)(hx:vs[0]? =some (.mk k n s ll))(x1 x2:bE)(h1:vs[1]? =some x1)(h2:vs[2]? =some x2):xG 402 #[lv] w λv w'=>dq M w' v (if n=0 then x2 else x1):=by
 obtain⟨b,off,cap,a,c,rfl,h0,hb,hc⟩:=jU hl hx;have⟨q0,q1,q2,q3⟩:=(hc (w.alloc (xK jl 50)) cU).1;simp only[Nat.zero_mul,Nat.add_zero]at q0 q1 q2 q3;have hL:=h0;obtain⟨k1,n1,s1,l1⟩:=x1;obtain⟨k2,n2,s2,l2⟩:=x2;have⟨b',off',cap',a',c',hv',h0',hb',hc'⟩:=jU hl h1;obtain⟨⟨rfl,rfl⟩,rfl⟩:(b=b'/\off=off')/\cap=cap':=by simpa using hv'
 have⟨b'',off'',cap'',a'',c'',hv'',h0'',hb'',hc''⟩:=jU hl h2;obtain⟨⟨rfl,rfl⟩,rfl⟩:(b=b''/\off=off'')/\cap=cap'':=by simpa using hv''
 have⟨r0,r1,r2,r3⟩:=(hc' (w.alloc (xK jl 50)) cU).1;have⟨t0,t1,t2,t3⟩:=(hc'' (w.alloc (xK jl 50)) cU).1;simp only[Nat.one_mul]at r0 r1 r2 r3;have wN:Hd (∀W,bC w W->dq M W (.agg #[k1,n1,s1,xL a' l1.length c']) (bE.mk k1 n1 s1 l1)):=λW hW=>(hc' W hW).2;have Q3:Hd (∀W,bC w W->dq M W (.agg #[k2,n2,s2,xL a'' l2.length c'']) (bE.mk k2 n2 s2 l2)):=λW hW=>(hc'' W hW).2;have wI:b≠w:=by omega
 have bZ:=aV (Bx.fm w (fT 0 0 () ()));have⟨c0,c1,c2,c3⟩:=aU (bZ.o.cP rfl);by_cases hn:n=0
 .have HN:Hd ((if n=0 then bE.mk k2 n2 s2 l2 else .mk k1 n1 s1 l1)= .mk k2 n2 s2 l2):=if_pos hn;rw[HN.o];subst hn;go_enter func402,ntmps402;go_wp2_with fail;refine ah (v:= .agg #[k2,n2,s2,xL a'' l2.length c'']) (by simp[results,results402,go_sem]) rfl ⟨_,rfl,Q3.o _ ?_,?_⟩;all_goals exact cU
 have HN:Hd ((if n=0 then bE.mk k2 n2 s2 l2 else .mk k1 n1 s1 l1)= .mk k1 n1 s1 l1):=if_neg hn;rw[HN.o];have QQ:(n !=0)=true:=by simpa using hn
 go_enter func402,ntmps402;go_wp2_with fail;refine ah (v:= .agg #[k1,n1,s1,xL a' l1.length c']) (by simp[results,results402,go_sem]) rfl ⟨_,rfl,wN.o _ ?_,?_⟩;all_goals exact cU
end
end
section
open Go.RowKit
def dS(h:Below B w W)(hK:B<=K):Below B w ((((W.setCell (K,0) a0).setCell (K,1) a1).setCell (K,2) a2).setCell (K,3) a3):=
 (((h.setCell hK _).setCell hK _).setCell hK _).setCell hK _
def Ik(s:bS)(hs:s=⟨#[42]⟩\/s=⟨#[45]⟩\/s=⟨#[47]⟩\/s=⟨#[61]⟩\/s=⟨#[62]⟩)(m n:Int)(hm:uA m)(hn:uA n)(a b:fM)(c d:Nat)(w:bq):
 xG 407 #[s, .agg #[xI 1,m,"",xL a 0 c], .agg #[xI 1,n,"",xL b 0 d]] w kA:=by
 have dp:=aV (Bx.iN w (fT 1 m () (xL a 0 c)) (fT 1 n () (xL b 0 d)) (fT 0 0 () ()));have nk:=aV (Bx.iN w (fT 1 m () (xL a 0 c)) (fT 1 (-n) () (xL b 0 d)) (fT 0 0 () ()));have HP:=aV (El m n hm hn);have HQ:=aV (Cg m n hm hn);have HH:Hd (∀s:bS,s=⟨#[61]⟩\/s=⟨#[62]⟩->∀x W,xC 434 #[xS s,xI x] W (Pn W)):=λs hs x W=>by
  rcases hs with rfl|rfl
  .exact AN [61] (.inl rfl) x W
  exact AN [62] (.inr rfl) x W
 obtain⟨m1,m2⟩:=hm;obtain⟨n1,n2⟩:=hn;have qd5:(s=⟨#[61]⟩\/s=⟨#[62]⟩)\/s=⟨#[42]⟩\/s=⟨#[45]⟩\/s=⟨#[47]⟩:=by
  rcases hs with h|h|h|h|h
  .exact .inr (.inl h)
  .exact .inr (.inr (.inl h))
  .exact .inr (.inr (.inr h))
  .exact .inl (.inl h)
  exact .inl (.inr h)
 rcases qd5 with h|rfl|rfl|rfl
 .skip;rcases h with rfl|rfl;all_goals
   go_enter func407,ntmps407;go_wp2_with fail;refine(Ek m n _ _ _ _ _).mono ?_;rintro e w1⟨x,rfl,hb1⟩;have cu:=aV (dp.o.aT hb1);go_wp2_with fail;refine(HH.o _ (by first|exact .inl rfl|exact .inr rfl) x _).mono ?_;rintro e w'⟨y,rfl,rfl⟩;cases y;all_goals
    go_wp2_with fail;refine(kC _ _).mono ?_;rintro e w2⟨_,rfl,⟨z,hz,rfl⟩,cJ⟩;have bZ:=aV (cu.o.aT cJ);have HZ:=aV hz;have⟨c0,c1,c2,c3⟩:=aU (bZ.o.im rfl);have⟨f0,f1,f2,f3⟩:=iS (bZ.o.im rfl);unfold lG;go_wp2_with fail;refine ah (v:=lG z) (by simp[results,results407,go_sem,lG,c0,c1,c2,c3]) rfl (show de w kA _ _ from⟨_,rfl,⟨_,HZ.o,rfl⟩,?_⟩);exact dS bZ.o.1 (by omega)
 .go_enter func407,ntmps407;go_wp2_with fail;refine(HP.o _).mono ?_;rintro e w'⟨x,rfl,rfl⟩;go_wp2_with fail;refine(kC _ _).mono ?_;rintro e w2⟨_,rfl,⟨z,hz,rfl⟩,cJ⟩;have bZ:=aV (dp.o.aT cJ);have HZ:=aV hz;have⟨c0,c1,c2,c3⟩:=aU (bZ.o.im rfl);have⟨f0,f1,f2,f3⟩:=iS (bZ.o.im rfl);unfold lG;go_wp2_with fail;refine ah (v:=lG z) (by simp[results,results407,go_sem,lG,c0,c1,c2,c3]) rfl (show de w kA _ _ from⟨_,rfl,⟨_,HZ.o,rfl⟩,?_⟩);exact dS bZ.o.1 (by omega)
 .go_enter func407,ntmps407;go_wp2_with fail;refine(kC _ _).mono ?_;rintro e w2⟨_,rfl,⟨z,hz,rfl⟩,cJ⟩;have bZ:=aV (nk.o.aT cJ);have HZ:=aV hz;have⟨c0,c1,c2,c3⟩:=aU (bZ.o.im rfl);have⟨f0,f1,f2,f3⟩:=iS (bZ.o.im rfl);unfold lG;go_wp2_with fail;refine ah (v:=lG z) (by simp[results,results407,go_sem,lG,c0,c1,c2,c3]) rfl (show de w kA _ _ from⟨_,rfl,⟨_,HZ.o,rfl⟩,?_⟩);exact dS bZ.o.1 (by omega)
 go_enter func407,ntmps407;go_wp2_with fail;refine(HQ.o _).mono ?_;rintro e w'⟨x,rfl,rfl⟩;go_wp2_with fail;refine(kC _ _).mono ?_;rintro e w2⟨_,rfl,⟨z,hz,rfl⟩,cJ⟩;have bZ:=aV (dp.o.aT cJ);have HZ:=aV hz;have⟨c0,c1,c2,c3⟩:=aU (bZ.o.im rfl);have⟨f0,f1,f2,f3⟩:=iS (bZ.o.im rfl);unfold lG;go_wp2_with fail;refine ah (v:=lG z) (by simp[results,results407,go_sem,lG,c0,c1,c2,c3]) rfl (show de w kA _ _ from⟨_,rfl,⟨_,HZ.o,rfl⟩,?_⟩);exact dS bZ.o.1 (by omega)
def Er(s t:bS)(hs:il s)(ht:il t)(a b:fM)(c d:Nat)(w:bq):
 xG 407 #[xS ⟨#[38]⟩, .agg #[xI 2,xI 0,s,xL a 0 c], .agg #[xI 2,xI 0,t,xL b 0 d]] w gx:=by
 have dp:=aV (Bx.iN w (fT 2 0 s (xL a 0 c)) (fT 2 0 t (xL b 0 d)) (fT 0 0 () ()));have h1:=hs.1;have h2:=ht.1;have HT:Hd (∀u:bS,u.data.toList=s.data.toList++t.data.toList->∀W,xC 392 #[xS u] W (de W gx)):=λu hu W=>sK u (by rw[hu];exact uw hs.2 ht.2) (by have:=congrArg List.length hu;rw[aJ,cH,cH,cH]at this;omega) W;delta xG;go_in;go_wp2_with fail;refine(HT.o _ (by simp) _).mono ?_;rintro e w2⟨_,rfl,⟨z,hz,rfl⟩,cJ⟩;have bZ:=aV (dp.o.aT cJ);have HZ:=aV hz;have⟨c0,c1,c2,c3⟩:=aU (bZ.o.im rfl);have⟨f0,f1,f2,f3⟩:=iS (bZ.o.im rfl);unfold nD;go_wp2_with fail;refine ah (v:=nD z) (by simp[results,results407,go_sem,nD,c0,c1,c2,c3]) rfl (show de w gx _ _ from⟨_,rfl,⟨_,HZ.o,rfl⟩,?_⟩);exact dS bZ.o.1 (by omega)
def yz(c:bI)(br:Int)(e:bG)(t:cq):Prop:=∀(M N:bY)(w:bq)(v:bt)(b bm:Nat)(vs:List bE),Bd N w->dq M w v e->sV N c vs b bm w->cD c.aW br vs->Gd w->
 xC 363 #[xP b,v] w (de w λu w'=>∃x,oF c t br e vs x/\dq N w' u x)
def sY {br:Int}{x:bE}(h:eF ⟨1,0⟩ br x):∃n,x= .mk 1 n mz []/\uA n:=by
 rcases h with⟨h,_⟩|⟨_,h⟩
 .simp at h
 rcases h with⟨_,n,rfl,h1,h2⟩|⟨h,_⟩|⟨h,_⟩
 .exact⟨n,rfl,h1,h2⟩
 .simp at h
 simp at h
def wB {br:Int}{x:bE}(h:eF ⟨2,0⟩ br x):∃s,x= .mk 2 0 s []/\il s:=by
 rcases h with⟨h,_⟩|⟨_,h⟩
 .simp at h
 rcases h with⟨h,_⟩|⟨_,s,rfl,h1⟩|⟨h,_⟩
 .simp at h
 .exact⟨s,rfl,h1⟩
 simp at h
def Km(br n:Int)(h:uA n):eF ⟨1,0⟩ br (.mk 1 n mz []):= .inr ⟨by simp, .inl ⟨rfl,n,rfl,h.1,h.2⟩⟩
def Kn(br:Int)(s:bS)(h:il s):eF ⟨2,0⟩ br (.mk 2 0 s []):= .inr ⟨by simp, .inr (.inl ⟨rfl,s,rfl,h⟩)⟩
def Es(h:il s):s.size<=maxLen:=by have:=h.1;unfold maxLen;omega
def SL {c:bI}{br:Int}{e:bG}{vs:List bE}{N:bY}{w:bq}(he:e.bg≠3)(h:kA v w):∃x,oF c ⟨1,0⟩ br e vs x/\dq N w' v x:=by
 obtain⟨n,hn,rfl⟩:=h;exact⟨_,⟨Km br n hn,λh=>absurd h he⟩,pH 1 n mz iM⟩
def Pr {c:bI}{br:Int}{e:bG}{vs:List bE}{N:bY}{w:bq}(he:e.bg≠3)(h:gx v w):∃x,oF c ⟨2,0⟩ br e vs x/\dq N w' v x:=by
 obtain⟨s,hs,rfl⟩:=h;exact⟨_,⟨Kn br s hs,λh=>absurd h he⟩,pH 2 0 s (Es hs)⟩
def kU {w:bq}(h:hU w bm):
 (∃v,∀W,W.heap[bm]? =w.heap[bm]?->(Instr.lookup 440 (.map (some bm)) (xS ⟨#[108,101,110]⟩) false).run prog W= .ok (iT v 388) W)/\
 (∃v,∀W,W.heap[bm]? =w.heap[bm]?->(Instr.lookup 440 (.map (some bm)) (xS ⟨#[108,101,102,116]⟩) false).run prog W= .ok (iT v 391) W)/\
 (∃v,∀W,W.heap[bm]? =w.heap[bm]?->(Instr.lookup 440 (.map (some bm)) (xS ⟨#[102,114,111,109]⟩) false).run prog W= .ok (iT v 395) W)/\
 (∃v,∀W,W.heap[bm]? =w.heap[bm]?->(Instr.lookup 440 (.map (some bm)) (xS ⟨#[102,105,110,100]⟩) false).run prog W= .ok (iT v 396) W)/\
 (∃v,∀W,W.heap[bm]? =w.heap[bm]?->(Instr.lookup 440 (.map (some bm)) (xS ⟨#[116,101,120,116]⟩) false).run prog W= .ok (iT v 398) W):=by
 obtain⟨es,clk,h0,⟨v1,a1,t1⟩,⟨v2,a2,t2⟩,⟨v3,a3,t3⟩,⟨v4,a4,t4⟩,⟨v5,a5,t5⟩,h6⟩:=h;exact⟨⟨v1,λW hW=>gG (hW.trans h0) _ _ a1⟩,⟨v2,λW hW=>gG (hW.trans h0) _ _ a2⟩,⟨v3,λW hW=>gG (hW.trans h0) _ _ a3⟩,⟨v4,λW hW=>gG (hW.trans h0) _ _ a4⟩,⟨v5,λW hW=>gG (hW.trans h0) _ _ a5⟩⟩
inductive pd(c:bI):Int->Int->bS->List cq->cq->Prop
 |num(n:Int)(s:bS):pd c 1 n s [] ⟨1,0⟩
 |txt(n:Int)(s:bS):jI s.data.toList->s.size<=100->pd c 2 n s [] ⟨2,0⟩
 |fld(n:Int)(f:bJ)(i:Nat):fieldAt c f.aX=i->c.aW[i]? =some f->pd c 3 n f.aX [] f.type
 |ari(n:Int)(s:bS):s=⟨#[42]⟩\/s=⟨#[45]⟩\/s=⟨#[47]⟩\/s=⟨#[61]⟩\/s=⟨#[62]⟩->pd c 4 n s [⟨1,0⟩,⟨1,0⟩] ⟨1,0⟩
 |cat(n:Int):pd c 4 n ⟨#[38]⟩ [⟨2,0⟩,⟨2,0⟩] ⟨2,0⟩
 |len(n:Int):pd c 6 n ⟨#[108,101,110]⟩ [⟨2,0⟩] ⟨1,0⟩
 |left(n:Int):pd c 6 n ⟨#[108,101,102,116]⟩ [⟨2,0⟩,⟨1,0⟩] ⟨2,0⟩
 |from_(n:Int):pd c 6 n ⟨#[102,114,111,109]⟩ [⟨2,0⟩,⟨1,0⟩] ⟨2,0⟩
 |find(n:Int):pd c 6 n ⟨#[102,105,110,100]⟩ [⟨2,0⟩,⟨2,0⟩] ⟨1,0⟩
 |text(n:Int):pd c 6 n ⟨#[116,101,120,116]⟩ [⟨1,0⟩] ⟨2,0⟩
 |ite(n p:Int):p=1\/p=2->pd c 6 n ⟨#[105,102]⟩ [⟨1,0⟩,⟨p,0⟩,⟨p,0⟩] ⟨p,0⟩
def qch {α:Type}{l:List α}(h:l.length=1):∃a,l=[a]:=List.length_eq_one_iff.1 h
def qci {α:Type}{l:List α}(h:l.length=2):∃a b,l=[a,b]:=by
 match l,h with
 |[a,b],_=>exact⟨a,b,rfl⟩
def qcj {α:Type}{l:List α}(h:l.length=3):∃a b c,l=[a,b,c]:=by
 match l,h with
 |[a,b,c],_=>exact⟨a,b,c,rfl⟩
def NI(N:bY)(R:Nat)(m:Nat)(br:Int)(ts:List cq)(i:Nat)(wr:bq):Prop:=
 ∃xs:List bE,xs.length=i/\(∀(j:Nat)(x:bE)(u:cq),xs[j]? =some x->ts[j]? =some u->eF u br x)/\eM N R 50 wr m xs
def NI.aT {N:bY}{R:Nat}{br:Int}{ts:List cq}{w:bq}(h:NI N R m br ts i w)(hb:bC w w'):NI N R m br ts i w':=by
 obtain⟨xs,h1,h2,h3⟩:=h;exact⟨xs,h1,h2,h3.aT hb⟩
def NI.lt {N:bY}{R:Nat}{br:Int}{ts:List cq}{w:bq}(h:NI N R m br ts i w):R<w:=by
 obtain⟨xs,h1,h2,h3⟩:=h;exact h3.lt
def NI.cell {N:bY}{R:Nat}{br:Int}{ts:List cq}{w:bq}(h:NI N R m br ts i w)(hj:j<m*4):∃v,cC w R j v/\w.frozen? (R,j)=false:=by
 obtain⟨xs,h1,h2,h3⟩:=h;exact h3.cell (j:=j) hj
def NI.step {N:bY}{R:Nat}{br:Int}{ts:List cq}{w:bq}(h:NI N R m br ts i w)(hi:i<m){u:cq}(hu:ts[i]? =some u){x:bE}(hx:eF u br x){a b c d:bt}(hr:bD.rep (orM N R) w [a,b,c,d] x):
 NI N R m br ts (i+1) ((((w.setCell (R,i*4) a).setCell (R,i*4+1) b).setCell (R,i*4+2) c).setCell (R,i*4+3) d):=by
 obtain⟨xs,h1,h2,h3⟩:=h;refine⟨xs++[x],by simp[h1],λj y v hy hv=> ?_,h3.lD rfl h1 hi hr⟩;by_cases hj:j<xs.length
 .rw[aq hj]at hy;exact h2 j y v hy hv
 rw[au (by omega)]at hy;have h0:j-xs.length=0:=by
  cases hq:j-xs.length with
  |zero=>rfl
  |succ q=>rw[hq]at hy;simp at hy
 rw[h0]at hy;simp at hy;subst hy;have:j=i:=by omega
 subst this;rw[hu]at hv;cases hv;exact hx
def sV.or {N:bY}{c:bI}{vs:List bE}{R:Nat}{w:bq}(h:sV N c vs b bm w)(k:bC w w')(hR:w<=R):sV (orM N R) c vs b bm w':=by
 obtain⟨⟨fa,fc,vv,h1,h2,h3⟩,h4⟩:=h;have E:Ev N w (orM N R) w':=⟨bh.bA k,λi hi=>hi.imp_right λe=>by rw[e];exact hR⟩;exact⟨⟨fa,fc,vv,(k.block b (ab.1 h1).1).trans h1,h2.ev E,h3.ev E⟩,h4.aT k⟩
def sZ {N:bY}{w:bq}{k n:Int}{a:bt}(h:dq N w a (bE.mk k n s l)):s.size<=maxLen:=by
 obtain⟨cs,_,h⟩:=h;have⟨_,_,_,h⟩:=fZ.iff.1 h;exact h
def Et {w:bq}{c:Nat}(h:aS M w (xL a 0 c) ([]:List bE)):aS M' w' (xL a 0 c) ([]:List bE):=by
 obtain⟨css,⟨h1,a',c',h2,h3,h4,h5⟩,h6,h7⟩:=h;cases h2;exact⟨[],⟨rfl,a,c,rfl,h3,h4,λh=>absurd h (by simp)⟩,rfl,λi cs x h=>by simp at h⟩
def Ps {p br:Int}(hp:p=1\/p=2){w:bq}{k n:Int}(h:eF ⟨p,0⟩ br (.mk k n s l)){c:Nat}(hs:aS M w (xL a l.length c) l)(hz:s.size<=maxLen):dq M' w' (.agg #[k,n,s,xL a l.length c]) (bE.mk k n s l):=by
 have e:l=[]:=by
  rcases hp with rfl|rfl
  .have⟨_,h,_⟩:=sY h;cases h;rfl
  have⟨_,h,_⟩:=wB h;cases h;rfl
 subst e;exact⟨_,rfl,fZ.iff.2 ⟨_,rfl,Et hs,hz⟩⟩
def WF(c:bI)(t:cq)(br:Int)(e:bG)(vs:List bE)(u:bt)(_:bq):Prop:=∃(k n:Int)(s:bS)(a:fM)(g:Nat)(x:bE),u= .agg #[k,n,s,xL a 0 g]/\oF c t br e vs x/\∀N w',dq N w' u x
section
variable {c:bI}{br:Int}{e:bG}{vs:List bE}{w0 w wr:bq}{f:Nat}{args:Array bt}{N:bY}{R:Nat}
def Il(he:e.bg≠3)(h:xC f args w (de w0 kA)):xC f args w (de w0 (WF c ⟨1,0⟩ br e vs)):=h.mono (by
 rintro _ w'⟨_,rfl,⟨n,hn,rfl⟩,hb⟩;exact⟨_,rfl,⟨_,_,_,_,_,_,rfl,⟨Km br n hn,λh=>absurd h he⟩,λN w'=>pH 1 n mz iM⟩,hb⟩)
def Ch(he:e.bg≠3)(h:xC f args w (de w0 gx)):xC f args w (de w0 (WF c ⟨2,0⟩ br e vs)):=h.mono (by
 rintro _ w'⟨_,rfl,⟨s,hs,rfl⟩,hb⟩;exact⟨_,rfl,⟨_,_,_,_,_,_,rfl,⟨Kn br s hs,λh=>absurd h he⟩,λN w'=>pH 2 0 s (Es hs)⟩,hb⟩)
def VD {k0 n0 k1 n1:Int}{s0:bS}(h:aS N wr (xL (R,0) 2 2) [bE.mk k0 n0 s0 [],bE.mk k1 n1 s1 []]):∃a0 g0 a1 g1,(cC wr R 0 k0/\cC wr R 1 n0/\cC wr R 2 s0/\cC wr R 3 (xL a0 0 g0))/\cC wr R 4 k1/\cC wr R 5 n1/\cC wr R 6 s1/\cC wr R 7 (xL a1 0 g1):=by
 have⟨bp,op,cp,a0,g0,hv0,_,_,hc0⟩:=jU h (i:=0) rfl;have⟨bp',op',cp',a1,g1,hv1,_,_,hc1⟩:=jU h (i:=1) rfl;simp only[Value.slice.injEq,aG,Addr.mk.injEq]at hv0 hv1;obtain⟨⟨rfl,rfl,-⟩,-⟩:=hv0;obtain⟨⟨rfl,rfl,-⟩,-⟩:=hv1;have q:=(hc0 wr eH).1;have r:=(hc1 wr eH).1;simp only[Nat.zero_mul,Nat.one_mul,Nat.add_zero,Nat.zero_add,aD]at q r;exact⟨a0,g0,a1,g1,q,r⟩
end
set_option maxHeartbeats 16000000 in
theorem fu(c:bI)(hcn:c.aX.size<=maxLen)(br:Int)(k n:Int)(s:bS)(l:List bG)(ts:List cq)(t:cq)(RW:ts.length<=3)(Rl:l.length=ts.length)(Rm:∀(i:Nat)(x:bG)(u:cq),l[i]? =some x->ts[i]? =some u->yz c br x u)(FW:pd c k n s ts t):yz c br (.mk k n s l) t:=by
 intro M N w v b bm vs hN hag hsc hvs hg;obtain⟨cs,rfl,hrep⟩:=hag;obtain⟨lv,rfl,hsl,hss⟩:=dF.iff.1 hrep;have⟨i0,hi0,hz0,hz1,hz2⟩:=info_parts iD;have HN:=aV hN;have HG:=aV hg;have zy:=aV hvs;have Da:Hd (∀W,bC w W->sV N c vs b bm W):=λW hb=>hsc.aT hb;have HK:Hd (∀(i:Nat)(k n:Int)(s:bS)(ll:List bG),l[i]? =some (bG.mk k n s ll)->_):=λi k n s ll hx=>Kl hsl hx;have cI:Hd (∀(i:Nat)(x:bG)(u:cq)(W:bq)(v:bt),l[i]? =some x->ts[i]? =some u->bC w W->w.heap.size+1+1<W->dq M W v x->_):=λi x u W v h1 h2 h3 h5 h4=>Rm i x u h1 h2 M (orM N [w,w]) W v b bm vs (λj hj=>by rcases hj with hj|rfl;(have:=hN j hj;have:=h3.size;omega);exact h5) h4 (hsc.or h3 (by omega)) hvs (hg.aT h3);have Rj:b<w:=by
  obtain⟨⟨fa,fc,vv,h1,_⟩,_⟩:=hsc;exact(ab.1 h1).1
 have TM:bm<w:=by
  obtain⟨_,es,clk,h0,_⟩:=hsc;exact(ab.1 h0).1
 have TJ:=aV FW;obtain⟨la,lc,rfl,hlc,hlm,_⟩:=hsl.bj;generalize hnn:ts.length=m at*;have fB:=aV Rl;rw[Rl]at hlc HK⊢;have⟨cur,hmk,hcs⟩:=nF (P:=prog) ((w.alloc (Ep k n s (.slice la m lc))).alloc (fT 0 0 () (.slice none 0 0))) 39 50 i0 _ underlying39 hi0 hz0 m (by omega) (by omega);have Ac:=aV hnn;clear hsc hrep hsl Rm FW Rl hnn hN hg hvs;have ik:Hd (Bx w [Ep k n s (xL la m lc),fT 0 0 () ()] (((w.alloc (Ep k n s (xL la m lc))).alloc (fT 0 0 () ())).alloc (.cells cur 50))):=(Bx.ei w _ _).alloc _;have JF:Hd (NI N [w,w] m br ts 0 (((w.alloc (Ep k n s (xL la m lc))).alloc (fT 0 0 () ())).alloc (.cells cur 50))):=⟨[],rfl,λj x u h=>by simp at h,eM.made cur ((Bx.iN w _ _ _).im rfl) (by rw[hcs,hz1];rfl)⟩;clear hcs;rw[show((w.alloc (Ep k n s (xL la m lc))).alloc (fT 0 0 () ())).heap.size=[w,w]from by simp]at hmk;unfold Ep fT at hmk ik JF;go_enter func363,ntmps363;go_wp2;go_loopg [6,7,17]m(λg _ _ iv wr=>∃i:Nat,i<=m/\g=m-i/\iv=xI i/\Hd (Bx w [Ep k n s (xL la m lc),fT 0 0 () ()] wr)/\Hd (NI N [w,w] m br ts i wr));exact⟨0,ax _,rfl,rfl,ik,JF⟩;obtain⟨i,hi,rfl,rfl,HB,HA⟩:=hrel;have hsz:=HB.o.cM;simp only[aC,aD]at hsz;have Xf:w.heap.size+1+1<wr:=HA.o.lt;by_cases cE:i<m
 .have⟨⟨xk,xn,xs,xl⟩,hx⟩:=fg l i (by rw[fB.o];exact cE);have⟨u,hu⟩:=fg ts i (by rw[Ac.o];exact cE);have⟨bk,off,cap,xa,xc,hv,hbk,hcells⟩:=HK.o i _ _ _ _ hx;obtain⟨rfl,rfl⟩:=jk hv;have⟨⟨q0,q1,q2,q3⟩,_⟩:=hcells wr HB.o.1;have mC:=aV (λo=>cI.o i _ _ (wr.alloc o) _ hx hu (HB.o.1.alloc HB.o.1.size o) (by simp;omega) (hcells (wr.alloc o) (HB.o.1.alloc HB.o.1.size o)).2);have HU:=aV hu;clear hv hcells hx hu;go_wp2_with fail;refine(mC.o _).mono ?_;rintro e w1⟨_,rfl,⟨⟨yk,yn,ys,yl⟩,hy,hya⟩,hb1⟩;obtain⟨ua,uc,rfl,Gr⟩:=ec hya;have cu:=aV (HB.o.aT (ct hb1));have lJ:=aV (HA.o.aT (ct hb1));have HY:=aV hy;have HYA:=aV (show bD.rep (α:=bE) (orM N [w,w]) w1 [xI yk,xI yn,xS ys,xL ua yl.length uc] (.mk yk yn ys yl)by
   obtain⟨cs,hc,hr⟩:=hya;have hc2:=congrArg (λv:bt=>match v with| .agg a=>a.toList|_=>[]) hc;simp at hc2;rw[hc2];exact hr);have qd4:=lJ.o.lt;clear hb1 hy hya Gr;have Yp:i*4+3<m*4:=by omega
  have⟨u0,p0,f0⟩:=lJ.o.cell (j:=i*4) (by omega);have⟨u1,p1,f1⟩:=lJ.o.cell (j:=i*4+1) (by omega);have⟨u2,p2,f2⟩:=lJ.o.cell (j:=i*4+2) (by omega);have⟨u3,p3,f3⟩:=lJ.o.cell (j:=i*4+3) (by omega);go_wp2;go_roundg(m-(i+1));case measure=>omega
  case rel=>
   refine⟨i+1,by omega,rfl,by go_num,?_,?_⟩
   .exact((cu.o.ej (B:=w.heap.size+2) ((((eH.setCell (by simp) _).setCell (by simp) _).setCell (by simp) _).setCell (by simp) _) (by simp)))
   exact(lJ.o.step cE HU.o HY.o.1 HYA.o)
 have tS:=aV (show∃xs:List bE,xs.length=m/\(∀(j:Nat)(x:bE)(u:cq),xs[j]? =some x->ts[j]? =some u->eF u br x)/\aS N wr (xL (some ⟨[w,w],0,none⟩) m m) xs by
  have⟨xs,h1,h2,h3⟩:=HA.o;obtain rfl:i=m:=by omega
  exact⟨xs,h1,h2,h3.slice h1 (λh=>by have:=HN.o _ h;omega) (by unfold maxLen;omega)⟩);have⟨e0,e1,e2,e3⟩:=aU (HB.o.cP rfl);have⟨c0,c1,c2,c3⟩:=aU (HB.o.cZ rfl);have⟨f0,f1,f2,f3⟩:=iS (HB.o.cZ rfl);clear HA;cases TJ.o with
 |num n s=>
  go_wp2_with fail;refine(kC _ _).mono ?_;rintro e w2⟨_,rfl,⟨z,hz,rfl⟩,cJ⟩;have bZ:=aV (HB.o.aT cJ);have HZ:=aV hz;clear cJ hz;have⟨c0,c1,c2,c3⟩:=aU (bZ.o.cZ rfl);have⟨f0,f1,f2,f3⟩:=iS (bZ.o.cZ rfl);unfold lG;go_wp2_with fail;refine ah (v:=lG z) (by simp[results,results363,go_sem,lG,c0,c1,c2,c3]) rfl ⟨_,rfl,SL (w:=w2) (by simp[bG.bg]) ⟨_,HZ.o,rfl⟩,?_⟩;exact dS bZ.o.1 (by omega)
 |txt n s hs1 hs2=>
  go_wp2_with fail;refine(sK s hs1 (by omega) _).mono ?_;rintro e w2⟨_,rfl,⟨z,hz,rfl⟩,cJ⟩;have bZ:=aV (HB.o.aT cJ);have HZ:=aV hz;clear cJ hz;have⟨c0,c1,c2,c3⟩:=aU (bZ.o.cZ rfl);have⟨f0,f1,f2,f3⟩:=iS (bZ.o.cZ rfl);unfold nD;go_wp2_with fail;refine ah (v:=nD z) (by simp[results,results363,go_sem,nD,c0,c1,c2,c3]) rfl ⟨_,rfl,Pr (w:=w2) (by simp[bG.bg]) ⟨_,HZ.o,rfl⟩,?_⟩;exact dS bZ.o.1 (by omega)
 |fld n f i R3 Nw=>
  have⟨⟨fa,fc,vv,hbx,hfs,hvv⟩,_⟩:=Da.o w eH;have dp:Hd (∀W,bC w W->cX W b (xK #[c.aX,xL fa c.aW.length fc,vv, .map (some bm)] 443)):=λW hb=>(hb.block b Rj).trans hbx;have C5:Hd (∀W,bC w W->xC 109 #[.agg #[c.aX,xL fa c.aW.length fc],f.aX] W (di (.tuple #[xI (i:Int),true]) W)):=λW hb=>nr N _ W c f.aX i true (hfs.aT hb) hcn (by rw[R3];rw[if_neg (by omega)]) (by rw[R3];simp);have⟨⟨xk,xn,xs,xl⟩,hx⟩:=fg vs i (by rw[zy.o.1];exact(ag.1 Nw).1);obtain⟨bf,of,cf,xa,xc,rfl,wJ,hbf,hcv⟩:=jU hvv hx;have HCV:=aV hcv;have qao:=aV (hcv w eH).2;have wH:Hd (xs.size<=maxLen):=(sZ qao.o);have Yw:Hd (eF f.type br (.mk xk xn xs xl)):=zy.o.2 i f _ Nw hx;have BF:=aV (show vs[(fieldAt c f.aX).toNat]? =some (.mk xk xn xs xl)by rw[R3];simpa using hx);have Q2:Hd (DF 406 (.mk xk xn xs xl)):=sL 1 _ (oG Yw.o);have⟨b0,b1,b2,b3⟩:=aU (dp.o wr HB.o.1);clear hbx hfs hvv R3 Nw hx hcv;go_upto_region 11 with fail;go_region_law(first
   |(go_simp;go_at_call 109;refine dx (C5.o _ HB.o.1.drew) λw2 cJ=> ?_;have bZ:=aV (HB.o.drew.aT cJ);clear cJ));all_goals
   have⟨b0,b1,b2,b3⟩:=aU (dp.o w2 bZ.o.1);have⟨⟨q0,q1,q2,q3⟩,hag⟩:=HCV.o w2 bZ.o.1;have Q3:=aV (Q2.o (eo N w 2) w2 _ (dZ HN.o bZ.o.cM) (qao.o.ev (dH bZ.o.1)));clear hag;go_wp2_with fail;refine(Q3.o).mono ?_;rintro e w3⟨_,rfl,hy,hb3⟩;obtain⟨ua,uc,rfl,Gr⟩:=ec hy;have cR:=aV (bZ.o.aT hb3);have HY:=aV Gr;clear hb3 hy Gr;have⟨c0,c1,c2,c3⟩:=aU (cR.o.cZ rfl);have⟨f0,f1,f2,f3⟩:=iS (cR.o.cZ rfl);go_wp2_with fail;refine ah (v:= .agg #[xk,xn,xs,xL ua xl.length uc]) (by simp[results,results363,go_sem,c0,c1,c2,c3]) rfl ⟨_,rfl,⟨.mk xk xn xs xl,⟨Yw.o,λ_=>BF.o⟩,?_⟩,?_⟩
   .exact⟨_,rfl,lE (HY.o.ev ((((((fx w3).setCell (.inl (.inr ⟨by simp,by simp⟩)) _).setCell (.inl (.inr ⟨by simp,by simp⟩)) _).setCell (.inl (.inr ⟨by simp,by simp⟩)) _).setCell (.inl (.inr ⟨by simp,by simp⟩)) _))) wH.o⟩
   exact dS cR.o.1 (by omega)
 |ari n s hs=> ?ari
 |cat n=> ?cat
 |len n=> ?len
 |left n=> ?left
 |from_ n=> ?from_
 |find n=> ?find
 |text n=> ?text
 |ite n p hp=> ?ite;all_goals
  have⟨xs,hxl,hxv,hxs⟩:=tS.o;obtain⟨⟨fa,fc,vv,hbx,-,-⟩,hca⟩:=Da.o wr HB.o.1;have⟨b0,b1,b2,b3⟩:=aU hbx;have hi0:(0:Int)<2:=by omega
  have hi1:(1:Int)<2:=by omega
  have hfd:∀(v u:bt)(w:bq),(Instr.field 463 (.agg #[v,u]) 1).run prog w= .ok u w:=λ_ _ _=>by kernel_rfl
  have Jp:bC wr wr.drew:=⟨rfl,rfl,rfl,cN,λ_ _=>rfl⟩;have hgd:=HG.o.aT HB.o.1.drew
 case' ari|cat|left|from_|find=>
  obtain rfl:m=2:=by simpa using Ac.o.symm
  obtain⟨x0,x1,rfl⟩:=qci hxl
 case' len|text=>
  obtain rfl:m=1:=by simpa using Ac.o.symm
  obtain⟨x0,rfl⟩:=qch hxl
 case' ari|text=>
  obtain⟨z0,rfl,hz0⟩:=sY (hxv 0 _ _ rfl rfl)
 case' cat|left|from_|find|len=>
  obtain⟨z0,rfl,hz0⟩:=wB (hxv 0 _ _ rfl rfl)
 case' ari|left|from_=>
  obtain⟨z1,rfl,hz1⟩:=sY (hxv 1 _ _ rfl rfl)
 case' cat|find=>
  obtain⟨z1,rfl,hz1⟩:=wB (hxv 1 _ _ rfl rfl)
 case' ari|cat=>
  have⟨a0,g0,a1,g1,⟨q0,q1,q2,q3⟩,r0,r1,r2,r3⟩:=VD hxs
 case' ari=>
  unfold mz at q2 r2;have NU:=aV (Il (c:=c) (br:=br) (e:= .mk 4 n s l) (vs:=vs) (by simp[bG.bg]) (Ik s hs z0 z1 hz0 hz1 a0 a1 g0 g1 wr.drew));clear hs hbx hca hxs hxv hxl Jp hgd;go_upto_region 14 with fail
 case' cat=>
  have NU:=aV (Ch (c:=c) (br:=br) (e:= .mk 4 n ⟨#[38]⟩ l) (vs:=vs) (by simp[bG.bg]) (Er z0 z1 hz0 hz1 a0 a1 g0 g1 wr.drew));clear hbx hca hxs hxv hxl Jp hgd;go_upto_region 14 with fail
 case' len=>
  have NU:=aV (Il (c:=c) (br:=br) (e:= .mk 6 n ⟨#[108,101,110]⟩ l) (vs:=vs) (by simp[bG.bg]) (SC (hxs.aT Jp) 2 0 z0 [] rfl hz0));have⟨v,mD⟩:=(kU hca).1
 case' left=>
  have NU:=aV (Ch (c:=c) (br:=br) (e:= .mk 6 n ⟨#[108,101,102,116]⟩ l) (vs:=vs) (by simp[bG.bg]) (O1 (hxs.aT Jp) 2 0 z0 [] rfl 1 z1 mz [] rfl hz0));have⟨v,mD⟩:=(kU hca).2.1
 case' from_=>
  have NU:=aV (Ch (c:=c) (br:=br) (e:= .mk 6 n ⟨#[102,114,111,109]⟩ l) (vs:=vs) (by simp[bG.bg]) (O2 (hxs.aT Jp) 2 0 z0 [] rfl 1 z1 mz [] rfl hz0));have⟨v,mD⟩:=(kU hca).2.2.1
 case' find=>
  have NU:=aV (Il (c:=c) (br:=br) (e:= .mk 6 n ⟨#[102,105,110,100]⟩ l) (vs:=vs) (by simp[bG.bg]) (O3 (hxs.aT Jp) 2 0 z0 [] rfl 2 0 z1 [] rfl hz0 hgd));have⟨v,mD⟩:=(kU hca).2.2.2.1
 case' text=>
  have NU:=aV (Ch (c:=c) (br:=br) (e:= .mk 6 n ⟨#[116,101,120,116]⟩ l) (vs:=vs) (by simp[bG.bg]) (O4 (hxs.aT Jp) 1 z0 mz [] rfl hz0 hgd));have⟨v,mD⟩:=(kU hca).2.2.2.2
 case' ite=>
  obtain rfl:m=3:=by simpa using Ac.o.symm
  obtain⟨x0,x1,x2,rfl⟩:=qcj hxl;obtain⟨z0,rfl,hz0⟩:=sY (hxv 0 _ _ rfl rfl);have hvo:eF ⟨p,0⟩ br (if z0=0 then x2 else x1):=by
   split
   .exact hxv 2 _ _ rfl rfl
   exact hxv 1 _ _ rfl rfl
  have NU:Hd (xC 402 _ wr.drew (de wr.drew (WF c ⟨p,0⟩ br (.mk 6 n ⟨#[105,102]⟩ l) vs))):=(Vy (hxs.aT Jp) 1 z0 mz [] rfl x1 x2 rfl rfl).mono (by
   rintro _ w'⟨u,rfl,hu,hb⟩;generalize(if z0=0 then x2 else x1)=x at*;obtain⟨yk,yn,ys,yl⟩:=x;obtain⟨ua,uc,rfl,Gr⟩:=ec hu;have e:yl=[]:=by
    rcases hp with rfl|rfl
    .have⟨_,h,_⟩:=sY hvo;cases h;rfl
    have⟨_,h,_⟩:=wB hvo;cases h;rfl
   subst e;exact⟨_,rfl,⟨_,_,_,_,_,_,rfl,⟨hvo,λh=>by simp[bG.bg]at h⟩,λN w'=>Ps hp hvo Gr (sZ hu)⟩,hb⟩);have mD:=Kk hca
 case' len|left|from_|find|text|ite=>
  have Rn:=mD wr.drew rfl;clear mD hbx hca hxs hxv hxl Jp hgd;unfold iT at Rn;go_upto_region 18 with fail
 all_goals
  go_region_law(first
   |(go_simp;first|go_at_call 407|go_at_call 388|go_at_call 391|go_at_call 395|go_at_call 396|go_at_call 398|go_at_call 402
     refine(NU.o).mono ?_;rintro e w2⟨_,rfl,⟨yk,yn,ys,ya,yc,x,rfl,hx⟩,cJ⟩;have bZ:=aV (HB.o.drew.aT cJ);have HX:=aV hx;clear cJ hx;have c0:=(aU (bZ.o.cZ rfl)).1;have c1:=(aU (bZ.o.cZ rfl)).2.1;have c2:=(aU (bZ.o.cZ rfl)).2.2.1;have c3:=(aU (bZ.o.cZ rfl)).2.2.2;have⟨f0,f1⟩:=nZ (bZ.o.cZ rfl);have f2:=aY (bZ.o.cZ rfl) 2;have f3:=aY (bZ.o.cZ rfl) 3))
 all_goals
  go_wp2_with fail;exact ah (v:= .agg #[yk,yn,ys,xL ya 0 yc]) (by simp[results,results363,go_sem,c0,c1,c2,c3]) rfl ⟨_,rfl,⟨x,HX.o.1,HX.o.2 _ _⟩,dS bZ.o.1 (by omega)⟩
def iO {l:List bG}{ts:List cq}(h:∀p∈l.zip ts,sW c p.1 p.2):∀(i:Nat)(x:bG)(u:cq),l[i]? =some x->ts[i]? =some u->sW c x u:=by
 intro i x u hx hu;refine h (x,u) (ai (i:=i) ?_);rw[List.getElem?_zip_eq_some];exact⟨hx,hu⟩
def hZ {l:List bG}{ts:List cq}(h:∀p∈l.zip ts,yz c br p.1 p.2):∀(i:Nat)(x:bG)(u:cq),l[i]? =some x->ts[i]? =some u->yz c br x u:=by
 intro i x u hx hu;refine h (x,u) (ai (i:=i) ?_);rw[List.getElem?_zip_eq_some];exact⟨hx,hu⟩
def Mb(hcn:c.aX.size<=maxLen){e:bG}{t:cq}(h:my c e t):sW c e t:=by
 induction h with
 |num n h1 h2=>exact eN c hcn _ _ _ [] [] _ (by decide) rfl (λi x u h=>by simp at h) (.num _)
 |txt s hs=>exact eN c hcn _ _ _ [] [] _ (by decide) rfl (λi x u h=>by simp at h) (.txt _)
 |fld f i h1 h2=>exact eN c hcn _ _ _ [] [] _ (by decide) rfl (λi x u h=>by simp at h) (.fld f i h1 h2)
 |ari s a b hs _ _ h1 h2=>exact eN c hcn _ _ _ [a,b] [⟨1,0⟩,⟨1,0⟩] _ (by decide) rfl (iO (by simp;exact⟨h1,h2⟩)) (.ari _ (by rcases hs with rfl|rfl|rfl;exact .inl rfl;exact .inr (.inl rfl);exact .inr (.inr rfl)))
 |cat a b _ _ h1 h2=>exact eN c hcn _ _ _ [a,b] [⟨2,0⟩,⟨2,0⟩] _ (by decide) rfl (iO (by simp;exact⟨h1,h2⟩)) .cat
 |cmp s a b hs _ _ h1 h2=>exact eN c hcn _ _ _ [a,b] [⟨1,0⟩,⟨1,0⟩] _ (by decide) rfl (iO (by simp;exact⟨h1,h2⟩)) (.cmp _ (by rcases hs with rfl|rfl;exact .inl rfl;exact .inr rfl))
 |len a _ h1=>exact eN c hcn _ _ _ [a] [⟨2,0⟩] _ (by decide) rfl (iO (by simp;exact h1)) (.call ⟨#[108,101,110]⟩ 1 [⟨2,0⟩] (by simp[kT]))
 |text a _ h1=>exact eN c hcn _ _ _ [a] [⟨1,0⟩] _ (by decide) rfl (iO (by simp;exact h1)) (.call ⟨#[116,101,120,116]⟩ 2 [⟨1,0⟩] (by simp[kT]))
 |left a b _ _ h1 h2=>exact eN c hcn _ _ _ [a,b] [⟨2,0⟩,⟨1,0⟩] _ (by decide) rfl (iO (by simp;exact⟨h1,h2⟩)) (.call ⟨#[108,101,102,116]⟩ 2 [⟨2,0⟩,⟨1,0⟩] (by simp[kT]))
 |from_ a b _ _ h1 h2=>exact eN c hcn _ _ _ [a,b] [⟨2,0⟩,⟨1,0⟩] _ (by decide) rfl (iO (by simp;exact⟨h1,h2⟩)) (.call ⟨#[102,114,111,109]⟩ 2 [⟨2,0⟩,⟨1,0⟩] (by simp[kT]))
 |find a b _ _ h1 h2=>exact eN c hcn _ _ _ [a,b] [⟨2,0⟩,⟨2,0⟩] _ (by decide) rfl (iO (by simp;exact⟨h1,h2⟩)) (.call ⟨#[102,105,110,100]⟩ 1 [⟨2,0⟩,⟨2,0⟩] (by simp[kT]))
 |ite a b d p hp _ _ _ h1 h2 h3=>exact eN c hcn _ _ _ [a,b,d] [⟨1,0⟩,⟨p,0⟩,⟨p,0⟩] _ (by simp) rfl (iO (by simp;exact⟨h1,h2,h3⟩)) (.ite p hp)
def SM:∀s∈([[120],[45],[98],[110,111],[97,32,98]]:List (List UInt8)),s.length<=100/\∀c∈s,32<=c/\c<127:=by decide
def Pt(hcn:c.aX.size<=maxLen)(br:Int){e:bG}{t:cq}(h:my c e t):yz c br e t:=by
 induction h with
 |num n h1 h2=>exact fu c hcn br _ _ _ [] [] _ (by decide) rfl (λi x u h=>by simp at h) (.num _ _)
 |txt s hs=>
  have⟨h1,h2⟩:=SM s hs;exact fu c hcn br _ _ _ [] [] _ (by decide) rfl (λi x u h=>by simp at h) (.txt _ _ (pO _ (by simpa [bL]using h2)) (by simpa [bL,ByteArray.size]using h1))
 |fld f i h1 h2=>exact fu c hcn br _ _ _ [] [] _ (by decide) rfl (λi x u h=>by simp at h) (.fld _ f i h1 h2)
 |ari s a b hs _ _ h1 h2=>exact fu c hcn br _ _ _ [a,b] [⟨1,0⟩,⟨1,0⟩] _ (by decide) rfl (hZ (by simp;exact⟨h1,h2⟩)) (.ari _ _ (by rcases hs with rfl|rfl|rfl;exact .inl rfl;exact .inr (.inl rfl);exact .inr (.inr (.inl rfl))))
 |cat a b _ _ h1 h2=>exact fu c hcn br _ _ _ [a,b] [⟨2,0⟩,⟨2,0⟩] _ (by decide) rfl (hZ (by simp;exact⟨h1,h2⟩)) (.cat _)
 |cmp s a b hs _ _ h1 h2=>exact fu c hcn br _ _ _ [a,b] [⟨1,0⟩,⟨1,0⟩] _ (by decide) rfl (hZ (by simp;exact⟨h1,h2⟩)) (.ari _ _ (by rcases hs with rfl|rfl;exact .inr (.inr (.inr (.inl rfl)));exact .inr (.inr (.inr (.inr rfl)))))
 |len a _ h1=>exact fu c hcn br _ _ _ [a] [⟨2,0⟩] _ (by decide) rfl (hZ (by simp;exact h1)) (.len _)
 |text a _ h1=>exact fu c hcn br _ _ _ [a] [⟨1,0⟩] _ (by decide) rfl (hZ (by simp;exact h1)) (.text _)
 |left a b _ _ h1 h2=>exact fu c hcn br _ _ _ [a,b] [⟨2,0⟩,⟨1,0⟩] _ (by decide) rfl (hZ (by simp;exact⟨h1,h2⟩)) (.left _)
 |from_ a b _ _ h1 h2=>exact fu c hcn br _ _ _ [a,b] [⟨2,0⟩,⟨1,0⟩] _ (by decide) rfl (hZ (by simp;exact⟨h1,h2⟩)) (.from_ _)
 |find a b _ _ h1 h2=>exact fu c hcn br _ _ _ [a,b] [⟨2,0⟩,⟨2,0⟩] _ (by decide) rfl (hZ (by simp;exact⟨h1,h2⟩)) (.find _)
 |ite a b d p hp _ _ _ h1 h2 h3=>exact fu c hcn br _ _ _ [a,b,d] [⟨1,0⟩,⟨p,0⟩,⟨p,0⟩] _ (by simp) rfl (hZ (by simp;exact⟨h1,h2,h3⟩)) (.ite _ p hp)
structure XOk(e:bG):Prop where
 nodes:ju e=true
 deep:lV e<=8
 size:fw e<=40
def scO(s:bS)(a b c:bt):Obj:=xK #[s,a,b,c] 443
def SN(w2:bq)(nm:bS)(fv vv:bt)(K bm:Nat)(wx:bq):Prop:=wx.heap[K]? =some (scO nm fv vv (.map (some bm)))/\hU wx bm/\bC w2 wx
def Eu {vv:bt}(hca:hU w' bm)(hj:bC w2 w'):SN w2 nm fv vv w' bm (w'.alloc (xK #[nm,fv,vv, .map (some bm)] 443)):=
 ⟨az w' _,hca.aT cU,hj.alloc hj.size _⟩
def Pu {vv:bt}{x0 x1 x2 x3:bt}(hca:hU w' bm)(hj:bC w2 w')(hk:w'.heap[K]? =some (xK #[x0,x1,x2,x3] 443)/\w2<=K)(hb:K<bm):
 SN w2 nm fv vv K bm ((((w'.setCell (K,0) nm).setCell (K,1) fv).setCell (K,2) vv).setCell (K,3) (.map (some bm))):=by
 have h1:=aA _ K 0 _ _ nm hk.1;have h2:=aA _ K 1 _ _ fv h1;have h3:=aA _ K 2 _ _ vv h2;have h4:=aA _ K 3 _ _ (.map (some bm)) h3;refine⟨by simpa [scO]using h4,hca.only (S:=λi=>i=K) ?_ (λi hi=>by rw[hi];exact hb),dS hj hk.2⟩;exact((((bh.refl (λi=>i=K) w').setCell (p:=⟨K,0,none⟩) (.inl rfl) _).setCell (p:=⟨K,1,none⟩) (.inl rfl) _).setCell (p:=⟨K,2,none⟩) (.inl rfl) _).setCell (p:=⟨K,3,none⟩) (.inl rfl) _
def Im(h:Below B w W)(hK:B<=K)(hB:B<=W):Below B w (((W.setCell (K,0) a0).setCell (K,1) a1).alloc o):=by
 have h1:=(h.setCell (p:=⟨K,0,none⟩) hK a0).setCell (p:=⟨K,1,none⟩) hK a1;exact h1.alloc (by simpa [World.setCell]using hB) o
def zD(hb:Below (w2.alloc o).drew.heap.size (w2.alloc o).drew w'):w'.heap[w2.heap.size]? =some o/\w2.heap.size<=w2:=⟨(hb.block w2 (by show _<(w2.alloc o).heap.size;simp)).trans (az w2 o),cN⟩
def jB(hb:Below w2.drew.heap.size w2.drew w'):bC w2 w':=(ay _ w2).drew.trans hb
def jD(hb:Below (w2.alloc o).drew.heap.size (w2.alloc o).drew w'):bC w2 w':=((ay _ w2).alloc cN o).drew.trans (hb.mono (by show w2.heap.size<=(w2.alloc o).heap.size;simp))
def bmD(h:(w2.alloc o).drew.heap.size<=bm):w2<bm:=by
 have:(w2.alloc o).heap.size<=bm:=h;simp at this;omega
def Ew(c:bI)(hc:dE c)(e:bG)(t:cq)(hx:XOk e)(ht:my c e t)(M:bY)(w:bq)(v fv:bt)(hM:Bd M w)(hag:dq M w v e)(hfs:aS M w fv c.aW)(hT:Tb w):
 xC 317 #[v, .agg #[c.aX,fv]] w λε w'=>ε=xR (.tuple #[.agg #[t.bg,t.of],xI 0])/\bC w w':=by
 have hcn:=dD hc.small;have HR:=ie (w:=w) (λW hb=>AM e hx.nodes hx.deep hx.size M W v (hM.aT hb) (hag.aT hb) (hT.aT hb));have HC:Hd (∀W,bC w W->xC 50 #[.agg #[c.aX,fv]] W (di true W)):=λW hb=>by
  have h:=iA M fv W c (hfs.aT hb) hcn;rw[hc.right]at h;exact h
 have WY:Hd (∀W b bm,bC w W->sV M c [] b bm W->_):=λW b bm h1 h2=>Mb hcn ht M M W v b bm [] (hag.aT h1) h2;have jL:=aV hfs;obtain⟨cs,rfl,hrep⟩:=hag;obtain⟨k,n,s,l⟩:=e;obtain⟨lv,rfl,hsl,_⟩:=dF.iff.1 hrep;obtain⟨la,lc,rfl,_⟩:=hsl.bj;obtain⟨fa,fc,rfl,_⟩:=hfs.bj;clear hx ht hfs hrep hsl hT;delta xC;go_in;go_wp2_with fail;refine dx (HR.o _ (Bx.iN w _ _ _).1) λw1 hb1=> ?_;have cu:=aV ((Bx.iN w (Ep k n s (xL la l.length lc)) (dP c.aX (xL fa c.aW.length fc)) (Ga 0 0)).aT hb1);have⟨a0,a1⟩:=aZ (cu.o.cZ rfl);clear hb1;go_wp2_with fail;refine dx (HC.o _ cu.o.1) λw2 cJ=> ?_;have bZ:=aV (cu.o.aT cJ);have HS:Hd (∀W',bC w2 W'->W'.cell? ([w],0)=some (xS c.aX)/\W'.cell? ([w],1)=some (xL fa c.aW.length fc)):=λW' hb=>aZ ((bZ.o.aT hb).cZ rfl);have⟨a0,a1⟩:=aZ (bZ.o.cZ rfl);have HJ:Hd (bC w2 w2):=eH;clear cJ;go_upto_region 5 with fail;go_cut [6](λs6 wx=>∃K bm:Nat,s6=xP K/\Hd (SN w2 c.aX (xL fa c.aW.length fc) () K bm wx))
 .go_region_held3(λw'=>w'.cell? ([w],0)=some (xS c.aX)/\w'.cell? ([w],1)=some (xL fa c.aW.length fc))
   (with_reducible first|exact HS.o _ HJ.o|exact HS.o _ HJ.o.drew|exact HS.o _ (HJ.o.alloc HJ.o.size _)|exact HS.o _ ((HJ.o.alloc HJ.o.size _).drew)|exact HS.o _ (dS HJ.o HK.o.2))
   ((go_at_call 361;refine(Eo _).mono ?_;rintro e w3⟨bm,rfl,hca,TM,hb3⟩;have BE:=aV hca;try(with_reducible(have JI:=aV (bmD TM)))
     try(with_reducible(have HK:=aV (zD hb3)))
     try with_reducible have k0:=(aU HK.o.1).1
     try with_reducible have k1:=(aU HK.o.1).2.1
     try with_reducible have k2:=(aU HK.o.1).2.2.1
     try with_reducible have k3:=(aU HK.o.1).2.2.2
     try with_reducible have y0:=aY HK.o.1 0
     try with_reducible have y1:=aY HK.o.1 1
     try with_reducible have y2:=aY HK.o.1 2
     try with_reducible have y3:=aY HK.o.1 3
     have HJ:Hd (bC w2 w3):=(by with_reducible first|exact aV (jB hb3)|exact aV (jD hb3));clear hb3 hca TM));all_goals(go_wp2;go_meet)
  all_goals
   refine⟨_,bm,rfl,?_⟩;first
    |with_reducible exact aV (Eu BE.o HJ.o)
    |with_reducible exact aV (Pu BE.o HJ.o HK.o JI.o)
 obtain⟨K,bm,rfl,HM⟩:=hcut;have⟨w3,hw3⟩:=dd (wc);subst hw3;have cR:=aV (bZ.o.aT HM.o.2.2);have⟨e0,e1,e2,e3⟩:=aU (cR.o.cP rfl);have Da:Hd (sV M c [] K bm w3):=⟨⟨fa,fc,(),HM.o.1,jL.o.aT cR.o.1,aS.nil _ _⟩,HM.o.2.1⟩;clear a0 a1 HS;go_wp2_with fail;refine dx (WY.o _ _ _ cR.o.1 Da.o) λw4 eZ=> ?_;have fh:=aV (cR.o.aT eZ);have⟨c0,c1⟩:=aZ (fh.o.im rfl);have⟨f0,f1⟩:=nZ (fh.o.im rfl);have hl4:w.heap.size+1+1<w4:=(ab.1 (fh.o.im rfl)).1;clear eZ;go_wp2_with fail;refine ah (v:= .tuple #[.agg #[t.bg,t.of],xI 0]) (by simp[results,results317,go_sem,c0,c1,hl4]) rfl ⟨rfl,?_⟩;exact Im fh.o.1 (by omega) (by omega)
def Pv(c:bI)(hc:dE c)(br:Int)(hm:br<=100000)(e:bG)(t:cq)(hx:XOk e)(ht:my c e t)(M:bY)(w:bq)(v fv vv:bt)(vs:List bE)(hM:Bd M w)(hag:dq M w v e)(hfs:aS M w fv c.aW)(hvs:aS M w vv vs)(hv:cD c.aW br vs)(hg:Gd w):
 xG 319 #[v, .agg #[c.aX,fv],vv] w λr w'=>∃u x,r= .tuple #[u,xI 0]/\oF c t br e vs x/\dq M w' u x:=by
 have hcn:=dD hc.small;have WY:=ie (w:=w) (λW hb=>Ew c hc e t hx ht M W v fv (hM.aT hb) (hag.aT hb) (hfs.aT hb) (hg.tb.aT hb));have nV:=ie (w:=w) (λW hb=>jd c hc.right hcn br hm vs hv M W fv vv (hfs.aT hb) (hvs.aT hb) (hg.tb.aT hb));have HWX:Hd (∀W b bm,bC w W->w.heap.size+3<=W->sV (eo M w 3) c vs b bm W->_):=λW b bm h1 h3 h2=>Pt hcn br ht M (eo M w 3) W v b bm vs (dZ hM h3) (hag.aT h1) h2 hv (hg.aT h1);have jL:=aV hfs;have zy:=aV hvs;obtain⟨cs,rfl,hrep⟩:=hag;obtain⟨k,n,s,l⟩:=e;obtain⟨lv,rfl,hsl,_⟩:=dF.iff.1 hrep;obtain⟨la,lc,rfl,_⟩:=hsl.bj;obtain⟨fa,fc,rfl,_⟩:=hfs.bj;obtain⟨va,vc,rfl,_⟩:=hvs.bj;clear hx ht hfs hrep hsl hg hvs hv;delta xG;go_in;go_wp2_with fail;refine dx (WY.o _ (Bx.iN w _ _ _).1) λw1 hb1=> ?_;have cu:=aV ((Bx.iN w (Ep k n s (xL la l.length lc)) (dP c.aX (xL fa c.aW.length fc)) (fT 0 0 () ())).aT hb1);have⟨a0,a1⟩:=aZ (cu.o.cZ rfl);have hl1:w.heap.size+1<w1:=(ab.1 (cu.o.cZ rfl)).1;clear hb1;go_wp2_with fail;refine dx (nV.o _ (cu.o.1.alloc cu.o.1.size _)) λw2 cJ=> ?_;have bZ:=aV (cu.o.aT (ct cJ));have HS:Hd (∀W',bC w2 W'->W'.cell? ([w],0)=some (xS c.aX)/\W'.cell? ([w],1)=some (xL fa c.aW.length fc)):=λW' hb=>aZ ((bZ.o.aT hb).cZ rfl);have⟨a0,a1⟩:=aZ (bZ.o.cZ rfl);have HJ:Hd (bC w2 w2):=eH;clear cJ;go_upto_region 7 with fail;go_cut [12](λs6 wx=>∃K bm:Nat,s6=xP K/\Hd (SN w2 c.aX (xL fa c.aW.length fc) (xL va vs.length vc) K bm wx))
 .go_region_held3(λw'=>w'.cell? ([w],0)=some (xS c.aX)/\w'.cell? ([w],1)=some (xL fa c.aW.length fc))
   (with_reducible first|exact HS.o _ HJ.o|exact HS.o _ HJ.o.drew|exact HS.o _ (HJ.o.alloc HJ.o.size _)|exact HS.o _ ((HJ.o.alloc HJ.o.size _).drew)|exact HS.o _ (dS HJ.o HK.o.2))
   ((go_at_call 361;refine(Eo _).mono ?_;rintro e w3⟨bm,rfl,hca,TM,hb3⟩;have BE:=aV hca;try(with_reducible(have JI:=aV (bmD TM)))
     try(with_reducible(have HK:=aV (zD hb3)))
     try with_reducible have k0:=(aU HK.o.1).1
     try with_reducible have k1:=(aU HK.o.1).2.1
     try with_reducible have k2:=(aU HK.o.1).2.2.1
     try with_reducible have k3:=(aU HK.o.1).2.2.2
     try with_reducible have y0:=aY HK.o.1 0
     try with_reducible have y1:=aY HK.o.1 1
     try with_reducible have y2:=aY HK.o.1 2
     try with_reducible have y3:=aY HK.o.1 3
     have HJ:Hd (bC w2 w3):=(by with_reducible first|exact aV (jB hb3)|exact aV (jD hb3));clear hb3 hca TM));all_goals(go_wp2;go_meet)
  all_goals
   refine⟨_,bm,rfl,?_⟩;first
    |with_reducible exact aV (Eu BE.o HJ.o)
    |with_reducible exact aV (Pu BE.o HJ.o HK.o JI.o)
 obtain⟨K,bm,rfl,HM⟩:=hcut;have⟨w3,hw3⟩:=dd (wc);subst hw3;have cR:=aV (bZ.o.aT HM.o.2.2);have⟨e0,e1,e2,e3⟩:=aU (cR.o.cP rfl);have Da:Hd (sV (eo M w 3) c vs K bm w3):=⟨⟨fa,fc,_,HM.o.1,jL.o.ev (dH cR.o.1),zy.o.ev (dH cR.o.1)⟩,HM.o.2.1⟩;clear a0 a1 HS;go_wp2_with fail;refine(HWX.o _ _ _ cR.o.1 cR.o.cM Da.o).mono ?_;rintro e w4⟨_,rfl,⟨⟨yk,yn,ys,yl⟩,YC,hya⟩,eZ⟩;obtain⟨ua,uc,rfl,Gr⟩:=ec hya;have HY:=aV Gr;have HY2:Hd (ys.size<=maxLen):=sZ hya;have BF:=aV YC;have fh:=aV (cR.o.aT eZ);have⟨c0,c1,c2,c3⟩:=aU (fh.o.im rfl);have⟨f0,f1,f2,f3⟩:=iS (fh.o.im rfl);clear eZ hya YC Gr;go_wp2_with fail;refine ah (v:= .tuple #[.agg #[yk,yn,ys,xL ua yl.length uc],xI 0]) (by simp[results,results319,go_sem,c0,c1,c2,c3]) rfl ⟨_,rfl,⟨_,_,rfl,BF.o,⟨_,rfl,lE (HY.o.ev ?_) HY2.o⟩⟩,dS fh.o.1 (by omega)⟩;exact((((fx w4).setCell (.inl (.inr ⟨by simp;omega,by simp⟩)) _).setCell (.inl (.inr ⟨by simp;omega,by simp⟩)) _).setCell (.inl (.inr ⟨by simp;omega,by simp⟩)) _).setCell (.inl (.inr ⟨by simp;omega,by simp⟩)) _
end
section
open Go.RowKit Go.Shelf
def PE {k n:Int}(h:dq M w v (bE.mk k n s l)):s.size<=maxLen:=by
 obtain⟨cs,rfl,hr⟩:=h;have⟨_,_,_,hz⟩:=fZ.iff.1 hr;exact hz
end
section
open Go.RowKit
def Uf:bE->Prop| .mk k n s l=>∀(M:bY)(w:bq)(v:bt),Bd M w->dq M w v (bE.mk k n s l)->xC 215 #[v] w (de w λv' w'=>∃a,v'= .agg #[k,n,s,xL a l.length l.length]/\nP w w' w' [xI k,xI n,xS s,xL a l.length l.length] (.mk k n s l))
def Gb(w:bq)(l:List bE)(v:bt)(w':bq):Prop:=l=[]/\v=()\/∃B,0<l.length/\w.heap.size<=B/\v=xL (B,0) l.length l.length/\me nP B w' l.length l
def Iy(l:List bE)(hl:l.length<=12)(h0:0<l.length)(ji:∀y∈l,Uf y)(M:bY)(w:bq)(v:bt)(hM:Bd M w)(hs:aS M w v l):
 xG 232 #[v, .func (.func 215) #[] #[]] w (Gb w l):=by
 have⟨i0,hi0,hz0,hz1,hz2⟩:=info_parts iD;have HC:Hd (∀(i:Nat)(k n:Int)(s:bS)(ll:List bE),l[i]? =some (.mk k n s ll)->_):=λi k n s ll hx=>ep hs hx;have zo:Hd (∀y∈l,Uf y):=ji;obtain⟨a,cY,rfl,dN,hmx,_⟩:=hs.bj;generalize hn:l.length=n at*;have fB:=aV hn;have wK:((n:Int)==0)=false:=by simp;omega
 have⟨cur,hmk,hcs⟩:=nF (P:=prog) w 39 50 i0 _ underlying39 hi0 hz0 n (by omega) (by omega);have JF:Hd (me nP w (w.alloc (.cells cur 50)) n []):=me.made cur (az w _) (by rw[hcs,hz1]);delta xG;go_in;go_wp2;go_loopg [6,7,16]n(λg _ _ iv wr=>∃i:Nat,i<=n/\g=n-i/\iv=xI i/\Hd (me nP w wr n (l.take i))/\Hd (bC w wr));exact⟨0,ax _,rfl,rfl,JF,cU⟩;obtain⟨i,hi,rfl,rfl,HA,HB⟩:=hrel;have hsz:w.heap.size<wr:=HA.o.lt;by_cases cE:i<n
 .have⟨⟨xk,xn,xs,xl⟩,hx⟩:=fg l i (by rw[fB.o];exact cE);have⟨b,off,cap,a',c',hv,hb,hsl,hxs,hcells⟩:=HC.o i xk xn xs xl hx;obtain⟨rfl,rfl⟩:=jk hv;have⟨q0,q1,q2,q3⟩:=(hcells wr HB.o).1;have pr:=aV (show(l.take i).length=i by have:=fB.o;rw[aK];omega);have oQ:=aV (show l.take (i+1)=l.take i++[.mk xk xn xs xl]by rw[ao,hx];rfl);have cI:Hd (∀o,xC 215 #[.agg #[xk,xn,xs,xL a' xl.length c']] (wr.alloc o) (de (wr.alloc o) λv' w'=>∃a,v'= .agg #[xk,xn,xs,xL a xl.length xl.length]/\nP (wr.alloc o).heap.size w' w' [xI xk,xI xn,xS xs,xL a xl.length xl.length] (bE.mk xk xn xs xl))):=λo=>
   zo.o _ (ai hx) M _ _ (λj hj=>by have:=hM j hj;simp;omega) ⟨_,rfl,lE (hsl.aT (HB.o.alloc (by omega) o)) hxs⟩;go_wp2_with fail;refine(cI.o _).mono ?_;rintro e w1⟨_,rfl,⟨ya,rfl,hag⟩,hb1⟩;have cu:=aV (ct hb1);have tU:=aV ((HA.o.aT kE cU).snoc kE hb1 (by rw[pr.o];exact cE) hag);rw[pr.o,<-oQ.o]at tU;have lJ:=aV (HA.o.aT kE cu.o);have Yp:i*4+3<n*4:=by omega
  have⟨u0,p0,f0⟩:=lJ.o.cell (j:=i*4) (by omega);have⟨u1,p1,f1⟩:=lJ.o.cell (j:=i*4+1) (by omega);have⟨u2,p2,f2⟩:=lJ.o.cell (j:=i*4+2) (by omega);have⟨u3,p3,f3⟩:=lJ.o.cell (j:=i*4+3) (by omega);go_wp2;go_roundg(n-(i+1));case measure=>omega
  case rel=>
   refine⟨i+1,by omega,rfl,by go_num,tU,(show Below _ _ _ from ?_)⟩;exact(((((HB.o.trans (cu.o.mono (by omega))).setCell (by simp) _).setCell (by simp) _).setCell (by simp) _).setCell (by simp) _)
 go_wp2;go_ret;refine⟨xL (w,0) n n,rfl,?_,HB.o⟩;have h1:=HA.o;have hln:=fB.o;rw[ak (by rw[hln];omega)]at h1;exact .inr ⟨_,by rw[hln];exact h0,cN,by rw[hln],by rw[hln];exact h1⟩
def PF(l:List bE)(hl:l.length<=12)(ji:∀y∈l,Uf y)(M:bY)(w:bq)(v:bt)(hM:Bd M w)(hs:aS M w v l):
 xG 232 #[v, .func (.func 215) #[] #[]] w (Gb w l):=by
 by_cases h0:0<l.length
 .exact Iy l hl h0 ji M w v hM hs
 have e:l=[]:=aM (by omega);subst e;obtain⟨a,cap,rfl,_⟩:=hs.bj;refine ey (DZ a cap _ w) ?_;exact⟨_,rfl, .inl ⟨rfl,rfl⟩,eH⟩
def yE(l:List bE)(hl:l.length<=12)(ji:∀y∈l,Uf y)(M:bY)(w:bq)(v:bt)(hM:Bd M w)(hs:aS M w v l):xG 174 #[v] w (Gb w l):=by
 have HE:=aV (PF l hl ji M w v hM hs);delta xG;go_in;go_wp2_with fail;refine(HE.o).mono ?_;rintro e w1⟨v',rfl,hs,hb⟩;have HS:=aV hs;have HB:=aV hb;go_wp2;go_ret;exact⟨_,rfl,HS.o,HB.o⟩
def SP(h:me nP B w l.length l)(hf:∀y∈l,y.list=[]):tt B w l:=by
 obtain⟨s,cur,h1,h2,h3,h4,h5,h6,h7⟩:=h;refine⟨cur,h1,h2,λi x hx=> ?_⟩;obtain⟨a,b,c,d,p0,p1,p2,p3,k,n,t,ll,ad,rfl,ht,he,_,hor⟩:=h7 i x hx;have UM:ll=[]:=hf _ (ai hx);subst UM;obtain⟨rfl,rfl,rfl,rfl⟩:a=xI k/\b=xI n/\c=xS t/\d=xL ad 0 0:=by simpa using he
 rcases hor with⟨_,rfl⟩|⟨b,b0,b1,b2,rfl,hr⟩
 .exact⟨k,n,t,rfl,ht,p0,p1,p2,p3⟩
 exact absurd b0 (by simp)
def Gb.flat(h:Gb W l v w')(hf:∀y∈l,y.list=[]):∃za,v=xL za l.length l.length/\(l=[]/\za=none\/∃b,0<l.length/\W.heap.size<=b/\b<w'.heap.size/\za=some ⟨b,0,none⟩/\tt b w' l):=by
 rcases h with⟨rfl,rfl⟩|⟨B,h0,hB,rfl,hr⟩
 .exact⟨_,rfl, .inl ⟨rfl,rfl⟩⟩
 exact⟨_,rfl, .inr ⟨B,h0,hB,hr.lt,rfl,SP hr hf⟩⟩
def AY(x:bE)(h12:x.list.length<=12)(hf:∀y∈x.list,y.list=[])(ji:∀y∈x.list,Uf y):Uf x:=by
 obtain⟨vk,vn,vs,l⟩:=x;intro M w v hM hu;have hvs:=PE hu;obtain⟨a,cY,rfl,hs⟩:=ec hu;dsimp only[bE.list]at*;have zo:Hd (∀W,bC w W->w.heap.size+2<=W->_):=λW hb hz=>yE l h12 ji (eo M w 2) W _ (dZ hM hz) (hs.ev (dH hb));have zy:=aV hvs;have Gs:=aV hf;have H12:=aV h12;go_enter func215,ntmps215;go_wp2_with fail;refine(zo.o _ (Bx.ei w _ _).1 (by simp)).mono ?_;rintro e w1⟨vx,rfl,hs1,hb1⟩;obtain⟨za,rfl,hz⟩:=hs1.flat Gs.o;have HZ:=aV hz;have HB:=aV ((Bx.ei w (fT vk vn vs (xL a l.length cY)) (fT 0 0 () ())).aT hb1);have⟨r0,r1,r2,r3⟩:=aU (HB.o.cP rfl);have⟨e0,e1,e2,e3⟩:=aU (HB.o.cZ rfl);have f3:=aY (HB.o.cP rfl) 3;have⟨g0,g1,g2,g3⟩:=iS (HB.o.cZ rfl);go_wp2_with fail;refine ah (v:= .agg #[vk,vn,vs,xL za l.length l.length]) (by simp[results,results215,go_sem,e0,e1,e2,e3]) rfl ⟨_,rfl,⟨_,rfl,?_⟩,?_⟩
 .refine⟨vk,vn,vs,l,za,rfl,zy.o,rfl,H12.o,?_⟩;rcases HZ.o with h|⟨b,b0,b1,b2,b3,cur,c1,c2,c3⟩
  .exact .inl h
  have hz:↑w+2<=b:=by simpa using b1
  refine .inr ⟨b,b0,by omega,by simpa [World.setCell]using b2,b3,cur,?_,c2,c3⟩;rw[aj _ _ _ _ (by simp;omega),aj _ _ _ _ (by simp;omega),aj _ _ _ _ (by simp;omega),aj _ _ _ _ (by simp;omega),aj _ _ _ _ (by simp;omega)];exact c1
 exact((((HB.o.1.setCell (by simp) _).setCell (by simp) _).setCell (by simp) _).setCell (by simp) _).setCell (by simp) _
def qcm(x:bE)(h:x.list=[]):Uf x:=AY x (by rw[h];exact ax _) (λy hy=>by rw[h]at hy;cases hy) (λy hy=>by rw[h]at hy;cases hy)
def qcn(x:bE)(h12:x.list.length<=12)(hf:∀y∈x.list,y.list=[]):Uf x:=AY x h12 hf λy hy=>qcm y (hf y hy)
def vu {fs:List bJ}(h:cD fs br vs)(hl:vs.length<=12)(M:bY)(w:bq)(v:bt)(hM:Bd M w)(hs:aS M w v vs):xC 174 #[v] w (de w (Gb w vs)):=
 yE vs hl (λx hx=>by
  have⟨f,_,hv⟩:=fI h x hx;have JE:=oG hv;exact qcn x JE.1 JE.2) M w v hM hs
def Cn {fs:List bJ}(h:cD fs br vs)(hl:vs.length<=12):xY 174 vs:=λM w v hM hs=>
 (vu h hl M w v hM hs).mono (by
   rintro e w'⟨v',rfl,hc,hb⟩;refine⟨_,rfl,?_,hb⟩;rcases hc with⟨rfl,rfl⟩|⟨B,h0,hB,rfl,hr⟩
   .exact aS.nil _ _
   exact hr.slice (by unfold maxLen;omega) λi hi=>aN (hM i hi) hB)
section
variable {R:VF}{B:Nat}{w w':bq}{n:Nat}{xs:List bE}{s:Nat->Nat}
def lH.lt(h:lH R B w n xs s):B<w:=by obtain⟨cur,h1,_⟩:=h;exact(ab.1 h1).1
def lH.at_(h:lH R B w n xs s){x:bE}(hx:xs[i]? =some x):∃a b c d,(cC w B (i*4) a/\cC w B (i*4+1) b/\cC w B (i*4+2) c/\cC w B (i*4+3) d)/\
 (w.frozen? (B,i*4)=false/\w.frozen? (B,i*4+1)=false/\w.frozen? (B,i*4+2)=false/\w.frozen? (B,i*4+3)=false)/\R (s i) (s (i+1)) w [a,b,c,d] x:=by
 obtain⟨cur,h1,h2,h3,h4,h5,h6,h7⟩:=h;have⟨a,b,c,d,p0,p1,p2,p3,hr⟩:=h7 i x hx;exact⟨a,b,c,d,⟨cell_of_heap h1 p0,cell_of_heap h1 p1,cell_of_heap h1 p2,cell_of_heap h1 p3⟩,⟨aY h1 _,aY h1 _,aY h1 _,aY h1 _⟩,hr⟩
def lH.over(hR:yD R)(h:lH R B w n xs s)(hi:i<xs.length){a b c d:bt}(hy:R (s i) (s (i+1)) w [a,b,c,d] y):
 lH R B (lD w B (i*4) a b c d) n (xs.set i y) s:=by
 obtain⟨cur,h1,h2,h3,h4,h5,h6,h7⟩:=h;refine⟨_,fG h1 a b c d,by simp[h2],by simpa using h3,h4,h5,by simpa [lP]using h6,λj x hx=> ?_⟩;have hcs:i*4+4<=cur.size:=by omega
 have hj:j<xs.length:=by simpa using(ag.1 hx).1
 have hge:s 0<=s j:=jY h5 (ax _);have hle:s (j+1)<=s xs.length:=jY h5 hj;have hst:∀k,k≠B->(lD w B (i*4) a b c d).heap[k]? =w.heap[k]? :=λk hk=>iE hk;by_cases e:j=i
 .subst e;rw[List.getElem?_set_self hi]at hx;cases hx;refine⟨a,b,c,d,by rw[eC hcs,if_pos rfl],by rw[eC hcs,if_neg (by omega),if_pos rfl],by rw[eC hcs,if_neg (by omega),if_neg (by omega),if_pos rfl],by rw[eC hcs,if_neg (by omega),if_neg (by omega),if_neg (by omega),if_pos rfl],?_⟩;exact hR _ _ _ _ _ _ _ hy cN (by omega) λk k1 k2=>hst k (by omega)
 rw[List.getElem?_set_ne (Ne.symm e)]at hx;have⟨a',b',c',d',p0,p1,p2,p3,hr⟩:=h7 j x hx;refine⟨a',b',c',d',?_,?_,?_,?_,hR _ _ _ _ _ _ _ hr cN (by omega) λk k1 k2=>hst k (by omega)⟩
 .rw[eC hcs,if_neg (by omega),if_neg (by omega),if_neg (by omega),if_neg (by omega)];exact p0
 .rw[eC hcs,if_neg (by omega),if_neg (by omega),if_neg (by omega),if_neg (by omega)];exact p1
 .rw[eC hcs,if_neg (by omega),if_neg (by omega),if_neg (by omega),if_neg (by omega)];exact p2
 rw[eC hcs,if_neg (by omega),if_neg (by omega),if_neg (by omega),if_neg (by omega)];exact p3
def tt.at_(h:tt b w l){x:bE}(hx:l[j]? =some x):∃k n t,x= .mk k n t []/\t.size<=maxLen/\(cC w b (j*4) (xI k)/\cC w b (j*4+1) (xI n)/\cC w b (j*4+2) (xS t)/\cC w b (j*4+3) ())/\
 (w.frozen? (b,j*4)=false/\w.frozen? (b,j*4+1)=false/\w.frozen? (b,j*4+2)=false/\w.frozen? (b,j*4+3)=false):=by
 obtain⟨cur,h1,h2,h3⟩:=h;obtain⟨k,n,t,rfl,ht,p0,p1,p2,p3⟩:=h3 j x hx;exact⟨k,n,t,rfl,ht,⟨cell_of_heap h1 p0,cell_of_heap h1 p1,cell_of_heap h1 p2,cell_of_heap h1 p3⟩,⟨aY h1 _,aY h1 _,aY h1 _,aY h1 _⟩⟩
def tt.set(h:tt b w l)(hj:j<l.length)(k n:Int)(t:bS)(ht:t.size<=maxLen):
 tt b (lD w b (j*4) k n t ()) (l.set j (.mk k n t [])):=by
 obtain⟨cur,h1,h2,h3⟩:=h;refine⟨_,fG h1 _ _ _ _,by simp[h2],λi x hx=> ?_⟩;have hcs:j*4+4<=cur.size:=by omega
 by_cases e:i=j
 .subst e;rw[List.getElem?_set_self hj]at hx;cases hx;exact⟨k,n,t,rfl,ht,by rw[eC hcs,if_pos rfl],by rw[eC hcs,if_neg (by omega),if_pos rfl],by rw[eC hcs,if_neg (by omega),if_neg (by omega),if_pos rfl],by rw[eC hcs,if_neg (by omega),if_neg (by omega),if_neg (by omega),if_pos rfl]⟩
 rw[List.getElem?_set_ne (Ne.symm e)]at hx;obtain⟨k',n',t',rfl,BA,p0,p1,p2,p3⟩:=h3 i x hx;refine⟨k',n',t',rfl,BA,?_,?_,?_,?_⟩
 .rw[eC hcs,if_neg (by omega),if_neg (by omega),if_neg (by omega),if_neg (by omega)];exact p0
 .rw[eC hcs,if_neg (by omega),if_neg (by omega),if_neg (by omega),if_neg (by omega)];exact p1
 .rw[eC hcs,if_neg (by omega),if_neg (by omega),if_neg (by omega),if_neg (by omega)];exact p2
 rw[eC hcs,if_neg (by omega),if_neg (by omega),if_neg (by omega),if_neg (by omega)];exact p3
def lH.nest(h:lH nP B w n xs s){k m:Int}{t:bS}{l':List bE}(hx:xs[i]? =some (.mk k m t l))(hb:cC w B (i*4+3) (xL (b,0) l.length l.length))
 (hl:l'.length=l.length)(hr:tt b w' l')(hz:w'.heap.size=w)(ho:∀j,j≠b->w'.heap[j]? =w.heap[j]?):lH nP B w' n (xs.set i (.mk k m t l')) s:=by
 have hxl:=(ag.1 hx).1;obtain⟨cur,h1,h2,h3,h4,h5,h6,h7⟩:=h;have⟨a0,a1,a2,a3,p0,p1,p2,p3,k0,m0,t0,l0,ad,e0,ht,e1,h12,hor⟩:=h7 i _ hx;cases e0;obtain⟨rfl,rfl,rfl,rfl⟩:a0=xI k/\a1=xI m/\a2=xS t/\a3=xL ad l.length l.length:=by simpa using e1
 have Q6:=hb.symm.trans (cell_of_heap h1 p3);have hge:s 0<=s i:=jY h5 (ax _);rcases hor with⟨_,rfl⟩|⟨b',b0,b1,b2,rfl,Yo⟩
 .simp at Q6
 have e:b=b':=by simpa using Q6
 subst e;refine⟨cur,(ho B (by omega)).trans h1,h2,by simpa using h3,h4,h5,by simpa [hz]using h6,λj x JH=> ?_⟩;by_cases e:j=i
 .subst e;rw[List.getElem?_set_self hxl]at JH;cases JH;exact⟨_,_,_,_,p0,p1,p2,p3,k,m,t,l',_,rfl,ht,by rw[hl],by rw[hl];exact h12, .inr ⟨b,by rw[hl];exact b0,b1,b2,rfl,hr⟩⟩
 rw[List.getElem?_set_ne (Ne.symm e)]at JH;have⟨c0,c1,c2,c3,q0,q1,q2,q3,hq⟩:=h7 j x JH;have hj:=(ag.1 JH).1;have hle:s (j+1)<=s xs.length:=jY h5 hj;refine⟨c0,c1,c2,c3,q0,q1,q2,q3,kE _ _ _ _ _ _ _ hq cN (by omega) λk k1 k2=>ho k λhkb=> ?_⟩;rcases Nat.lt_or_ge j i with hji|hji
 .have:s (j+1)<=s i:=jY h5 hji;omega
 have:s (i+1)<=s j:=jY h5 (by omega);omega
end
def eW(al:List Int)(x:bE):bE:=if x.bg=4/\x.num∉al then .mk 0 0 mz []else x
def gq(al:List Int):bE->bE
 | .mk k n s l=>if k=5 then .mk k n s (l.map (eW al))else eW al (.mk k n s l)
def E4 {n:Int}:gq al (.mk 5 n s l)= .mk 5 n s (l.map (eW al)):=
 if_pos (c:=(5:Int)=5) (t:=bE.mk 5 n s (l.map (eW al))) (e:=eW al (.mk 5 n s l)) rfl
def IS:∀{v:bE},v.bg≠5->gq al v=eW al v
 | .mk _ _ _ _,h=>if_neg h
end
end Go.Proofs.YtpjdjlnknfmfkaaGreatDoor
