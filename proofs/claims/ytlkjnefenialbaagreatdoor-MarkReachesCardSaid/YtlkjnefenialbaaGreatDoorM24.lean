/- What index, Itoa and the table of calls answer; no condition beyond each theorem's own. -/
import Derived.Test.YtlkjnefenialbaaGreatDoorM20
import Derived.Test.YtlkjnefenialbaaGreatDoorM23
import Derived.Shelf.Strings.Search3
import Derived.Shelf.Strconv.Itoa3
import Derived.Lib.ItoaLen
import Derived.Lib.AppendIntMem
import Derived.Lib.IndexBytes
set_option linter.unusedVariables false
set_option linter.unusedSimpArgs false
set_option maxHeartbeats 8000000
set_option maxRecDepth 100000
namespace Go.Proofs.YtlkjnefenialbaaGreatDoor
open Go.RowKit Go.Shelf
def iG:Go.Shelf.Ren:=⟨fun|143=>253|219=>270|217=>278|225=>279|224=>280|267=>281|266=>292|314=>293|n=>n,fun|9=>9|3=>3|4=>4|5=>5|46=>138|146=>362|51=>182|n=>n,fun|1=>2|n=>n⟩
theorem GZ:Go.Proofs.Lays.n143 Tryz.prog iG:={
 mixed:=by kernel_rfl
 f143:=Tryz.func253.trans (congrArg some (by kernel_rfl))
 f217:=Tryz.func278.trans (congrArg some (by kernel_rfl))
 f219:=Tryz.func270.trans (congrArg some (by kernel_rfl))
 f224:=Tryz.func280.trans (congrArg some (by kernel_rfl))
 f225:=Tryz.func279.trans (congrArg some (by kernel_rfl))
 f266:=Tryz.func292.trans (congrArg some (by kernel_rfl))
 f267:=Tryz.func281.trans (congrArg some (by kernel_rfl))
 f314:=Tryz.func293.trans (congrArg some (by kernel_rfl))
 t3:=Tryz.underlying3
 a3:=Tryz.isAgg3
 z3:=Tryz.sizeOf3
 v3:=Tryz.zeroValue3
 t4:=Tryz.underlying4
 a4:=Tryz.isAgg4
 z4:=Tryz.sizeOf4
 v4:=Tryz.zeroValue4
 t5:=Tryz.underlying5
 a5:=Tryz.isAgg5
 z5:=Tryz.sizeOf5
 v5:=Tryz.zeroValue5
 t9:=Tryz.underlying9
 a9:=Tryz.isAgg9
 z9:=Tryz.sizeOf9
 v9:=Tryz.zeroValue9
 t46:=Tryz.underlying138
 a46:=Tryz.isAgg138
 z46:=Tryz.sizeOf138
 v46:=Tryz.zeroValue138
 t51:=Tryz.underlying182
 a51:=Tryz.isAgg182
 z51:=Tryz.sizeOf182
 v51:=Tryz.zeroValue182
 t146:=Tryz.underlying362
 a146:=Tryz.isAgg362
 z146:=Tryz.sizeOf362
 v146:=Tryz.zeroValue362
 g1:=by kernel_rfl}
def p9:Go.Shelf.Ren:=⟨fun|171=>232|243=>254|246=>271|283=>282|284=>283|285=>284|286=>285|129=>88|317=>294|318=>295|319=>296|320=>297|337=>301|338=>302|n=>n,fun|3=>3|9=>9|2=>2|4=>4|171=>352|0=>0|53=>184|37=>345|5=>5|173=>354|212=>365|51=>182|20=>20|213=>366|46=>138|232=>377|233=>378|n=>n,fun|17=>3|18=>6|19=>7|n=>n⟩
theorem J1:Go.Proofs.LaysM.n171 Tryz.prog p9:={
 mixed:=by kernel_rfl
 f129:=Tryz.func88.trans (congrArg some (by kernel_rfl))
 f171:=Tryz.func232.trans (congrArg some (by kernel_rfl))
 f243:=Tryz.func254.trans (congrArg some (by kernel_rfl))
 f246:=Tryz.func271.trans (congrArg some (by kernel_rfl))
 f283:=Tryz.func282.trans (congrArg some (by kernel_rfl))
 f284:=Tryz.func283.trans (congrArg some (by kernel_rfl))
 f285:=Tryz.func284.trans (congrArg some (by kernel_rfl))
 f286:=Tryz.func285.trans (congrArg some (by kernel_rfl))
 f317:=Tryz.func294.trans (congrArg some (by kernel_rfl))
 f318:=Tryz.func295.trans (congrArg some (by kernel_rfl))
 f319:=Tryz.func296.trans (congrArg some (by kernel_rfl))
 f320:=Tryz.func297.trans (congrArg some (by kernel_rfl))
 f337:=Tryz.func301.trans (congrArg some (by kernel_rfl))
 f338:=Tryz.func302.trans (congrArg some (by kernel_rfl))
 t0:=Tryz.underlying0
 a0:=Tryz.isAgg0
 z0:=Tryz.sizeOf0
 v0:=Tryz.zeroValue0
 t2:=Tryz.underlying2
 a2:=Tryz.isAgg2
 z2:=Tryz.sizeOf2
 v2:=Tryz.zeroValue2
 t3:=Tryz.underlying3
 a3:=Tryz.isAgg3
 z3:=Tryz.sizeOf3
 v3:=Tryz.zeroValue3
 t4:=Tryz.underlying4
 a4:=Tryz.isAgg4
 z4:=Tryz.sizeOf4
 v4:=Tryz.zeroValue4
 t5:=Tryz.underlying5
 a5:=Tryz.isAgg5
 z5:=Tryz.sizeOf5
 v5:=Tryz.zeroValue5
 t9:=Tryz.underlying9
 a9:=Tryz.isAgg9
 z9:=Tryz.sizeOf9
 v9:=Tryz.zeroValue9
 t20:=Tryz.underlying20
 a20:=Tryz.isAgg20
 z20:=Tryz.sizeOf20
 v20:=Tryz.zeroValue20
 t37:=Tryz.underlying345
 a37:=Tryz.isAgg345
 z37:=Tryz.sizeOf345
 v37:=Tryz.zeroValue345
 t46:=Tryz.underlying138
 a46:=Tryz.isAgg138
 z46:=Tryz.sizeOf138
 v46:=Tryz.zeroValue138
 t51:=Tryz.underlying182
 a51:=Tryz.isAgg182
 z51:=Tryz.sizeOf182
 v51:=Tryz.zeroValue182
 t53:=Tryz.underlying184
 a53:=Tryz.isAgg184
 z53:=Tryz.sizeOf184
 v53:=Tryz.zeroValue184
 t171:=Tryz.underlying352
 a171:=Tryz.isAgg352
 z171:=Tryz.sizeOf352
 v171:=Tryz.zeroValue352
 t173:=Tryz.underlying354
 a173:=Tryz.isAgg354
 z173:=Tryz.sizeOf354
 v173:=Tryz.zeroValue354
 t212:=Tryz.underlying365
 a212:=Tryz.isAgg365
 z212:=Tryz.sizeOf365
 v212:=Tryz.zeroValue365
 t213:=Tryz.underlying366
 a213:=Tryz.isAgg366
 z213:=Tryz.sizeOf366
 t232:=Tryz.underlying377
 a232:=Tryz.isAgg377
 z232:=Tryz.sizeOf377
 v232:=Tryz.zeroValue377
 t233:=Tryz.underlying378
 a233:=Tryz.isAgg378
 z233:=Tryz.sizeOf378
 v233:=Tryz.zeroValue378
 g17:=by kernel_rfl
 g18:=by kernel_rfl
 g19:=by kernel_rfl
 i0:=by kernel_rfl
 i2:=by kernel_rfl
 i3:=by kernel_rfl
 i4:=by kernel_rfl
 i5:=by kernel_rfl
 i9:=by kernel_rfl
 i20:=by kernel_rfl
 i37:=by kernel_rfl
 i46:=by kernel_rfl
 i51:=by kernel_rfl
 i53:=by kernel_rfl
 i171:=by kernel_rfl
 i173:=by kernel_rfl
 i212:=by kernel_rfl
 i232:=by kernel_rfl
 i233:=by kernel_rfl
 m17:=by kernel_rfl
 m18:=by kernel_rfl
 m19:=by kernel_rfl}
theorem PY:iG.f 143=253:=by kernel_rfl
theorem Tg:p9.f 171=232:=by kernel_rfl
structure Gd(w:World):Prop where
 tb:Tb w
 mx:∃m,w.cell? ⟨iG.g 1,0,none⟩=some (.int .i64 m)
 pw:∀W,Below w.heap.size w W→Lib.TabIs Tryz.prog W "internal/strconv.uint64pow10" .u64 Lib.pow10Tab
theorem Gd.below {w w':World}(h:Gd w)(hb:Below w.heap.size w w'):Gd w':=by
 obtain⟨m,hm⟩:=h.mx
 exact⟨h.tb.below hb,⟨m,(hb.cell (p:=⟨iG.g 1,0,none⟩) (mE hm)).trans hm⟩,fun W hW=>h.pw W (hb.trans (hW.mono hb.size))⟩
theorem G0(s t:ByteArray)(hs:s.size≤1000)(w:World)(hg:Gd w):Calls Tryz.prog 253 #[.string s, .string t] w fun e w'=>e= .returned (.int .i64 (Lib.index s.data.toList t.data.toList))∧w=w':=by
 obtain⟨m,hm⟩:=hg.mx
 have h:=Any.strings_Index GZ s t m w (by omega) hm
 rw[PY]at h
 exact h.mono fun e w'⟨h1,h2⟩=>⟨h1,h2.symm⟩
def M8(n:Int)(w:World)(e:Ending)(w':World):Prop:=∃s:ByteArray,gp s.data.toList∧s.size≤30∧e= .returned (.string s)∧Below w.heap.size w w'
theorem A6:∀d,d<10→(32:UInt8)≤UInt8.ofNat (48+d)∧UInt8.ofNat (48+d)<127:=by decide
theorem qa(u:Nat):∀c∈Lib.decDigits u,32≤c∧c<127:=by
 intro c hc
 rw[Lib.decDigits_eq]at hc
 obtain⟨t,_,rfl⟩:=List.mem_map.1 hc
 exact A6 _ (Nat.mod_lt _ (by omega))
theorem DH(n:Int):∀c∈Lib.itoa n,32≤c∧c<127:=by
 intro c hc
 unfold Lib.itoa at hc
 split at hc
 ·rcases List.mem_cons.1 hc with rfl|hc
  ·decide
  ·exact qa _ _ hc
 ·exact qa _ _ hc
theorem M9(n:Int)(hn:rq n)(w:World)(hg:Gd w):Calls Tryz.prog 232 #[.int .i64 n] w (M8 n w):=by
 obtain⟨h0,h1⟩:=hn
 have h:=Any.strconv_Itoa J1 n (by omega) (by omega) w (hg.pw w (Below.refl _ _))
 rw[Tg]at h
 refine h.mono fun e w'⟨h2,k,os,h3⟩=>⟨_,?_,?_,h2,by rw[h3];exact Lib.below_grow _ w (Nat.le_refl _) k os⟩
 ·exact mJ _ (by simpa using DH n)
 ·have:=Lib.itoa_length_le n (by omega) (by omega)
  simp[ByteArray.size];omega
theorem Na(s t:ByteArray)(hs:s.size≤1000)(w:World)(hg:Gd w):Calls Tryz.prog 230 #[.string s, .string t] w fun e w'=>∃x:Int,e= .returned (.int .i64 x)∧Below w.heap.size w w':=by
 have h1:=Lib.index_ge s.data.toList t.data.toList
 have h2:=Lib.index_le s.data.toList t.data.toList
 rw[aP]at h2
 have HI:=hD (G0 s t hs w hg)
 generalize Lib.index s.data.toList t.data.toList=x at*
 by_cases hx:x<0
 ·go_enter Tryz.func230,Tryz.ntmps230
  go_wp2_with fail
  refine(HI.out).mono ?_
  rintro e w'⟨rfl,rfl⟩
  go_wp2_with fail
  go_ret
  exact⟨_,rfl,Below.refl _ _⟩
 ·obtain⟨i,rfl⟩:=Int.eq_ofNat_of_zero_le (by omega:0≤x)
  have hi:i≤s.size:=by omega
  have R6:Hid ((s.extract 0 i).size≤1000):=(show _≤_ by simp;omega)
  clear h1 h2
  go_enter Tryz.func230,Tryz.ntmps230
  go_wp2_with fail
  refine(HI.out).mono ?_
  rintro e w'⟨rfl,rfl⟩
  go_wp2_with fail
  refine(AS (s.extract 0 i) R6.out _).mono ?_
  rintro e w1⟨m,_,rfl,hb⟩
  have HB:=hD hb
  clear hb
  go_wp2_with fail
  go_ret
  exact⟨_,rfl,HB.out⟩
section
variable {M:Nat→Prop}{w:World}{lv:Value}{vs:List au}
theorem fG(hl:ae M w lv vs){i:Nat}{k n:Int}{s:ByteArray}{ll:List au}(hx:vs[i]? =some (.mk k n s ll)):∃b off cap a c,lv= .slice (some ⟨b,off,none⟩) vs.length cap∧i<vs.length∧b<w.heap.size∧∀W,Below w.heap.size w W→(W.cell? ⟨b,off+i*4,none⟩=some (.int .i64 k)∧W.cell? ⟨b,off+i*4+1,none⟩=some (.int .i64 n)∧W.cell? ⟨b,off+i*4+2,none⟩=some (.string s)∧W.cell? ⟨b,off+i*4+3,none⟩=some (.slice a ll.length c))∧bI M W (.agg #[.int .i64 k, .int .i64 n, .string s, .slice a ll.length c]) (au.mk k n s ll):=by
 obtain⟨b,off,cap,a,c,h1,h2,_,_,h3⟩:=eL hl hx
 exact⟨b,off,cap,a,c,h1,(List.getElem?_eq_some_iff.1 hx).1,h2,h3⟩
theorem Nb(hl:ae M w lv vs)(k n:Int)(s:ByteArray)(ll:List au)(hx:vs[0]? =some (.mk k n s ll))(hs:eN s):Calls Tryz.prog 221 #[lv] w (aF w iU):=by
 obtain⟨b,off,cap,a,c,rfl,h0,hb,hc⟩:=fG hl hx
 obtain⟨q0,q1,q2,q3⟩:=(hc (w.alloc (.cells #[.int .i64 0, .int .i64 0, .string ⟨#[]⟩, .slice none 0 0] 134)) ((Below.refl _ _).alloc (Nat.le_refl _) _)).1
 simp only[Nat.zero_mul,Nat.add_zero]at q0 q1 q2 q3
 have Od:=hs.1
 clear hc hx hl hs
 go_enter Tryz.func221,Tryz.ntmps221
 go_wp2_with fail
 refine(AS s (by omega) _).mono ?_
 rintro e w1⟨m,hm,rfl,aw⟩
 have aO:=hD ((Bx.fA w (fD 0 0 ⟨#[]⟩ (.slice none 0 0))).below aw)
 clear aw q0 q1 q2 q3
 go_wp2_with fail
 refine(iz _ _).mono ?_
 rintro e w2⟨_,rfl,⟨z,hz,rfl⟩,aM⟩
 have aA:=hD (aO.out.below aM)
 have HZ:=hD hz
 clear aM hz
 obtain⟨c0,c1,c2,c3⟩:=ab (aA.out.bJ rfl)
 have f0:=aa (aA.out.bJ rfl) 0
 have f1:=aa (aA.out.bJ rfl) 1
 have f2:=aa (aA.out.bJ rfl) 2
 have f3:=aa (aA.out.bJ rfl) 3
 unfold fF
 go_wp2_with fail
 refine bodyPost_ret (v:=fF z) (by simp[results,Tryz.results221,go_sem,fF,c0,c1,c2,c3]) rfl (show aF w iU _ _ from⟨_,rfl,⟨_,HZ.out,rfl⟩,?_⟩)
 exact(((aA.out.1.setCell (by simp) _).setCell (by simp) _).setCell (by simp) _).setCell (by simp) _
theorem J2(hl:ae M w lv vs)(k n:Int)(s:ByteArray)(ll:List au)(hx:vs[0]? =some (.mk k n s ll))(k' n':Int)(s':ByteArray)(UA:List au)(CF:vs[1]? =some (.mk k' n' s' UA))(hs:eN s):Calls Tryz.prog 224 #[lv] w (aF w eG):=by
 obtain⟨b,off,cap,a,c,rfl,h0,hb,hc⟩:=fG hl hx
 obtain⟨q0,q1,q2,q3⟩:=(hc (w.alloc (.cells #[.int .i64 0, .int .i64 0, .string ⟨#[]⟩, .slice none 0 0] 134)) ((Below.refl _ _).alloc (Nat.le_refl _) _)).1
 simp only[Nat.zero_mul,Nat.add_zero]at q0 q1 q2 q3
 obtain⟨b',wm,dE,a',c',lP,Zl,jq,hc'⟩:=fG hl CF
 obtain⟨⟨rfl,rfl⟩,rfl⟩:(b=b'∧off=wm)∧cap=dE:=by simpa using lP
 obtain⟨r0,r1,r2,r3⟩:=(hc' (w.alloc (.cells #[.int .i64 0, .int .i64 0, .string ⟨#[]⟩, .slice none 0 0] 134)) ((Below.refl _ _).alloc (Nat.le_refl _) _)).1
 simp only[Nat.one_mul]at r0 r1 r2 r3
 have Od:=hs.1
 have HS:=hD hs.2
 have HT:Hid (∀p,lq s p→∀W,Calls Tryz.prog 225 #[.string (s.extract 0 p)] W (aF W eG)):=(show∀p,_→∀W,_ from fun p hp W=>pX _ (by have:=hp.take;simpa using this) (by simp;omega) W)
 have HH:Hid (∀W,Calls Tryz.prog 226 #[.string s, .int .i64 n'] W (AT W s)):=(show∀W,_ from fun W=>xb s HS.out (by omega) n' W)
 clear hc hx hl hs hc' CF lP
 go_enter Tryz.func224,Tryz.ntmps224
 go_wp2_with fail
 refine(HH.out _).mono ?_
 rintro e w1⟨p,hp,rfl,aw⟩
 have aO:=hD ((Bx.fA w (fD 0 0 ⟨#[]⟩ (.slice none 0 0))).below aw)
 have ia:=hp.1
 have HP:=hD hp
 clear aw q0 q1 q2 q3 r0 r1 r2 r3 hp
 go_wp2_with fail
 refine(HT.out p HP.out _).mono ?_
 rintro e w2⟨_,rfl,⟨z,hz,rfl⟩,aM⟩
 have aA:=hD (aO.out.below aM)
 have HZ:=hD hz
 clear aM hz
 obtain⟨c0,c1,c2,c3⟩:=ab (aA.out.bJ rfl)
 have f0:=aa (aA.out.bJ rfl) 0
 have f1:=aa (aA.out.bJ rfl) 1
 have f2:=aa (aA.out.bJ rfl) 2
 have f3:=aa (aA.out.bJ rfl) 3
 unfold fR
 go_wp2_with fail
 refine bodyPost_ret (v:=fR z) (by simp[results,Tryz.results224,go_sem,fR,c0,c1,c2,c3]) rfl (show aF w eG _ _ from⟨_,rfl,⟨_,HZ.out,rfl⟩,?_⟩)
 exact(((aA.out.1.setCell (by simp) _).setCell (by simp) _).setCell (by simp) _).setCell (by simp) _
theorem J3(hl:ae M w lv vs)(k n:Int)(s:ByteArray)(ll:List au)(hx:vs[0]? =some (.mk k n s ll))(k' n':Int)(s':ByteArray)(UA:List au)(CF:vs[1]? =some (.mk k' n' s' UA))(hs:eN s):Calls Tryz.prog 228 #[lv] w (aF w eG):=by
 obtain⟨b,off,cap,a,c,rfl,h0,hb,hc⟩:=fG hl hx
 obtain⟨q0,q1,q2,q3⟩:=(hc (w.alloc (.cells #[.int .i64 0, .int .i64 0, .string ⟨#[]⟩, .slice none 0 0] 134)) ((Below.refl _ _).alloc (Nat.le_refl _) _)).1
 simp only[Nat.zero_mul,Nat.add_zero]at q0 q1 q2 q3
 obtain⟨b',wm,dE,a',c',lP,Zl,jq,hc'⟩:=fG hl CF
 obtain⟨⟨rfl,rfl⟩,rfl⟩:(b=b'∧off=wm)∧cap=dE:=by simpa using lP
 obtain⟨r0,r1,r2,r3⟩:=(hc' (w.alloc (.cells #[.int .i64 0, .int .i64 0, .string ⟨#[]⟩, .slice none 0 0] 134)) ((Below.refl _ _).alloc (Nat.le_refl _) _)).1
 simp only[Nat.one_mul]at r0 r1 r2 r3
 have Od:=hs.1
 have HS:=hD hs.2
 have HT:Hid (∀p,lq s p→∀W,Calls Tryz.prog 225 #[.string (s.extract p s.size)] W (aF W eG)):=(show∀p,_→∀W,_ from fun p hp W=>pX _ (by have:=hp.drop;rw[(xj s p hp.1).1];exact this) (by simp;omega) W)
 have HH:Hid (∀W,Calls Tryz.prog 226 #[.string s, .int .i64 n'] W (AT W s)):=(show∀W,_ from fun W=>xb s HS.out (by omega) n' W)
 clear hc hx hl hs hc' CF lP
 go_enter Tryz.func228,Tryz.ntmps228
 go_wp2_with fail
 refine(HH.out _).mono ?_
 rintro e w1⟨p,hp,rfl,aw⟩
 have aO:=hD ((Bx.fA w (fD 0 0 ⟨#[]⟩ (.slice none 0 0))).below aw)
 have ia:=hp.1
 have HP:=hD hp
 clear aw q0 q1 q2 q3 r0 r1 r2 r3 hp
 go_wp2_with fail
 refine(HT.out p HP.out _).mono ?_
 rintro e w2⟨_,rfl,⟨z,hz,rfl⟩,aM⟩
 have aA:=hD (aO.out.below aM)
 have HZ:=hD hz
 clear aM hz
 obtain⟨c0,c1,c2,c3⟩:=ab (aA.out.bJ rfl)
 have f0:=aa (aA.out.bJ rfl) 0
 have f1:=aa (aA.out.bJ rfl) 1
 have f2:=aa (aA.out.bJ rfl) 2
 have f3:=aa (aA.out.bJ rfl) 3
 unfold fR
 go_wp2_with fail
 refine bodyPost_ret (v:=fR z) (by simp[results,Tryz.results228,go_sem,fR,c0,c1,c2,c3]) rfl (show aF w eG _ _ from⟨_,rfl,⟨_,HZ.out,rfl⟩,?_⟩)
 exact(((aA.out.1.setCell (by simp) _).setCell (by simp) _).setCell (by simp) _).setCell (by simp) _
theorem J4(hl:ae M w lv vs)(k n:Int)(s:ByteArray)(ll:List au)(hx:vs[0]? =some (.mk k n s ll))(k' n':Int)(s':ByteArray)(UA:List au)(CF:vs[1]? =some (.mk k' n' s' UA))(hs:eN s)(hg:Gd w):Calls Tryz.prog 229 #[lv] w (aF w iU):=by
 obtain⟨b,off,cap,a,c,rfl,h0,hb,hc⟩:=fG hl hx
 obtain⟨q0,q1,q2,q3⟩:=(hc (w.alloc (.cells #[.int .i64 0, .int .i64 0, .string ⟨#[]⟩, .slice none 0 0] 134)) ((Below.refl _ _).alloc (Nat.le_refl _) _)).1
 simp only[Nat.zero_mul,Nat.add_zero]at q0 q1 q2 q3
 obtain⟨b',wm,dE,a',c',lP,Zl,jq,hc'⟩:=fG hl CF
 obtain⟨⟨rfl,rfl⟩,rfl⟩:(b=b'∧off=wm)∧cap=dE:=by simpa using lP
 obtain⟨r0,r1,r2,r3⟩:=(hc' (w.alloc (.cells #[.int .i64 0, .int .i64 0, .string ⟨#[]⟩, .slice none 0 0] 134)) ((Below.refl _ _).alloc (Nat.le_refl _) _)).1
 simp only[Nat.one_mul]at r0 r1 r2 r3
 have Od:=hs.1
 have HG:Hid (Gd (w.alloc (.cells #[.int .i64 0, .int .i64 0, .string ⟨#[]⟩, .slice none 0 0] 134)).drew):=(show Gd _ from hg.below ((Below.refl _ _).alloc (Nat.le_refl _) _).drew)
 have HI:Hid (∀W,Gd W→Calls Tryz.prog 230 #[.string s, .string s'] W fun e w'=>∃x:Int,e= .returned (.int .i64 x)∧Below W.heap.size W w'):=(show∀W,_→_ from fun W hg=>Na s s' (by omega) W hg)
 clear hc hx hl hs hc' CF lP hg
 go_enter Tryz.func229,Tryz.ntmps229
 have h0i:(0:Int)<(vs.length:Int):=by omega
 have h1i:(1:Int)<(vs.length:Int):=by omega
 go_upto_region 1 with fail
 go_region_law(first
  |(go_simp
    go_at_call 230
    refine(HI.out _ HG.out).mono ?_
    rintro e w1⟨x,rfl,aw⟩
    have aO:=hD (((Bx.fA w (fD 0 0 ⟨#[]⟩ (.slice none 0 0))).drew).below aw)
    clear aw)
  |(go_simp
    go_at_call 222
    refine(iz _ _).mono ?_
    rintro e w2⟨_,rfl,⟨z,hz,rfl⟩,aM⟩
    have aA:=hD (aO.out.below aM)
    have HZ:=hD hz
    clear aM hz
    have c0:=(ab (aA.out.bJ rfl)).1
    have c1:=(ab (aA.out.bJ rfl)).2.1
    have c2:=(ab (aA.out.bJ rfl)).2.2.1
    have c3:=(ab (aA.out.bJ rfl)).2.2.2
    have f0:=aa (aA.out.bJ rfl) 0
    have f1:=aa (aA.out.bJ rfl) 1
    have f2:=aa (aA.out.bJ rfl) 2
    have f3:=aa (aA.out.bJ rfl) 3
    unfold fF))
 all_goals
  go_wp2_with fail
  refine bodyPost_ret (v:=fF z) (by simp[results,Tryz.results229,go_sem,fF,c0,c1,c2,c3]) rfl (show aF w iU _ _ from⟨_,rfl,⟨_,HZ.out,rfl⟩,?_⟩)
  exact(((aA.out.1.setCell (by simp) _).setCell (by simp) _).setCell (by simp) _).setCell (by simp) _
theorem J5(hl:ae M w lv vs)(k n:Int)(s:ByteArray)(ll:List au)(hx:vs[0]? =some (.mk k n s ll))(hn:rq n)(hg:Gd w):Calls Tryz.prog 231 #[lv] w (aF w eG):=by
 obtain⟨b,off,cap,a,c,rfl,h0,hb,hc⟩:=fG hl hx
 obtain⟨q0,q1,q2,q3⟩:=(hc (w.alloc (.cells #[.int .i64 0, .int .i64 0, .string ⟨#[]⟩, .slice none 0 0] 134)) ((Below.refl _ _).alloc (Nat.le_refl _) _)).1
 simp only[Nat.zero_mul,Nat.add_zero]at q0 q1 q2 q3
 have HG:Hid (Gd (w.alloc (.cells #[.int .i64 0, .int .i64 0, .string ⟨#[]⟩, .slice none 0 0] 134))):=(show Gd _ from hg.below ((Below.refl _ _).alloc (Nat.le_refl _) _))
 have HN:=hD hn
 clear hc hx hl hg hn
 go_enter Tryz.func231,Tryz.ntmps231
 go_wp2_with fail
 refine(M9 n HN.out _ HG.out).mono ?_
 rintro e w1⟨s1,dc,db,rfl,aw⟩
 have aO:=hD ((Bx.fA w (fD 0 0 ⟨#[]⟩ (.slice none 0 0))).below aw)
 have pd:=hD dc
 clear aw q0 q1 q2 q3 dc
 go_wp2_with fail
 refine(pX s1 pd.out (by omega) _).mono ?_
 rintro e w2⟨_,rfl,⟨z,hz,rfl⟩,aM⟩
 have aA:=hD (aO.out.below aM)
 have HZ:=hD hz
 clear aM hz
 obtain⟨c0,c1,c2,c3⟩:=ab (aA.out.bJ rfl)
 have f0:=aa (aA.out.bJ rfl) 0
 have f1:=aa (aA.out.bJ rfl) 1
 have f2:=aa (aA.out.bJ rfl) 2
 have f3:=aa (aA.out.bJ rfl) 3
 unfold fR
 go_wp2_with fail
 refine bodyPost_ret (v:=fR z) (by simp[results,Tryz.results231,go_sem,fR,c0,c1,c2,c3]) rfl (show aF w eG _ _ from⟨_,rfl,⟨_,HZ.out,rfl⟩,?_⟩)
 exact(((aA.out.1.setCell (by simp) _).setCell (by simp) _).setCell (by simp) _).setCell (by simp) _
theorem PZ(hl:ae M w lv vs)(k n:Int)(s:ByteArray)(ll:List au)(hx:vs[0]? =some (.mk k n s ll))(x1 x2:au)(h1:vs[1]? =some x1)(h2:vs[2]? =some x2):Calls Tryz.prog 236 #[lv] w (aF w fun v w'=>bI M w' v (if n=0 then x2 else x1)):=by
 obtain⟨b,off,cap,a,c,rfl,h0,hb,hc⟩:=fG hl hx
 obtain⟨q0,q1,q2,q3⟩:=(hc (w.alloc (.cells #[.int .i64 0, .int .i64 0, .string ⟨#[]⟩, .slice none 0 0] 134)) ((Below.refl _ _).alloc (Nat.le_refl _) _)).1
 simp only[Nat.zero_mul,Nat.add_zero]at q0 q1 q2 q3
 have hL:=h0
 obtain⟨k1,n1,s1,l1⟩:=x1
 obtain⟨k2,n2,s2,l2⟩:=x2
 obtain⟨b',wm,dE,a',c',lP,Zl,jq,hc'⟩:=fG hl h1
 obtain⟨⟨rfl,rfl⟩,rfl⟩:(b=b'∧off=wm)∧cap=dE:=by simpa using lP
 obtain⟨b'',UB,UC,a'',c'',UD,qcr,qcs,Q0⟩:=fG hl h2
 obtain⟨⟨rfl,rfl⟩,rfl⟩:(b=b''∧off=UB)∧cap=UC:=by simpa using UD
 obtain⟨r0,r1,r2,r3⟩:=(hc' (w.alloc (.cells #[.int .i64 0, .int .i64 0, .string ⟨#[]⟩, .slice none 0 0] 134)) ((Below.refl _ _).alloc (Nat.le_refl _) _)).1
 obtain⟨t0,t1,t2,t3⟩:=(Q0 (w.alloc (.cells #[.int .i64 0, .int .i64 0, .string ⟨#[]⟩, .slice none 0 0] 134)) ((Below.refl _ _).alloc (Nat.le_refl _) _)).1
 simp only[Nat.one_mul]at r0 r1 r2 r3
 have wA:Hid (∀W,Below w.heap.size w W→bI M W (.agg #[.int .i64 k1, .int .i64 n1, .string s1, .slice a' l1.length c']) (au.mk k1 n1 s1 l1)):=(show∀W,_→_ from fun W hW=>(hc' W hW).2)
 have FV:Hid (∀W,Below w.heap.size w W→bI M W (.agg #[.int .i64 k2, .int .i64 n2, .string s2, .slice a'' l2.length c'']) (au.mk k2 n2 s2 l2)):=(show∀W,_→_ from fun W hW=>(Q0 W hW).2)
 have zP:b≠w.heap.size:=by omega
 clear hc hx hl hc' lP Q0 UD h1 h2
 have aA:=hD (Bx.fA w (fD 0 0 ⟨#[]⟩ (.slice none 0 0)))
 obtain⟨c0,c1,c2,c3⟩:=ab (aA.out.bJ rfl)
 by_cases hn:n=0
 ·have HN:Hid ((if n=0 then au.mk k2 n2 s2 l2 else .mk k1 n1 s1 l1)= .mk k2 n2 s2 l2):=(show _=_ from if_pos hn)
  rw[HN.out]
  subst hn
  go_enter Tryz.func236,Tryz.ntmps236
  go_wp2_with fail
  refine bodyPost_ret (v:= .agg #[.int .i64 k2, .int .i64 n2, .string s2, .slice a'' l2.length c'']) (by simp[results,Tryz.results236,go_sem]) rfl ⟨_,rfl,FV.out _ ?_,?_⟩
  all_goals exact((Below.refl _ _).alloc (Nat.le_refl _) _)
 ·have HN:Hid ((if n=0 then au.mk k2 n2 s2 l2 else .mk k1 n1 s1 l1)= .mk k1 n1 s1 l1):=(show _=_ from if_neg hn)
  rw[HN.out]
  have zy:(n !=0)=true:=by simpa using hn
  go_enter Tryz.func236,Tryz.ntmps236
  go_wp2_with fail
  refine bodyPost_ret (v:= .agg #[.int .i64 k1, .int .i64 n1, .string s1, .slice a' l1.length c']) (by simp[results,Tryz.results236,go_sem]) rfl ⟨_,rfl,wA.out _ ?_,?_⟩
  all_goals exact((Below.refl _ _).alloc (Nat.le_refl _) _)
end
end Go.Proofs.YtlkjnefenialbaaGreatDoor
