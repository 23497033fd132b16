/- What number, text, product and quotient answer; no condition beyond each theorem's own. -/
import Derived.Test.YtlkjnefenialbaaGreatDoorM14
import Derived.Shelf.Small.Utf8
import Derived.Lib.MapLaws
import Derived.Lib.RuneCountTail
set_option linter.unusedVariables false
set_option linter.unusedSimpArgs false
set_option maxHeartbeats 8000000
set_option maxRecDepth 100000
namespace Go.Proofs.YtlkjnefenialbaaGreatDoor
section
open Go.RowKit Go.Shelf
def l6:Go.Shelf.Ren:=⟨fun|118=>252|n=>n,fun|21=>21|3=>3|4=>4|n=>n,fun|n=>n⟩
theorem AQ:Go.Proofs.Lays.n118 Tryz.prog l6:={
 mixed:=by kernel_rfl
 f118:=Tryz.func252.trans (congrArg some (by kernel_rfl))
 t3:=Tryz.underlying3
 a3:=Tryz.isAgg3
 z3:=Tryz.sizeOf3
 v3:=Tryz.zeroValue3
 t4:=Tryz.underlying4
 a4:=Tryz.isAgg4
 z4:=Tryz.sizeOf4
 v4:=Tryz.zeroValue4
 t21:=Tryz.underlying21
 a21:=Tryz.isAgg21
 z21:=Tryz.sizeOf21
 v21:=Tryz.zeroValue21}
theorem JT:l6.f 118=252:=by kernel_rfl
theorem Dy(r k:Nat)(h:(k=1∧32≤r∧r<127)∨(k=2∧r=233))(w:World):Calls Tryz.prog 252 #[.int .i32 (r:Int)] w fun e w'=>e= .returned (.int .i64 (k:Int))∧w=w':=by
 have h1:=Any.utf8_RuneLen AQ (r:Int) w
 rw[JT]at h1
 have e:Lib.runeLen (r:Int)=(k:Int):=by
  unfold Lib.runeLen
  rcases h with⟨rfl,h1,h2⟩|⟨rfl,rfl⟩
  ·(repeat' split)<;>first|rfl|(exfalso;omega)
  ·decide
 rw[e]at h1
 exact h1.mono fun e w'⟨h1,h2⟩=>⟨h1,h2.symm⟩
theorem AR(s:ByteArray)(p:Nat)(hp:p<s.size):∃r k:Nat,Utf8.decode s p=(r,k)∧1≤k∧p+k≤s.size:=by
 have h1:=Lib.tail_decode s p 0
 have hl:s.data.toList.length=s.size:=aP s
 have hd:(s.extract p s.size).data.toList=s.data.toList.drop p:=by
  simp
  rw[List.take_of_length_le (by simp at hl⊢)]
 have h2:Lib.decodeL (s.data.toList.drop p)=Utf8.decode s p:=by
  rw[←hd]
  have e:(⟨(s.extract p s.size).data.toList.toArray⟩:ByteArray)=s.extract p s.size:=by rw[Array.toArray_toList]
  unfold Lib.decodeL
  rw[e]
  exact h1
 have hne:s.data.toList.drop p≠[]:=by
  intro e
  have:=congrArg List.length e
  simp only[List.length_drop,List.length_nil]at this
  omega
 have h3:=Lib.decodeL_le _ hne
 have h4:=Lib.decodeL_width (s.data.toList.drop p)
 rw[h2]at h3 h4
 rw[List.length_drop]at h3
 exact⟨(Utf8.decode s p).1,(Utf8.decode s p).2,rfl,h4,by omega⟩
def fF(n:Int):Value:= .agg #[.int .i64 1, .int .i64 n, .string ⟨#[]⟩, .slice none 0 0]
def rq(n:Int):Prop:= -1000000000000000≤n∧n≤1000000000000000
def iU(v:Value)(_:World):Prop:=∃n,rq n∧v=fF n
theorem PX(n:Int):rq (max (-1000000000000000) (min n 1000000000000000)):=by unfold rq;omega
theorem iz(n:Int)(w:World):Calls Tryz.prog 222 #[.int .i64 n] w (aF w iU):=by
 go_enter Tryz.func222,Tryz.ntmps222
 go_wp2_with fail
 refine bodyPost_ret (v:=fF (max (-1000000000000000) (min n 1000000000000000))) (by simp[results,Tryz.results222,go_sem,fF]) rfl (show aF w iU _ _ from⟨_,rfl,⟨_,PX n,rfl⟩,?_⟩)
 exact((Below.refl _ w).alloc (Nat.le_refl _) _)
def OK(w:World)(b:Nat)(e:Ending)(w':World):Prop:=∃n:Nat,n≤b∧e= .returned (.int .i64 n)∧Below w.heap.size w w'
theorem AS(s:ByteArray)(hs:s.size≤1000)(w:World):Calls Tryz.prog 223 #[.string s] w (OK w s.size):=by
 have HD:Hid (∀p,p<s.size→∃r k:Nat,Utf8.decode s p=(r,k)∧1≤k∧p+k≤s.size):=(show∀p,_→_ from AR s)
 go_enter Tryz.func223,Tryz.ntmps223
 go_wp2_with fail
 go_loopg [3](s.size+1)(fun g r3 wr=>∃p n:Nat,p≤s.size∧n≤p∧g=s.size+1-p∧r3= .int .i64 n∧wr=w.iter s p)
 case atStart=>exact⟨0,0,Nat.zero_le _,Nat.le_refl _,rfl,rfl,rfl⟩
 case round=>
  obtain⟨p,n,hp,hn,rfl,rfl,rfl⟩:=hrel
  by_cases aT:p<s.size
  ·obtain⟨r,k,hd,ni,vm⟩:=HD.out p aT
   have hx:=run_next_any (P:=Tryz.prog) w s p 0 aT
   rw[hd]at hx
   dsimp only at hx
   clear hd
   go_wp2_with fail
   go_roundg(s.size+1-(p+k))
   case measure=>omega
   case rel=>exact⟨p+k,n+1,by omega,by omega,rfl,by go_num,rfl⟩
  ·have hx:=run_next_end (P:=Tryz.prog) w s p 0 aT
   go_wp2_with fail
   go_ret
   exact(show OK _ _ _ _ from⟨n,by omega,rfl,(Below.refl _ _).alloc (Nat.le_refl _) _⟩)
def AT(w:World)(s:ByteArray)(e:Ending)(w':World):Prop:=∃p:Nat,lq s p∧e= .returned (.int .i64 p)∧Below w.heap.size w w'
theorem xb(s:ByteArray)(h:gp s.data.toList)(hs:s.size≤1000)(n:Int)(w:World):Calls Tryz.prog 226 #[.string s, .int .i64 n] w (AT w s):=by
 have HS:=hD h
 clear h
 go_enter Tryz.func226,Tryz.ntmps226
 go_wp2_with fail
 go_loopg [5,6](s.size+1)(fun g r5 _ wr=>∃p k:Nat,p≤s.size∧k≤p∧g=s.size+1-p∧r5= .int .i64 k∧wr=w.iter s p∧Hid (lq s p))
 case atStart=>exact⟨0,0,Nat.zero_le _,Nat.le_refl _,rfl,rfl,rfl,(show lq _ _ from rb HS.out)⟩
 case round=>
  obtain⟨p,k,hp,hk,rfl,rfl,rfl,HA⟩:=hrel
  by_cases aT:p<s.size
  ·obtain⟨r,j,hd,hj,Lz⟩:=HA.out.step aT
   have hx:=run_next_any (P:=Tryz.prog) w s p 0 aT
   rw[hd]at hx
   dsimp only at hx
   have Za:1≤j:=by omega
   have Uj:=Lz.1
   have lS:=hD Lz
   clear hd hj Lz
   by_cases Qm:n≤(k:Int)
   ·go_wp2_with fail
    go_ret
    exact(show AT _ _ _ _ from⟨p,HA.out,rfl,(Below.refl _ _).alloc (Nat.le_refl _) _⟩)
   ·go_wp2_with fail
    go_roundg(s.size+1-(p+j))
    case measure=>omega
    case rel=>exact⟨p+j,k+1,Uj,by omega,rfl,by go_num,rfl,lS⟩
  ·have hx:=run_next_end (P:=Tryz.prog) w s p 0 aT
   have hpe:p=s.size:=by omega
   subst hpe
   go_wp2_with fail
   go_ret
   exact(show AT _ _ _ _ from⟨s.size,HA.out,rfl,(Below.refl _ _).alloc (Nat.le_refl _) _⟩)
def fR(s:ByteArray):Value:= .agg #[.int .i64 2, .int .i64 0, .string s, .slice none 0 0]
def eG(v:Value)(_:World):Prop:=∃s,eN s∧v=fR s
theorem JU {s:ByteArray}{p:Nat}(h:lq s p)(hp:p≤60):eN (s.extract 0 p):=by
 have h0:=h.1
 refine⟨by simp;omega,?_⟩
 have:=h.take
 simpa using this
theorem pX(s:ByteArray)(h:gp s.data.toList)(hs:s.size≤1000)(w:World):Calls Tryz.prog 225 #[.string s] w (aF w eG):=by
 have HS:=hD h
 clear h
 go_enter Tryz.func225,Tryz.ntmps225
 go_wp2_with fail
 obtain⟨w0,Ch⟩:∃w0:World,w0=w.alloc (.cells #[.int .i64 0, .int .i64 0, .string ⟨#[]⟩, .slice none 0 0] 134):=⟨_,rfl⟩
 have HB:Hid (Bx w [.cells #[.int .i64 0, .int .i64 0, .string ⟨#[]⟩, .slice none 0 0] 134 (0,0)] w0):=(show Bx _ _ _ by rw[Ch];exact Bx.fA w _)
 have cB:=HB.out.b8
 simp only[List.length_cons,List.length_nil]at cB
 have dM:w0.heap.size=w.heap.size+1:=by rw[Ch];simp
 rw[←Ch]
 clear Ch
 have HZ0:=hD dM
 clear dM
 go_loopg [3,4](s.size+1)(fun g _ _ wr=>∃p:Nat,p≤s.size∧p≤60∧g=s.size+1-p∧wr=w0.iter s p∧Hid (lq s p))
 case atStart=>exact⟨0,Nat.zero_le _,by omega,rfl,rfl,(show lq _ _ from rb HS.out)⟩
 case round=>
  obtain⟨p,hp,Zb,rfl,rfl,HA⟩:=hrel
  have aO:Hid (Bx w [.cells #[.int .i64 0, .int .i64 0, .string ⟨#[]⟩, .slice none 0 0] 134 (0,0)] (w0.iter s p)):=(show Bx _ _ _ from HB.out.alloc _)
  obtain⟨c0,c1,c2,c3⟩:=ab (aO.out.bJ rfl)
  have f0:=aa (aO.out.bJ rfl) 0
  have f1:=aa (aO.out.bJ rfl) 1
  have f2:=aa (aO.out.bJ rfl) 2
  have f3:=aa (aO.out.bJ rfl) 3
  by_cases aT:p<s.size
  ·obtain⟨r,j,hd,hj,Lz⟩:=HA.out.step aT
   have hx:=run_next_any (P:=Tryz.prog) w0 s p 0 aT
   rw[hd,HZ0.out]at hx
   dsimp only at hx
   have HR:Hid (∀W,Calls Tryz.prog 252 #[.int .i32 (r:Int)] W fun e w'=>e= .returned (.int .i64 (j:Int))∧W=w'):=(show∀W,_ from fun W=>Dy r j hj W)
   have Za:1≤j∧j≤2:=by omega
   have aA:Hid (Bx w [.cells #[.int .i64 0, .int .i64 0, .string ⟨#[]⟩, .slice none 0 0] 134 (0,0)] (w0.iter s (p+j))):=(show Bx _ _ _ from HB.out.alloc _)
   obtain⟨d0,d1,d2,d3⟩:=ab (aA.out.bJ rfl)
   have g0:=aa (aA.out.bJ rfl) 0
   have g1:=aa (aA.out.bJ rfl) 1
   have g2:=aa (aA.out.bJ rfl) 2
   have g3:=aa (aA.out.bJ rfl) 3
   have Uj:=Lz.1
   have lS:=hD Lz
   clear hd hj Lz
   go_wp2_with fail
   refine(HR.out _).mono ?_
   rintro e w'⟨rfl,rfl⟩
   by_cases Od:p+j≤60
   ·have hz:¬(60:Int)<(p:Int)+(j:Int):=by omega
    go_wp2_with fail
    go_roundg(s.size+1-(p+j))
    case measure=>omega
    case rel=>exact⟨p+j,Uj,Od,rfl,rfl,lS⟩
   ·have hz:(60:Int)<(p:Int)+(j:Int):=by omega
    go_wp2_with fail
    refine bodyPost_ret (v:=fR (s.extract 0 p)) (by simp[results,Tryz.results225,go_sem,fR,d0,d1,d2,d3]) rfl (show aF w eG _ _ from⟨_,rfl,⟨_,JU HA.out Zb,rfl⟩,?_⟩)
    exact(((aA.out.1.setCell (by simp) _).setCell (by simp) _).setCell (by simp) _).setCell (by simp) _
  ·have hx:=run_next_end (P:=Tryz.prog) w0 s p 0 aT
   rw[HZ0.out]at hx
   have Od:s.size≤60:=by omega
   go_wp2_with fail
   refine bodyPost_ret (v:=fR s) (by simp[results,Tryz.results225,go_sem,fR,c0,c1,c2,c3]) rfl (show aF w eG _ _ from⟨_,rfl,⟨_,⟨Od,HS.out⟩,rfl⟩,?_⟩)
   exact(((aO.out.1.setCell (by simp) _).setCell (by simp) _).setCell (by simp) _).setCell (by simp) _
end
section
open Go.RowKit
def r7(w:World)(e:Ending)(w':World):Prop:=∃x:Int,e= .returned (.int .i64 x)∧w=w'
def DX(w:World)(e:Ending)(w':World):Prop:=∃x:Int,e= .returned (.int .i64 x)∧Below w.heap.size w w'
def Ku(w:World)(e:Ending)(w':World):Prop:=∃b:Bool,e= .returned (.bool b)∧w=w'
theorem No(n:Int)(w:World):Calls Tryz.prog 114 #[.int .i64 n] w fun e w'=>e= .returned (.bool false)∧w=w':=by
 have h:((n:Int)!=n)=false:=by simp
 go_enter Tryz.func114,Tryz.ntmps114
 go_wp2_with fail
 go_ret
 exact⟨by simp,rfl⟩
theorem Tl(s:ByteArray)(w:World):Calls Tryz.prog 291 #[.string s] w fun e w'=>e= .returned (.bool false)∧w=w':=by
 go_enter Tryz.func291,Tryz.ntmps291
 go_wp2_with fail
 go_ret
 exact⟨by simp,rfl⟩
theorem XY(a b:Int)(w:World):Calls Tryz.prog 274 #[.int .i64 a, .int .i64 b] w (r7 w):=by
 rcases Int.lt_trichotomy a b with h|h|h
 all_goals
  go_enter Tryz.func274,Tryz.ntmps274
  go_wp2_with fail
  refine(No _ _).mono ?_
  rintro e w'⟨rfl,rfl⟩
  go_wp2_with fail
  refine(No _ _).mono ?_
  rintro e w'⟨rfl,rfl⟩
  go_wp2_with fail
  go_ret
  exact(show r7 _ _ _ from⟨_,rfl,rfl⟩)
theorem xC(a:Int)(w:World):Calls Tryz.prog 274 #[.int .i64 a, .int .i64 a] w fun e w'=>e= .returned (.int .i64 0)∧w=w':=by
 have h:¬a<a:=by omega
 go_enter Tryz.func274,Tryz.ntmps274
 go_wp2_with fail
 refine(No _ _).mono ?_
 rintro e w'⟨rfl,rfl⟩
 go_wp2_with fail
 refine(No _ _).mono ?_
 rintro e w'⟨rfl,rfl⟩
 go_wp2_with fail
 go_ret
 exact⟨rfl,rfl⟩
theorem DY(w:World):Calls Tryz.prog 275 #[.string ⟨#[]⟩, .string ⟨#[]⟩] w fun e w'=>e= .returned (.int .i64 0)∧w=w':=by
 go_enter Tryz.func275,Tryz.ntmps275
 go_wp2_with fail
 refine(Tl _ _).mono ?_
 rintro e w'⟨rfl,rfl⟩
 go_wp2_with fail
 refine(Tl _ _).mono ?_
 rintro e w'⟨rfl,rfl⟩
 go_wp2_with fail
 go_ret
 exact⟨rfl,rfl⟩
theorem zd(a b:Option Addr)(c d:Nat)(fv:Value)(w:World):Calls Tryz.prog 276 #[.slice a 0 c, .slice b 0 d,fv] w fun e w'=>e= .returned (.int .i64 0)∧w=w':=by
 go_enter Tryz.func276,Tryz.ntmps276
 go_wp2_with fail
 go_loop [7,14](fun _ i=>i= .int .i64 0)(fun _ _=>0)
 case atStart=>exact rfl
 case round=>
  subst hrel
  go_wp2_with fail
  refine(xC 0 _).mono ?_
  rintro e w'⟨rfl,rfl⟩
  go_wp2_with fail
  go_ret
  exact⟨rfl,rfl⟩
theorem Bu(m n:Int)(a b:Option Addr)(c d:Nat)(w:World):
 Calls Tryz.prog 261 #[.agg #[.int .i64 1, .int .i64 m, .string ⟨#[]⟩, .slice a 0 c], .agg #[.int .i64 1, .int .i64 n, .string ⟨#[]⟩, .slice b 0 d]] w (DX w):=by
 go_enter Tryz.func261,Tryz.ntmps261
 go_wp2_with fail
 refine(xC _ _).mono ?_
 rintro e w'⟨rfl,rfl⟩
 go_wp2_with fail
 refine(XY _ _ _).mono ?_
 rintro e w'⟨x,rfl,rfl⟩
 by_cases hx:x=0
 ·subst hx
  go_wp2_with fail
  refine(DY _).mono ?_
  rintro e w'⟨rfl,rfl⟩
  go_wp2_with fail
  refine(zd _ _ _ _ _ _).mono ?_
  rintro e w'⟨rfl,rfl⟩
  go_wp2_with fail
  go_ret
  exact(show DX _ _ _ from⟨_,rfl,(Bx.eO w _ _).1⟩)
 ·have hb:(x !=0)=true:=by simpa using hx
  go_wp2_with fail
  go_ret
  exact(show DX _ _ _ from⟨_,rfl,(Bx.eO w _ _).1⟩)
theorem xD(s:List UInt8)(hs:s=[61]∨s=[62])(c:Int)(w:World):Calls Tryz.prog 260 #[.string ⟨s.toArray⟩, .int .i64 c] w (Ku w):=by
 rcases hs with rfl|rfl
 all_goals
  go_enter Tryz.func260,Tryz.ntmps260
  go_wp2_with fail
  go_ret
  exact(show Ku _ _ _ from⟨_,rfl,rfl⟩)
theorem Np {a:Int}(h:a≠0):max a (-a)≠0:=by omega
theorem Bv(a b:Int)(ha:rq a)(hb:rq b)(w:World):Calls Tryz.prog 258 #[.int .i64 a, .int .i64 b] w (r7 w):=by
 obtain⟨a1,a2⟩:=ha
 obtain⟨b1,b2⟩:=hb
 by_cases h0:a=0
 ·subst h0
  go_enter Tryz.func258,Tryz.ntmps258
  go_wp2_with fail
  go_ret
  exact(show r7 _ _ _ from⟨_,rfl,rfl⟩)
 ·have e0:(a==0)=false:=by simpa using h0
  have hm:=Np h0
  have T9:max a (-a)≤1000000000000000:=by omega
  have hm3:0<max a (-a):=by omega
  go_enter Tryz.func258,Tryz.ntmps258
  go_wp2_with fail
  all_goals
   go_ret
   exact(show r7 _ _ _ from⟨_,rfl,rfl⟩)
theorem ze(a b:Int)(ha:rq a)(hb:rq b)(w:World):Calls Tryz.prog 259 #[.string ⟨#[47]⟩, .int .i64 a, .int .i64 b] w (r7 w):=by
 obtain⟨a1,a2⟩:=ha
 obtain⟨b1,b2⟩:=hb
 by_cases h0:b=0
 ·subst h0
  go_enter Tryz.func259,Tryz.ntmps259
  go_wp2_with fail
  go_ret
  exact(show r7 _ _ _ from⟨_,rfl,rfl⟩)
 ·have e0:(b==0)=false:=by simpa using h0
  go_enter Tryz.func259,Tryz.ntmps259
  go_wp2_with fail
  go_ret
  exact(show r7 _ _ _ from⟨_,rfl,rfl⟩)
end
end Go.Proofs.YtlkjnefenialbaaGreatDoor
