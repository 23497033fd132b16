/- A part of OpReads's proof; no condition. -/
import Derived.Test.YtepaofffbkfodaaGreatDoorM09
import Derived.Test.YtepaofffbkfodaaGreatDoorM17
import Derived.Shelf.Small.Utf8
import Derived.Lib.RuneCountTail
import Derived.Sort.Walk0
set_option linter.all false
set_option maxHeartbeats 8000000
set_option maxRecDepth 100000
namespace Go.Proofs.YtepaofffbkfodaaGreatDoor
open Tryz
variable{p g:Nat}{s:aM}{id:Int}{W w:aj}{l:List aA}{v:an}{M:aN}
section
open Go.RowKit Go.Shelf
def nS:Go.Shelf.Ren:=⟨λ|118=>392|n=>n,λ|21=>21|3=>3|4=>4|n=>n,λ|n=>n⟩
def DM:Go.Proofs.Lays.n118 prog nS:={
 mixed:=by kernel_rfl
 f118:=Tryz.func392.trans (congrArg some (by kernel_rfl))
 t3:=underlying3
 a3:=isAgg3
 z3:=sizeOf3
 v3:=zeroValue3
 t4:=underlying4
 a4:=isAgg4
 z4:=sizeOf4
 v4:=zeroValue4
 t21:=underlying21
 a21:=isAgg21
 z21:=sizeOf21
 v21:=zeroValue21}
def OV:nS.f 118=392:=by kernel_rfl
def Hh(r k:Nat)(h:(k=1/\32<=r/\r<127)\/(k=2/\r=233))(w:aj):xC 392 #[.int .i32 (r:Int)] w (ji (xI (k:Int)) w):=by
 have h1:=Any.utf8_RuneLen DM (r:Int) w;rw[OV]at h1;have e:Lib.runeLen (r:Int)=(k:Int):=by
  unfold Lib.runeLen;rcases h with⟨rfl,h1,h2⟩|⟨rfl,rfl⟩
  . (repeat' split)<;>first|rfl|(exfalso;omega)
  .decide
 rw[e]at h1;exact h1.mono λe w'⟨h1,h2⟩=>⟨h1,h2.symm⟩
def DN(s:aM)(p:Nat)(hp:p<s.size):∃r k:Nat,Utf8.decode s p=(r,k)/\1<=k/\p+k<=s.size:=by
 have h1:=Lib.tail_decode s p 0;have hl:s.data.toList.length=s.size:=bq s;have hd:(s.extract p s.size).data.toList=s.data.toList.drop p:=by
  simp;rw[Qah (by simp at hl⊢)]
 have h2:Lib.decodeL (s.data.toList.drop p)=Utf8.decode s p:=by
  rw[<-hd];have e:(⟨(s.extract p s.size).data.toList.toArray⟩:aM)=s.extract p s.size:=by rw[Array.toArray_toList]
  unfold Lib.decodeL;rw[e];exact h1
 have hne:s.data.toList.drop p≠[]:=by
  intro e;have:=congrArg List.length e;simp only[List.length_drop,Qcd]at this;omega
 have h3:=Lib.decodeL_le _ hne;have h4:=Lib.decodeL_width (s.data.toList.drop p);rw[h2]at h3 h4;rw[List.length_drop]at h3;exact⟨(Utf8.decode s p).1,(Utf8.decode s p).2,rfl,h4,by omega⟩
def kB(n:Int):an:= .agg #[xI 1,xI n,xS ⟨#[]⟩,xL none 0 0]
def sf(n:Int):Prop:= -1000000000000000<=n/\n<=1000000000000000
def jr(v:an)(_:aj):Prop:=∃n,sf n/\v=kB n
def Vt(n:Int):sf (max (-1000000000000000) (min n 1000000000000000)):=by unfold sf;omega
def js(n:Int)(w:aj):xG 354 #[xI n] w jr:=by
 go_enter func354,ntmps354;go_wp2_with fail;refine Qae (v:=kB (max (-1000000000000000) (min n 1000000000000000))) (by simp[results,results354,go_sem,kB]) rfl (show cg w jr _ _ from⟨_,rfl,⟨_,Vt n,rfl⟩,?_⟩);exact bM
def Ud(w:aj)(b:Nat)(e:Ending)(w':aj):Prop:=∃n:Nat,n<=b/\e=xR (xI n)/\aq w w'
def DO(s:aM)(hs:s.size<=1000)(w:aj):xC 355 #[xS s] w (Ud w s.size):=by
 have HD:Hd (∀p,p<s.size->∃r k:Nat,Utf8.decode s p=(r,k)/\1<=k/\p+k<=s.size):=DN s;go_enter func355,ntmps355;go_wp2;go_loopg [3](s.size+1)(λg r3 wr=>∃p n:Nat,p<=s.size/\n<=p/\g=s.size+1-p/\r3=xI n/\wr=w.iter s p);case atStart=>exact⟨0,0,Qbf _,bN,rfl,rfl,rfl⟩
 case round=>
  obtain⟨p,n,hp,hn,rfl,rfl,rfl⟩:=hrel;by_cases bu:p<s.size
  .obtain⟨r,k,hd,oF,ou⟩:=HD.o p bu;have hx:=run_next_any (P:=prog) w s p 0 bu;rw[hd]at hx;dsimp only at hx;go_wp2;go_roundg(s.size+1-(p+k));case measure=>omega
   case rel=>exact⟨p+k,n+1,by omega,by omega,rfl,by go_num,rfl⟩
  .have hx:=run_next_end (P:=prog) w s p 0 bu;go_wp2;go_ret;exact(show Ud _ _ _ _ from⟨n,by omega,rfl,bM⟩)
def DP(w:aj)(s:aM)(e:Ending)(w':aj):Prop:=∃p:Nat,qy s p/\e=xR (xI p)/\aq w w'
def Ax(s:aM)(h:iD s.data.toList)(hs:s.size<=1000)(n:Int)(w:aj):xC 358 #[xS s,xI n] w (DP w s):=by
 have HS:=af h;go_enter func358,ntmps358;go_wp2;go_loopg [5,6](s.size+1)(λg r5 _ wr=>∃p k:Nat,p<=s.size/\k<=p/\g=s.size+1-p/\r5=xI k/\wr=w.iter s p/\Hd (qy s p));case atStart=>exact⟨0,0,Qbf _,bN,rfl,rfl,rfl,(uf HS.o)⟩
 case round=>
  obtain⟨p,k,hp,hk,rfl,rfl,rfl,HA⟩:=hrel;by_cases bu:p<s.size
  .obtain⟨r,j,hd,hj,Tt⟩:=HA.o.step bu;have hx:=run_next_any (P:=prog) w s p 0 bu;rw[hd]at hx;dsimp only at hx;have hj1:1<=j:=by omega
   have hA3:=Tt.1;have lK:=af Tt;by_cases Nc:n<=(k:Int)
   .go_wp2;go_ret;exact(show DP _ _ _ _ from⟨p,HA.o,rfl,bM⟩)
   .go_wp2;go_roundg(s.size+1-(p+j));case measure=>omega
    case rel=>exact⟨p+j,k+1,hA3,by omega,rfl,by go_num,rfl,lK⟩
  .have hx:=run_next_end (P:=prog) w s p 0 bu;have hpe:p=s.size:=by omega
   subst hpe;go_wp2;go_ret;exact(show DP _ _ _ _ from⟨s.size,HA.o,rfl,bM⟩)
def mB(s:aM):an:= .agg #[xI 2,xI 0,xS s,xL none 0 0]
def ff(v:an)(_:aj):Prop:=∃s,fQ s/\v=mB s
def OW(h:qy s p)(hp:p<=60):fQ (s.extract 0 p):=by
 have h0:=h.1;refine⟨by simp;omega,?_⟩;have:=h.take;simpa using this
def si(s:aM)(h:iD s.data.toList)(hs:s.size<=1000)(w:aj):xG 357 #[xS s] w ff:=by
 have HS:=af h;clear h;go_enter func357,ntmps357;go_wp2_with fail;obtain⟨w0,uF⟩:=bS (w.alloc (xK iH 44));have HB:=af (show Bx w [xK iH 44] w0 by rw[uF];exact Bx.eD w _);have hsz:=HB.o.bF;simp only[Qcc,Qcd]at hsz;have ej:w0.heap.size=w.heap.size+1:=by rw[uF];simp
 rw[<-uF];clear uF;have KP:=af ej;clear ej;go_loopg [3,4](s.size+1)(λg _ _ wr=>∃p:Nat,p<=s.size/\p<=60/\g=s.size+1-p/\wr=w0.iter s p/\Hd (qy s p));case atStart=>exact⟨0,Qbf _,by omega,rfl,rfl,(uf HS.o)⟩
 case round=>
  obtain⟨p,hp,qdv,rfl,rfl,HA⟩:=hrel;have aY:Hd (Bx w [xK iH 44] (w0.iter s p)):=HB.o.alloc _;obtain⟨c0,c1,c2,c3⟩:=ae (aY.o.bG rfl);obtain⟨f0,f1,f2,f3⟩:=iK (aY.o.bG rfl);by_cases bu:p<s.size
  .obtain⟨r,j,hd,hj,Tt⟩:=HA.o.step bu;have hx:=run_next_any (P:=prog) w0 s p 0 bu;rw[hd,KP.o]at hx;dsimp only at hx;have HR:Hd (∀W,xC 392 #[.int .i32 (r:Int)] W (ji (xI (j:Int)) W)):=λW=>Hh r j hj W;have hj1:1<=j/\j<=2:=by omega
   have aQ:Hd (Bx w [xK iH 44] (w0.iter s (p+j))):=HB.o.alloc _;obtain⟨d0,d1,d2,d3⟩:=ae (aQ.o.bG rfl);obtain⟨g0,g1,g2,g3⟩:=iK (aQ.o.bG rfl);have hA3:=Tt.1;have lK:=af Tt;clear hd hj Tt;go_wp2_with fail;refine cT (HR.o _) ?_;by_cases TC:p+j<=60
   .have hz:¬(60:Int)<(p:Int)+(j:Int):=by omega
    go_wp2;go_roundg(s.size+1-(p+j));case measure=>omega
    case rel=>exact⟨p+j,hA3,TC,rfl,rfl,lK⟩
   .have hz:(60:Int)<(p:Int)+(j:Int):=by omega
    go_wp2_with fail;refine Qae (v:=mB (s.extract 0 p)) (by simp[results,results357,go_sem,mB,d0,d1,d2,d3]) rfl (show cg w ff _ _ from⟨_,rfl,⟨_,OW HA.o qdv,rfl⟩,?_⟩);exact(((aQ.o.1.setCell (by simp) _).setCell (by simp) _).setCell (by simp) _).setCell (by simp) _
  .have hx:=run_next_end (P:=prog) w0 s p 0 bu;rw[KP.o]at hx;have TC:s.size<=60:=by omega
   go_wp2_with fail;refine Qae (v:=mB s) (by simp[results,results357,go_sem,mB,c0,c1,c2,c3]) rfl (show cg w ff _ _ from⟨_,rfl,⟨_,⟨TC,HS.o⟩,rfl⟩,?_⟩);exact(((aY.o.1.setCell (by simp) _).setCell (by simp) _).setCell (by simp) _).setCell (by simp) _
end
section
open Go.RowKit
def uY(w:aj)(e:Ending)(w':aj):Prop:=∃x:Int,e=xR (xI x)/\w=w'
def Hw(w:aj)(e:Ending)(w':aj):Prop:=∃x:Int,e=xR (xI x)/\aq w w'
def Pp(w:aj)(e:Ending)(w':aj):Prop:=∃b:Bool,e=xR (xB b)/\w=w'
def L9(n:Int)(w:aj):xC 148 #[xI n] w (ji (xB false) w):=by
 have h:((n:Int)!=n)=false:=by simp
 go_enter func148,ntmps148;go_wp2;go_ret;exact⟨by simp,rfl⟩
def zu(s:aM)(w:aj):xC 149 #[xS s] w (ji (xB false) w):=by
 go_enter func149,ntmps149;go_wp2;go_ret;exact⟨by simp,rfl⟩
def qcs(a b:Int)(w:aj):xC 79 #[xI a,xI b] w (uY w):=by
 rcases Int.lt_trichotomy a b with h|h|h;all_goals
  go_enter func79,ntmps79;go_wp2_with fail;refine cT (L9 _ _) ?_;go_wp2_with fail;refine cT (L9 _ _) ?_;go_wp2;go_ret;exact(show uY _ _ _ from⟨_,rfl,rfl⟩)
def pX(a:Int)(w:aj):xC 79 #[xI a,xI a] w (ji (xI 0) w):=by
 have h:¬a<a:=by omega
 go_enter func79,ntmps79;go_wp2_with fail;refine cT (L9 _ _) ?_;go_wp2_with fail;refine cT (L9 _ _) ?_;go_wp2;go_ret;exact⟨rfl,rfl⟩
def Hx(w:aj):xC 81 #[xS ⟨#[]⟩,xS ⟨#[]⟩] w (ji (xI 0) w):=by
 go_enter func81,ntmps81;go_wp2_with fail;refine cT (zu _ _) ?_;go_wp2_with fail;refine cT (zu _ _) ?_;go_wp2;go_ret;exact⟨rfl,rfl⟩
def sC(a b:fA)(c d:Nat)(fv:an)(w:aj):xC 239 #[xL a 0 c,xL b 0 d,fv] w (ji (xI 0) w):=by
 go_enter func239,ntmps239;go_wp2_with fail;go_loop [7,14](λ_ i=>i=xI 0)(λ_ _=>0);case atStart=>exact rfl
 case round=>
  subst hrel;go_wp2_with fail;refine cT (pX 0 _) ?_;go_wp2;go_ret;exact⟨rfl,rfl⟩
def Eb(m n:Int)(a b:fA)(c d:Nat)(w:aj):
 xC 176 #[.agg #[xI 1,xI m,xS ⟨#[]⟩,xL a 0 c], .agg #[xI 1,xI n,xS ⟨#[]⟩,xL b 0 d]] w (Hw w):=by
 go_enter func176,ntmps176;go_wp2_with fail;refine cT (pX _ _) ?_;go_wp2_with fail;refine(qcs _ _ _).mono ?_;rintro e w'⟨x,rfl,rfl⟩;by_cases hx:x=0
 .subst hx;go_wp2_with fail;refine cT (Hx _) ?_;go_wp2_with fail;refine cT (sC _ _ _ _ _ _) ?_;go_wp2;go_ret;exact(show Hw _ _ _ from⟨_,rfl,(Bx.dq w _ _).1⟩)
 .have hb:(x !=0)=true:=by simpa using hx
  go_wp2;go_ret;exact(show Hw _ _ _ from⟨_,rfl,(Bx.dq w _ _).1⟩)
def AE(s:List UInt8)(hs:s=[61]\/s=[62])(c:Int)(w:aj):xC 399 #[xS ⟨s.toArray⟩,xI c] w (Pp w):=by
 rcases hs with rfl|rfl;all_goals
  go_enter func399,ntmps399;go_wp2;go_ret;exact(show Pp _ _ _ from⟨_,rfl,rfl⟩)
def SE {a:Int}(h:a≠0):max a (-a)≠0:=by omega
def Ec(a b:Int)(ha:sf a)(hb:sf b)(w:aj):xC 397 #[xI a,xI b] w (uY w):=by
 obtain⟨a1,a2⟩:=ha;obtain⟨b1,b2⟩:=hb;by_cases h0:a=0
 .subst h0;go_enter func397,ntmps397;go_wp2;go_ret;exact(show uY _ _ _ from⟨_,rfl,rfl⟩)
 .have e0:(a==0)=false:=by simpa using h0
  have hm:=SE h0;have CR:max a (-a)<=1000000000000000:=by omega
  have Ns:0<max a (-a):=by omega
  go_enter func397,ntmps397;go_wp2_with fail;all_goals
   go_ret;exact(show uY _ _ _ from⟨_,rfl,rfl⟩)
def BX(a b:Int)(ha:sf a)(hb:sf b)(w:aj):xC 398 #[xS ⟨#[47]⟩,xI a,xI b] w (uY w):=by
 obtain⟨a1,a2⟩:=ha;obtain⟨b1,b2⟩:=hb;by_cases h0:b=0
 .subst h0;go_enter func398,ntmps398;go_wp2;go_ret;exact(show uY _ _ _ from⟨_,rfl,rfl⟩)
 .have e0:(b==0)=false:=by simpa using h0
  go_enter func398,ntmps398;go_wp2;go_ret;exact(show uY _ _ _ from⟨_,rfl,rfl⟩)
end
section
open Go.RowKit Go.Shelf
structure qcw where
 k:Int
 n:Int
 s:aM
 a:Option Addr
 len:Nat
 cap:Nat
instance:au qcw where
 size:=4
 rep:=λ_ _ cs x=>cs=[xI x.k,xI x.n,xS x.s,xL x.a x.len x.cap]/\x.s.size<=maxLen
 len:=λh=>by rw[h.1];rfl
 flat:=λh u hu=>by rw[h.1]at hu;simp at hu;rcases hu with rfl|rfl|rfl|rfl<;>rfl
 ev:=λh _=>h
end
section
open Go.RowKit
end
section
open Go.RowKit Go.Shelf
end
section
open Go.RowKit
def ux(s:aM)(h:aB s=true)(w:aj):xC 41 #[xS s] w (ji (xB true) w):=by
 obtain⟨⟨h1,h2⟩,h3⟩:(1<=s.size/\s.size<=20)/\(match s.data.toList with|[]=>false|c::r=>eu c.toNat&&(c::r).all λc=>bA c.toNat)=true:=by
  unfold aB at h;rw[Qce,Qce]at h;exact⟨⟨by simpa using h.1.1,by simpa using h.1.2⟩,h.2⟩
 have mR:∀(k:Nat)(hk:k<s.size),bA (s[k]).toNat=true:=λk hk=>by
  have h4:=dk s k hk;cases hl:s.data.toList with
  |nil=>rw[hl]at h4;simp at h4
  |cons a r=>
   rw[hl]at h3 h4;have h5:=(Bool.and_eq_true_iff.1 h3).2;exact List.all_eq_true.1 h5 _ (Qaf h4)
 have h0:eu (s[0]'h1).toNat=true:=by
  have h4:=dk s 0 h1;cases hl:s.data.toList with
  |nil=>rw[hl]at h4;simp at h4
  |cons a r=>
   rw[hl]at h3 h4;simp at h4;rw[<-h4];exact(Bool.and_eq_true_iff.1 h3).1
 have qfg:=af mR;obtain⟨c0,tC⟩:∃c,s[0]'h1=c:=⟨_,rfl⟩;rw[tC]at h0;obtain⟨a1,a2⟩:97<=(c0.toNat:Int)/\(c0.toNat:Int)<=122:=by simpa [eu]using h0
 have fu:¬(s.size:Int)<1:=by omega
 have j6:¬20<(s.size:Int):=by omega
 have qX:(0:Int)<s.size:=by omega
 have a3:¬(c0.toNat:Int)<97:=by omega
 have a4:¬122<(c0.toNat:Int):=by omega
 go_enter func41,ntmps41;go_wp2;go_loopg [2,3,4,25]s.size(λg r2 _ _ iv wr=>∃k:Nat,k<=s.size/\g=s.size-k/\iv=xI k/\r2=xB false/\w=wr);case atStart=>exact⟨0,Qbf _,rfl,rfl,rfl,rfl⟩
 case round=>
  obtain⟨k,hk,rfl,rfl,rfl,rfl⟩:=hrel;by_cases bu:k<s.size
  .have hn:=qfg.o k bu;obtain⟨c,hc⟩:=jO (s[k]);rw[hc]at hn;have hkz:(k:Int)<s.size:=by omega
   have Kv:(0:Int)<=k:=Qba _;have hn':(97<=(c.toNat:Int)/\(c.toNat:Int)<=122)\/(48<=(c.toNat:Int)/\(c.toNat:Int)<=57)\/(c.toNat:Int)=95:=by
    simpa [bA,eu,or_assoc]using hn
   rcases hn' with⟨b1,b2⟩|⟨b1,b2⟩|b1
   .have d1:¬(c.toNat:Int)<97:=by omega
    have d2:¬122<(c.toNat:Int):=by omega
    go_wp2;go_roundg(s.size-(k+1));case measure=>omega
    case rel=>exact⟨k+1,by omega,rfl,by go_num,rfl,rfl⟩
   .have d1:(c.toNat:Int)<97:=by omega
    have d2:¬(c.toNat:Int)<48:=by omega
    have d3:¬57<(c.toNat:Int):=by omega
    go_wp2;go_roundg(s.size-(k+1));case measure=>omega
    case rel=>exact⟨k+1,by omega,rfl,by go_num,rfl,rfl⟩
   .have d1:(c.toNat:Int)<97:=by omega
    have d2:¬(c.toNat:Int)<48:=by omega
    have d3:57<(c.toNat:Int):=by omega
    have d4:((c.toNat:Int)!=95)=false:=by simpa using b1
    go_wp2;go_roundg(s.size-(k+1));case measure=>omega
    case rel=>exact⟨k+1,by omega,rfl,by go_num,rfl,rfl⟩
  .go_wp2;go_ret;exact⟨rfl,rfl⟩
def SS(n:Int)(h:(1<=n/\n<=100000)\/(-20<=n/\n<=-1))(w:aj):xC 43 #[xI n] w (ji (xB true) w):=by
 rcases h with⟨h1,h2⟩|⟨h1,h2⟩
 .go_enter func43,ntmps43;go_wp2;go_ret;exact⟨rfl,rfl⟩
 .have h3:¬1<=n:=by omega
  go_enter func43,ntmps43;go_wp2;go_ret;exact⟨rfl,rfl⟩
def qT(a:aM):Op.bytesLess a.toList a.toList=false:=by
 cases h:Op.bytesLess a.toList a.toList with
 |false=>rfl
 |true=>
  rw[Go.Proofs.bytesLess_eq]at h;exact absurd (by simpa using h) (List.lt_irrefl _)
def MF(a:aM)(w:aj):xC 81 #[xS a,xS a] w (ji (xI 0) w):=by
 have h:=qT a;go_enter func81,ntmps81;go_wp2_with fail;refine cT (zu _ _) ?_;go_wp2_with fail;refine cT (zu _ _) ?_;go_wp2;go_ret;exact⟨rfl,rfl⟩
def Ce(k n:Int)(s:aM)(a b:fA)(c d:Nat)(w:aj):
 xC 176 #[.agg #[xI k,xI n,xS s,xL a 0 c], .agg #[xI k,xI n,xS s,xL b 0 d]] w (cr (xI 0) w):=by
 go_enter func176,ntmps176;go_wp2_with fail;refine cT (pX _ _) ?_;go_wp2_with fail;refine cT (pX _ _) ?_;go_wp2_with fail;refine cT (MF _ _) ?_;go_wp2_with fail;refine cT (sC _ _ _ _ _ _) ?_;go_wp2;go_ret;exact⟨rfl,(Bx.dq w _ _).1⟩
def yx(k n:Int)(s:aM)(a b:fA)(c d:Nat)(w:aj):
 xC 111 #[.agg #[xI k,xI n,xS s,xL a 0 c], .agg #[xI k,xI n,xS s,xL b 0 d]] w (cr (xB true) w):=by
 have HX:=af (Bx.dq w (xK #[xI k,xI n,xS s,xL a 0 c] 44) (xK #[xI k,xI n,xS s,xL b 0 d] 44));obtain⟨c0,c1,c2,c3⟩:=ae (HX.o.bG rfl);obtain⟨d0,d1,d2,d3⟩:=ae (HX.o.bU rfl);go_enter func111,ntmps111;go_wp2_with fail;refine bY (Ce _ _ _ _ _ _ _ _) λw' hb=> ?_;have HB:=af (HX.o.below hb);go_wp2;go_ret;exact⟨rfl,HB.o.1⟩
def yz(v:aA):Prop:=∃k n s,v= .mk k n s []
def vo(l:List aA)(hf:∀y∈l,yz y)(hl:l.length<=20)(M:aN)(w:aj)(v:an)(hs:ab M w v l):
 xC 112 #[v,v] w (cr (xB true) w):=by
 have HV:Hd (∀(i:Nat)k n s ll,l[i]? =some (.mk k n s ll)->_):=λi k n s ll hx=>dy hs hx;have HF:=af hf;obtain⟨a,bQ,rfl,cV,lL,_⟩:=hs.open_;generalize hn:l.length=n at*;have HN:=af hn;have yJ:((n:Int)!=(n:Int))=false:=by simp
 go_enter func112,ntmps112;go_wp2;go_loopg [4,5,6,14]n(λg r4 _ _ iv wr=>∃i:Nat,i<=n/\g=n-i/\iv=xI i/\r4=xB false/\Hd (aq w wr));case atStart=>exact⟨0,Qbf _,rfl,rfl,rfl,af dQ⟩
 case round=>
  obtain⟨i,hi,rfl,rfl,rfl,HB⟩:=hrel;rename World=>wr;by_cases bu:i<n
  .obtain⟨y,hy⟩:=eB l i (by rw[HN.o];exact bu);obtain⟨vk,vn,vs,rfl⟩:=HF.o y (Qaf hy);obtain⟨b,off,cap,za,zc,hv,cR,bI,_,ay⟩:=HV.o i vk vn vs [] hy;obtain⟨rfl,rfl⟩:=iB hv;obtain⟨⟨g0,g1,g2,g3⟩,-⟩:=ay wr HB.o;rw[Qcd]at g3;have mP:=af ay;have i0:(0:Int)<=(i:Int):=Qba _;have i1:(i:Int)<(n:Int):=by omega
   go_upto_region 6 with fail;obtain⟨W1,bT⟩:=bS (wr.alloc (xK #[xI vk,xI vn,xS vs,xL za 0 zc] 44));have fL:=af (show di W1 wr (xK #[xI vk,xI vn,xS vs,xL za 0 zc] 44)by rw[bT];exact Qbh wr _);have aY:=af (show aq w W1 by rw[bT];exact HB.o.alloc HB.o.size _);rw[<-bT];have HK:Hd (∀V,aq W1 V->(bt V b (off+i*4) (xI vk)/\bt V b (off+i*4+1) (xI vn)/\bt V b (off+i*4+2) (xS vs)/\bt V b (off+i*4+3) (xL za 0 zc))/\(ox V wr 0 (xI vk)/\ox V wr 1 (xI vn)/\ox V wr 2 (xS vs)/\ox V wr 3 (xL za 0 zc))):=λV hb=>by
    have h1:=(mP.o V (aY.o.trans (hb.mono aY.o.size))).1;rw[Qcd]at h1;exact⟨h1,ae ((hb.block _ (Qaa.1 fL.o).1).trans fL.o)⟩
   go_cut [25](λs25 wx=>s25=xB false/\Hd (aq w wx));case first=>
    refine ib (by kernel_rfl) (by kernel_rfl) λι _ F lg C4=> ?_;have s0:=λi=>(HK.o (F i) (lg i)).1.1;have s1:=λi=>(HK.o (F i) (lg i)).1.2.1;have s2:=λi=>(HK.o (F i) (lg i)).1.2.2.1;have s3:=λi=>(HK.o (F i) (lg i)).1.2.2.2;have t0:=λi=>(HK.o (F i) (lg i)).2.1;have t1:=λi=>(HK.o (F i) (lg i)).2.2.1;have t2:=λi=>(HK.o (F i) (lg i)).2.2.2.1;have t3:=λi=>(HK.o (F i) (lg i)).2.2.2.2;have jy:=af lg;have zP:=af C4;repeat(go_big_quiet_step((go_at_call 111;refine bY (yx _ _ _ _ _ _ _ _) λw3 bP=> ?_;exact⟨rfl,zP.o _ ((jy.o _).trans (bP.mono (jy.o _).size))⟩)))
    refine wpQuiet_nil ?_;rintro _⟨nq,rfl⟩;go_wp2;go_meet;exact⟨rfl,af (aY.o.trans ((jy.o _).mono aY.o.size))⟩
   case rest=>
    obtain⟨rfl,bO⟩:=hcut;go_wp2;go_roundg(n-(i+1));case measure=>omega
    case rel=>exact⟨i+1,by omega,rfl,by go_num,rfl,bO⟩
  .obtain rfl:i=n:=by omega
   go_wp2;go_ret;exact⟨rfl,HB.o⟩
def P4(y:aA):Prop:=∀(M:aN)(w:aj)(u:an),ct M w u y->Tb w->xC 44 #[u] w (cr (xB true) w)
def Cf(l:List aA)(hf:∀y∈l,P4 y)(hl:l.length<=8)(M:aN)(w:aj)(hT:Tb w)(v:an)(hs:ab M w v l):
 xC 42 #[v] w (cr (xB true) w):=by
 have HV:Hd (∀(i:Nat)k n s ll,l[i]? =some (.mk k n s ll)->_):=λi k n s ll hx=>dy hs hx;have HF:=af hf;have YE:=af hT;obtain⟨a,bQ,rfl,cV,lL,_⟩:=hs.open_;generalize hn:l.length=n at*;have HN:=af hn;go_enter func42,ntmps42;go_wp2;go_loopg [2,4,10]n(λg r2 _ iv wr=>∃i:Nat,i<=n/\g=n-i/\iv=xI i/\r2=xB false/\Hd (aq w wr));case atStart=>exact⟨0,Qbf _,rfl,rfl,rfl,af dQ⟩
 case round=>
  obtain⟨i,hi,rfl,rfl,rfl,HB⟩:=hrel;rename World=>wr;by_cases bu:i<n
  .obtain⟨y,hy⟩:=eB l i (by rw[HN.o];exact bu);obtain⟨vk,vn,vs,vl⟩:=y;obtain⟨b,off,cap,za,zc,hv,cR,bI,hvm,ay⟩:=HV.o i vk vn vs vl hy;obtain⟨rfl,rfl⟩:=iB hv;obtain⟨⟨g0,g1,g2,g3⟩,-⟩:=ay wr HB.o;have i0:(0:Int)<=(i:Int):=Qba _;have i1:(i:Int)<(n:Int):=by omega
   have br:Hd (∀o,xC 44 #[.agg #[xI vk,xI vn,xS vs,xL za vl.length zc]] (wr.alloc o) λe w'=>e=xR (xB true)/\Below (wr.alloc o).heap.size (wr.alloc o) w'):=λo=>
    HF.o _ (Qaf hy) M (wr.alloc o) _ (ay _ (HB.o.alloc HB.o.size o)).2 (YE.o.below (HB.o.alloc HB.o.size o));generalize vl.length=vln at*;go_wp2_with fail;refine bY (br.o _) λw1 aF=> ?_;have aY:=af (HB.o.trans ((aU aF).mono HB.o.size));go_wp2;go_roundg(n-(i+1));case measure=>omega
   case rel=>exact⟨i+1,by omega,rfl,by go_num,rfl,aY⟩
  .obtain rfl:i=n:=by omega
   go_wp2;go_ret;exact⟨rfl,HB.o⟩
def vH(a b:fA)(c d:Nat)(w:aj):xC 177 #[xL a 0 c,xL b 0 d] w (ji (xB true) w):=by
 go_enter func177,ntmps177;go_wp2_with fail;go_loop [4,5,13](λr4 _ i=>r4=xB false/\i=xI 0)(λ_ _ _=>0);case atStart=>exact⟨rfl,rfl⟩
 case round=>
  obtain⟨rfl,rfl⟩:=hrel;go_wp2;go_ret;exact⟨rfl,rfl⟩
def pC(s:aM)(a b:fA)(c d:Nat)(w:aj):xC 113 #[.agg #[xS s,xL a 0 c], .agg #[xS s,xL b 0 d]] w (cr (xB true) w):=by
 have HX:=af (Bx.dq w (xK #[xS s,xL a 0 c] 47) (xK #[xS s,xL b 0 d] 47));obtain⟨c0,c1⟩:=ah (HX.o.bG rfl);obtain⟨d0,d1⟩:=ah (HX.o.bU rfl);go_enter func113,ntmps113;go_wp2_with fail;refine cT (vH _ _ _ _ _) ?_;go_wp2;go_ret;exact⟨rfl,HX.o.1⟩
abbrev MG:an:= .agg #[xI 0,xS ⟨#[]⟩,xS ⟨#[]⟩,xS ⟨#[]⟩,xI 0,xI 0,xS ⟨#[]⟩,xS ⟨#[]⟩]
def IS(w:aj):xC 114 #[.agg #[xI 0,xS ⟨#[]⟩,xS ⟨#[]⟩,xS ⟨#[]⟩,xI 0,xI 0,xS ⟨#[]⟩,xS ⟨#[]⟩], .agg #[xI 0,xS ⟨#[]⟩,xS ⟨#[]⟩,xS ⟨#[]⟩,xI 0,xI 0,xS ⟨#[]⟩,xS ⟨#[]⟩]] w (cr (xB true) w):=by
 have heq:∀w,(Op.equal 51 MG MG).run prog w= .ok true w:=λw=>by kernel_rfl
 unfold MG at heq;have HX:=af (Bx.dq w (xK #[xI 0,xS ⟨#[]⟩,xS ⟨#[]⟩,xS ⟨#[]⟩,xI 0,xI 0,xS ⟨#[]⟩,xS ⟨#[]⟩] 51) (xK #[xI 0,xS ⟨#[]⟩,xS ⟨#[]⟩,xS ⟨#[]⟩,xI 0,xI 0,xS ⟨#[]⟩,xS ⟨#[]⟩] 51));obtain⟨c0,c1,c2,c3,c4,c5,c6,c7⟩:=ak (HX.o.bG rfl);obtain⟨d0,d1,d2,d3,d4,d5,d6,d7⟩:=ak (HX.o.bU rfl);go_enter func114,ntmps114;go_wp2;go_ret;exact⟨rfl,HX.o.1⟩
abbrev A6(k id:Int)(c n:aM)(vv:an)(dn:aM)(df:an):an:= .agg #[xI k,xI id,xS c,xS n,xI 0,xI 0,xS ⟨#[]⟩,xL none 0 0,vv,xS dn,df,xI 0,xS ⟨#[]⟩,xS ⟨#[]⟩,xS ⟨#[]⟩,xI 0,xI 0,xS ⟨#[]⟩,xS ⟨#[]⟩]
def eG(k id:Int)(c n:aM)(vv:an)(dn:aM)(df:an):Obj:=xK #[xI k,xI id,xS c,xS n,xI 0,xI 0,xS ⟨#[]⟩,xL none 0 0,vv,xS dn,df,xI 0,xS ⟨#[]⟩,xS ⟨#[]⟩,xS ⟨#[]⟩,xI 0,xI 0,xS ⟨#[]⟩,xS ⟨#[]⟩] 53
structure OpC(W:aj)(g:Nat)(k id:Int)(c n:aM)(vv:an)(dn:aM)(df:an):Prop where
 c0:W.cell? ⟨g,0,none⟩=some (xI k)
 c1:W.cell? ⟨g,1,none⟩=some (xI id)
 c2:W.cell? ⟨g,2,none⟩=some (xS c)
 c3:W.cell? ⟨g,3,none⟩=some (xS n)
 c4:W.cell? ⟨g,4,none⟩=some (xI 0)
 c5:W.cell? ⟨g,5,none⟩=some (xI 0)
 c6:W.cell? ⟨g,6,none⟩=some (xS ⟨#[]⟩)
 c7:W.cell? ⟨g,7,none⟩=some (xL none 0 0)
 c8:W.cell? ⟨g,8,none⟩=some vv
 c9:W.cell? ⟨g,9,none⟩=some (xS dn)
 c10:W.cell? ⟨g,10,none⟩=some df
 c11:W.cell? ⟨g,11,none⟩=some (xI 0)
 c12:W.cell? ⟨g,12,none⟩=some (xS ⟨#[]⟩)
 c13:W.cell? ⟨g,13,none⟩=some (xS ⟨#[]⟩)
 c14:W.cell? ⟨g,14,none⟩=some (xS ⟨#[]⟩)
 c15:W.cell? ⟨g,15,none⟩=some (xI 0)
 c16:W.cell? ⟨g,16,none⟩=some (xI 0)
 c17:W.cell? ⟨g,17,none⟩=some (xS ⟨#[]⟩)
 c18:W.cell? ⟨g,18,none⟩=some (xS ⟨#[]⟩)
def bB {k:Int}{c n:aM}{vv:an}{dn:aM}{df:an}(h:bR W g (eG k id c n vv dn df)):OpC W g k id c n vv dn df:=by
 unfold eG at h;constructor<;>simp[World.cell?,h]
structure SU(w:aj)(vv:an)(dn:aM)(df:an):Prop where
 vs:∃a n c,vv=xL a n c
 fs:∃a n c,df=xL a n c
 aR:∀W,aq w W->xC 112 #[vv,vv] W (cr (xB true) W)
 cls:∀W,aq w W->xC 113 #[.agg #[xS dn,df], .agg #[xS dn,df]] W (cr (xB true) W)
def Cg(w:aj):xC 112 #[xL none 0 0,xL none 0 0] w (cr (xB true) w):=vo [] (by simp) (by simp) xF w _ (ab.nil _ _)
theorem SU.nil(w:aj):SU w (xL none 0 0) ⟨#[]⟩ (xL none 0 0):=⟨⟨_,_,_,rfl⟩,⟨_,_,_,rfl⟩,λW _=>Cg W,λW _=>pC _ _ _ _ _ W⟩
theorem SU.list(hs:ab M w v l)(hf:∀y∈l,yz y)(hl:l.length<=20):SU w v ⟨#[]⟩ (xL none 0 0):=⟨by obtain⟨a,c,e,_⟩:=hs.open_;exact⟨_,_,_,e⟩,⟨_,_,_,rfl⟩,λW hb=>vo l hf hl M W v (hs.below hb),λW _=>pC _ _ _ _ _ W⟩
def qg(k id:Int)(c n:aM)(vv:an)(dn:aM)(df:an)(w:aj)(h:SU w vv dn df):
 xC 47 #[A6 k id c n vv dn df,A6 k id c n vv dn df] w (cr (xB true) w):=by
 obtain⟨⟨va,vn,vc,rfl⟩,⟨fa,fn,fc,rfl⟩,h1,h2⟩:=h;have H1:=af h1;have H2:=af h2;clear h1 h2;have HX:=af (Bx.dq w (eG k id c n (xL va vn vc) dn (xL fa fn fc)) (eG k id c n (xL va vn vc) dn (xL fa fn fc)));obtain⟨a0,a1,a2,a3,a4,a5,a6,a7,a8,a9,yZ,a11,a12,a13,a14,a15,a16,a17,a18⟩:=bB (HX.o.bG rfl);obtain⟨b0,b1,b2,b3,b4,b5,b6,b7,b8,b9,b10,b11,b12,b13,b14,b15,b16,b17,b18⟩:=bB (HX.o.bU rfl);go_enter func47,ntmps47;go_upto_region 1 with fail;obtain⟨W1,bT⟩:=bS ((w.alloc (eG k id c n (xL va vn vc) dn (xL fa fn fc))).alloc (eG k id c n (xL va vn vc) dn (xL fa fn fc)));have fL:=af (show Bx w [eG k id c n (xL va vn vc) dn (xL fa fn fc),eG k id c n (xL va vn vc) dn (xL fa fn fc)] W1 by rw[bT];exact HX.o);rw[<-bT]at a0 a1 a2 a3 a4 a5 a6 a7 a8 a9 yZ a11 a12 a13 a14 a15 a16 a17 a18 b0 b1 b2 b3 b4 b5 b6 b7 b8 b9 b10 b11 b12 b13 b14 b15 b16 b17 b18;unfold eG at bT;rw[<-bT];clear bT HX;go_wp2_with fail;refine bY (yx 0 0 ⟨#[]⟩ none none 0 0 _) λw1 aF=> ?_;have fU:=af (fL.o.below aF);clear aF a0 a1 a2 a3 a4 a5 a6 a7 a8 a9 yZ a11 a12 a13 a14 a15 a16 a17 a18 b0 b1 b2 b3 b4 b5 b6 b7 b8 b9 b10 b11 b12 b13 b14 b15 b16 b17 b18;have a8:=(bB (fU.o.bG rfl)).c8;have b8:=(bB (fU.o.bU rfl)).c8;go_wp2_with fail;refine bY (H1.o _ fU.o.1) λw2 bC=> ?_;have lq:=af (fU.o.below bC);clear bC a8 b8;have a9:=(bB (lq.o.bG rfl)).c9;have b9:=(bB (lq.o.bU rfl)).c9;have yZ:=(bB (lq.o.bG rfl)).c10;have b10:=(bB (lq.o.bU rfl)).c10;go_wp2_with fail;refine bY (H2.o _ lq.o.1) λw3 bP=> ?_;have pL:=af (lq.o.below bP);clear bP a9 b9 yZ b10;obtain⟨-,-,-,-,-,-,-,-,-,-,-,a11,a12,a13,a14,a15,a16,a17,a18⟩:=bB (pL.o.bG rfl);obtain⟨-,-,-,-,-,-,-,-,-,-,-,b11,b12,b13,b14,b15,b16,b17,b18⟩:=bB (pL.o.bU rfl);go_wp2_with fail;refine bY (IS _) λw4 eA=> ?_;have oq:=af (pL.o.below eA);clear eA;go_wp2;go_ret;exact⟨rfl,oq.o.1⟩
end
end Go.Proofs.YtepaofffbkfodaaGreatDoor
