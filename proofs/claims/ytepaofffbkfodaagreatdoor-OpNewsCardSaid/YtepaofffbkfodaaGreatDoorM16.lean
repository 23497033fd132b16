/- A part; no condition. -/
import Derived.Test.YtepaofffbkfodaaGreatDoorM09
import Derived.Test.YtepaofffbkfodaaGreatDoorM15
import Derived.Shelf.Small.Utf8
import Derived.Lib.RuneCountTail
import Derived.Sort.Walk0
set_option linter.all false
set_option maxHeartbeats 8000000
set_option maxRecDepth 100000
namespace Go.Proofs.YtepaofffbkfodaaGreatDoor
open Tryz
variable{p g:Nat}{s:aY}{id:Int}{W w w':ax}{l:List aJ}{v:aA}{M:aV}
section
open Go.RowKit Go.Shelf
def nX:Go.Shelf.Ren:=⟨λ|118=>392|n=>n,λ|21=>21|3=>3|4=>4|n=>n,λ|n=>n⟩
def Dw:Go.Proofs.Lays.n118 prog nX:={
 mixed:=by kernel_rfl
 f118:=Tryz.func392.trans (by kernel_rfl)
 t3:=underlying3
 a3:=isAgg3
 z3:=sizeOf3
 v3:=zeroValue3
 t4:=underlying4
 a4:=isAgg4
 z4:=sizeOf4
 v4:=zeroValue4
 t21:=underlying21
 a21:=isAgg21
 z21:=sizeOf21
 v21:=zeroValue21}
def Og:nX.f 118=392:=by kernel_rfl
def GI(r k:Nat)(h:(k=1/\32<=r/\r<127)\/(k=2/\r=233))(w:ax):xC 392 #[.int .i32 (r:Int)] w (jt (xI (k:Int)) w):=by
 have h1:=Any.utf8_RuneLen Dw (r:Int) w;rw[Og]at h1;have e:Lib.runeLen (r:Int)=(k:Int):=by
  unfold Lib.runeLen;rcases h with⟨rfl,h1,h2⟩|⟨rfl,rfl⟩
  . (repeat' split)<;>first|rfl|(exfalso;omega)
  .decide
 rw[e]at h1;exact h1.mono λe w'⟨h1,h2⟩=>⟨h1,h2.symm⟩
def Dx(s:aY)(p:Nat)(hp:p<s.size):∃r k:Nat,Utf8.decode s p=(r,k)/\1<=k/\p+k<=s.size:=by
 have h1:=Lib.tail_decode s p 0;have hl:s.data.toList.length=s.size:=bG s;have hd:(s.extract p s.size).data.toList=s.data.toList.drop p:=by
  simp;rw[Qah (by simp at hl⊢)]
 have h2:Lib.decodeL (s.data.toList.drop p)=Utf8.decode s p:=by
  rw[<-hd];have e:(⟨(s.extract p s.size).data.toList.toArray⟩:aY)=s.extract p s.size:=by rw[Array.toArray_toList]
  unfold Lib.decodeL;rw[e];exact h1
 have hne:s.data.toList.drop p≠[]:=by
  intro e;have:=congrArg List.length e;simp only[List.length_drop,Qcd]at this;omega
 have h3:=Lib.decodeL_le _ hne;have h4:=Lib.decodeL_width (s.data.toList.drop p);rw[h2]at h3 h4;rw[List.length_drop]at h3;exact⟨(Utf8.decode s p).1,(Utf8.decode s p).2,rfl,h4,by omega⟩
def kK(n:Int):aA:= .agg #[xI 1,n,"",()]
def tN(n:Int):Prop:= -1000000000000000<=n/\n<=1000000000000000
def jH(v:aA)(_:ax):Prop:=∃n,tN n/\v=kK n
def UM(n:Int):tN (max (-1000000000000000) (min n 1000000000000000)):=by unfold tN;omega
def jI(n:Int)(w:ax):xG 354 #[n] w jH:=by
 go_enter func354,ntmps354;go_wp2_with fail;refine Qae (v:=kK (max (-1000000000000000) (min n 1000000000000000))) (by simp[results,results354,go_sem,kK]) rfl (show cm w jH _ _ from⟨_,rfl,⟨_,UM n,rfl⟩,?_⟩);exact bU
def Tm(w:ax)(b:Nat)(e:Ending)(w':ax):Prop:=∃n:Nat,n<=b/\e=xR n/\aC w w'
def Dy(s:aY)(hs:s.size<=1000)(w:ax):xC 355 #[s] w (Tm w s.size):=by
 have HD:Hd (∀p,p<s.size->∃r k:Nat,Utf8.decode s p=(r,k)/\1<=k/\p+k<=s.size):=Dx s;go_enter func355,ntmps355;go_wp2;go_loopg [3](s.size+1)(λg r3 wr=>∃p n:Nat,p<=s.size/\n<=p/\g=s.size+1-p/\r3=xI n/\wr=w.iter s p);case atStart=>exact⟨0,0,Qbf _,bT,rfl,rfl,rfl⟩
 case round=>
  obtain⟨p,n,hp,hn,rfl,rfl,rfl⟩:=hrel;by_cases bH:p<s.size
  .have⟨r,k,hd,hk1,hk2⟩:=HD.o p bH;have hx:=run_next_any (P:=prog) w s p 0 bH;rw[hd]at hx;dsimp only at hx;go_wp2;go_roundg(s.size+1-(p+k));case measure=>omega
   case rel=>exact⟨p+k,n+1,by omega,by omega,rfl,by go_num,rfl⟩
  .have hx:=run_next_end (P:=prog) w s p 0 bH;go_wp2;go_ret;exact(show Tm _ _ _ _ from⟨n,by omega,rfl,bU⟩)
def Dz(w:ax)(s:aY)(e:Ending)(w':ax):Prop:=∃p:Nat,qo s p/\e=xR p/\aC w w'
def Aj(s:aY)(h:iP s.data.toList)(hs:s.size<=1000)(n:Int)(w:ax):xC 358 #[s,n] w (Dz w s):=by
 have HS:=ag h;go_enter func358,ntmps358;go_wp2;go_loopg [5,6](s.size+1)(λg r5 _ wr=>∃p k:Nat,p<=s.size/\k<=p/\g=s.size+1-p/\r5=xI k/\wr=w.iter s p/\Hd (qo s p));case atStart=>exact⟨0,0,Qbf _,bT,rfl,rfl,rfl,(tJ HS.o)⟩
 case round=>
  obtain⟨p,k,hp,hk,rfl,rfl,rfl,HA⟩:=hrel;by_cases bH:p<s.size
  .have⟨r,j,hd,hj,hA2⟩:=HA.o.step bH;have hx:=run_next_any (P:=prog) w s p 0 bH;rw[hd]at hx;dsimp only at hx;have hj1:1<=j:=by omega
   have ZR:=hA2.1;have mz:=ag hA2;by_cases P8:n<=(k:Int)
   .go_wp2;go_ret;exact(show Dz _ _ _ _ from⟨p,HA.o,rfl,bU⟩)
   .go_wp2;go_roundg(s.size+1-(p+j));case measure=>omega
    case rel=>exact⟨p+j,k+1,ZR,by omega,rfl,by go_num,rfl,mz⟩
  .have hx:=run_next_end (P:=prog) w s p 0 bH;have hpe:p=s.size:=by omega
   subst hpe;go_wp2;go_ret;exact(show Dz _ _ _ _ from⟨s.size,HA.o,rfl,bU⟩)
def mM(s:aY):aA:= .agg #[xI 2,xI 0,s,()]
def fy(v:aA)(_:ax):Prop:=∃s,gi s/\v=mM s
def Oh(h:qo s p)(hp:p<=60):gi (s.extract 0 p):=by
 have h0:=h.1;refine⟨by simp;omega,?_⟩;have:=h.take;simpa using this
def rV(s:aY)(h:iP s.data.toList)(hs:s.size<=1000)(w:ax):xG 357 #[s] w fy:=by
 have HS:=ag h;clear h;go_enter func357,ntmps357;go_wp2_with fail;have⟨w0,hw0⟩:=bY (w.alloc (xK iE 44));have HB:=ag (show Bx w [xK iE 44] w0 by rw[hw0];exact Bx.eI w _);have hsz:=HB.o.bQ;simp only[Qcc,Qcd]at hsz;have hz0:w0.heap.size=[w]:=by rw[hw0];simp
 rw[<-hw0];clear hw0;have Ni:=ag hz0;clear hz0;go_loopg [3,4](s.size+1)(λg _ _ wr=>∃p:Nat,p<=s.size/\p<=60/\g=s.size+1-p/\wr=w0.iter s p/\Hd (qo s p));case atStart=>exact⟨0,Qbf _,by omega,rfl,rfl,(tJ HS.o)⟩
 case round=>
  obtain⟨p,hp,qc8,rfl,rfl,HA⟩:=hrel;have bz:Hd (Bx w [xK iE 44] (w0.iter s p)):=HB.o.alloc _;have⟨c0,c1,c2,c3⟩:=af (bz.o.bO rfl);have⟨f0,f1,f2,f3⟩:=hZ (bz.o.bO rfl);by_cases bH:p<s.size
  .have⟨r,j,hd,hj,hA2⟩:=HA.o.step bH;have hx:=run_next_any (P:=prog) w0 s p 0 bH;rw[hd,Ni.o]at hx;dsimp only at hx;have HR:Hd (∀W,xC 392 #[.int .i32 (r:Int)] W (jt (xI (j:Int)) W)):=λW=>GI r j hj W;have hj1:1<=j/\j<=2:=by omega
   have bg:Hd (Bx w [xK iE 44] (w0.iter s (p+j))):=HB.o.alloc _;have⟨d0,d1,d2,d3⟩:=af (bg.o.bO rfl);have⟨g0,g1,g2,g3⟩:=hZ (bg.o.bO rfl);have ZR:=hA2.1;have mz:=ag hA2;clear hd hj hA2;go_wp2_with fail;refine dw (HR.o _) ?_;by_cases SP:p+j<=60
   .have hz:¬(60:Int)<(p:Int)+(j:Int):=by omega
    go_wp2;go_roundg(s.size+1-(p+j));case measure=>omega
    case rel=>exact⟨p+j,ZR,SP,rfl,rfl,mz⟩
   .have hz:(60:Int)<(p:Int)+(j:Int):=by omega
    go_wp2_with fail;refine Qae (v:=mM (s.extract 0 p)) (by simp[results,results357,go_sem,mM,d0,d1,d2,d3]) rfl (show cm w fy _ _ from⟨_,rfl,⟨_,Oh HA.o qc8,rfl⟩,?_⟩);exact(((bg.o.1.setCell (by simp) _).setCell (by simp) _).setCell (by simp) _).setCell (by simp) _
  .have hx:=run_next_end (P:=prog) w0 s p 0 bH;rw[Ni.o]at hx;have SP:s.size<=60:=by omega
   go_wp2_with fail;refine Qae (v:=mM s) (by simp[results,results357,go_sem,mM,c0,c1,c2,c3]) rfl (show cm w fy _ _ from⟨_,rfl,⟨_,⟨SP,HS.o⟩,rfl⟩,?_⟩);exact(((bz.o.1.setCell (by simp) _).setCell (by simp) _).setCell (by simp) _).setCell (by simp) _
end
section
open Go.RowKit
def uN(w:ax)(e:Ending)(w':ax):Prop:=∃x:Int,e=xR x/\w=w'
def GY(w:ax)(e:Ending)(w':ax):Prop:=∃x:Int,e=xR x/\aC w w'
def ON(w:ax)(e:Ending)(w':ax):Prop:=∃b:Bool,e=xR b/\w=w'
def Lt(n:Int)(w:ax):xC 148 #[n] w (jt false w):=by
 have h:((n:Int)!=n)=false:=by simp
 go_enter func148,ntmps148;go_wp2;go_ret;exact⟨by simp,rfl⟩
def zf(s:aY)(w:ax):xC 149 #[s] w (jt false w):=by
 go_enter func149,ntmps149;go_wp2;go_ret;exact⟨by simp,rfl⟩
def qb4(a b:Int)(w:ax):xC 79 #[a,b] w (uN w):=by
 rcases Int.lt_trichotomy a b with h|h|h;all_goals
  go_enter func79,ntmps79;go_wp2_with fail;refine dw (Lt _ _) ?_;go_wp2_with fail;refine dw (Lt _ _) ?_;go_wp2;go_ret;exact(show uN _ _ _ from⟨_,rfl,rfl⟩)
def pY(a:Int)(w:ax):xC 79 #[a,a] w (jt (xI 0) w):=by
 have h:¬a<a:=by omega
 go_enter func79,ntmps79;go_wp2_with fail;refine dw (Lt _ _) ?_;go_wp2_with fail;refine dw (Lt _ _) ?_;go_wp2;go_ret;exact⟨rfl,rfl⟩
def GZ(w:ax):xC 81 #["",""] w (jt (xI 0) w):=by
 go_enter func81,ntmps81;go_wp2_with fail;refine dw (zf _ _) ?_;go_wp2_with fail;refine dw (zf _ _) ?_;go_wp2;go_ret;exact⟨rfl,rfl⟩
def si(a b:fx)(c d:Nat)(fv:aA)(w:ax):xC 239 #[xL a 0 c,xL b 0 d,fv] w (jt (xI 0) w):=by
 go_enter func239,ntmps239;go_wp2_with fail;go_loop [7,14](λ_ i=>i=xI 0)(λ_ _=>0);case atStart=>exact rfl
 case round=>
  subst hrel;go_wp2_with fail;refine dw (pY 0 _) ?_;go_wp2;go_ret;exact⟨rfl,rfl⟩
def DU(m n:Int)(a b:fx)(c d:Nat)(w:ax):
 xC 176 #[.agg #[xI 1,m,"",xL a 0 c], .agg #[xI 1,n,"",xL b 0 d]] w (GY w):=by
 go_enter func176,ntmps176;go_wp2_with fail;refine dw (pY _ _) ?_;go_wp2_with fail;refine(qb4 _ _ _).mono ?_;rintro e w'⟨x,rfl,rfl⟩;by_cases hx:x=0
 .subst hx;go_wp2_with fail;refine dw (GZ _) ?_;go_wp2_with fail;refine dw (si _ _ _ _ _ _) ?_;go_wp2;go_ret;exact(show GY _ _ _ from⟨_,rfl,(Bx.du w _ _).1⟩)
 .have hb:(x !=0)=true:=by simpa using hx
  go_wp2;go_ret;exact(show GY _ _ _ from⟨_,rfl,(Bx.du w _ _).1⟩)
def Ap(s:List UInt8)(hs:s=[61]\/s=[62])(c:Int)(w:ax):xC 399 #[xS ⟨s.toArray⟩,c] w (ON w):=by
 rcases hs with rfl|rfl;all_goals
  go_enter func399,ntmps399;go_wp2;go_ret;exact(show ON _ _ _ from⟨_,rfl,rfl⟩)
def RR {a:Int}(h:a≠0):max a (-a)≠0:=by omega
def DV(a b:Int)(ha:tN a)(hb:tN b)(w:ax):xC 397 #[a,b] w (uN w):=by
 obtain⟨a1,a2⟩:=ha;obtain⟨b1,b2⟩:=hb;by_cases h0:a=0
 .subst h0;go_enter func397,ntmps397;go_wp2;go_ret;exact(show uN _ _ _ from⟨_,rfl,rfl⟩)
 .have e0:(a==0)=false:=by simpa using h0
  have hm:=RR h0;have hm2:max a (-a)<=1000000000000000:=by omega
  have MU:0<max a (-a):=by omega
  go_enter func397,ntmps397;go_wp2_with fail;all_goals
   go_ret;exact(show uN _ _ _ from⟨_,rfl,rfl⟩)
def BO(a b:Int)(ha:tN a)(hb:tN b)(w:ax):xC 398 #[xS ⟨#[47]⟩,a,b] w (uN w):=by
 obtain⟨a1,a2⟩:=ha;obtain⟨b1,b2⟩:=hb;by_cases h0:b=0
 .subst h0;go_enter func398,ntmps398;go_wp2;go_ret;exact(show uN _ _ _ from⟨_,rfl,rfl⟩)
 .have e0:(b==0)=false:=by simpa using h0
  go_enter func398,ntmps398;go_wp2;go_ret;exact(show uN _ _ _ from⟨_,rfl,rfl⟩)
end
section
open Go.RowKit Go.Shelf
structure qb9 where
 k:Int
 n:Int
 s:aY
 a:Option Addr
 len:Nat
 cap:Nat
def qb9.val(x:qb9):aA:= .agg #[x.k,x.n,x.s,xL x.a x.len x.cap]
instance:aD qb9 where
 size:=4
 rep:=λ_ _ cs x=>cs=[xI x.k,xI x.n,xS x.s,xL x.a x.len x.cap]/\x.s.size<=maxLen
 len:=λh=>by rw[h.1];rfl
 flat:=λh u hu=>by rw[h.1]at hu;simp at hu;rcases hu with rfl|rfl|rfl|rfl<;>rfl
 ev:=λh _=>h
end
section
open Go.RowKit
end
section
open Go.RowKit Go.Shelf
end
section
open Go.RowKit
def AQ(s:aY)(h:aM s=true)(w:ax):xC 41 #[s] w (jt true w):=by
 obtain⟨⟨h1,h2⟩,h3⟩:(1<=s.size/\s.size<=20)/\(match s.data.toList with|[]=>false|c::r=>eE c.toNat&&(c::r).all λc=>bN c.toNat)=true:=by
  unfold aM at h;rw[Qce,Qce]at h;exact⟨⟨by simpa using h.1.1,by simpa using h.1.2⟩,h.2⟩
 have hall:∀(k:Nat)(hk:k<s.size),bN (s[k]).toNat=true:=λk hk=>by
  have h4:=dz s k hk;cases hl:s.data.toList with
  |nil=>rw[hl]at h4;simp at h4
  |cons a r=>
   rw[hl]at h3 h4;have h5:=(Bool.and_eq_true_iff.1 h3).2;exact List.all_eq_true.1 h5 _ (Qaf h4)
 have h0:eE (s[0]'h1).toNat=true:=by
  have h4:=dz s 0 h1;cases hl:s.data.toList with
  |nil=>rw[hl]at h4;simp at h4
  |cons a r=>
   rw[hl]at h3 h4;simp at h4;rw[<-h4];exact(Bool.and_eq_true_iff.1 h3).1
 have qeh:=ag hall;obtain⟨c0,hc0⟩:∃c,s[0]'h1=c:=⟨_,rfl⟩;rw[hc0]at h0;obtain⟨a1,a2⟩:97<=(c0.toNat:Int)/\(c0.toNat:Int)<=122:=by simpa [eE]using h0
 have hs1:¬(s.size:Int)<1:=by omega
 have hs2:¬20<(s.size:Int):=by omega
 have qK:(0:Int)<s.size:=by omega
 have a3:¬(c0.toNat:Int)<97:=by omega
 have a4:¬122<(c0.toNat:Int):=by omega
 go_enter func41,ntmps41;go_wp2;go_loopg [2,3,4,25]s.size(λg r2 _ _ iv wr=>∃k:Nat,k<=s.size/\g=s.size-k/\iv=xI k/\r2=xB false/\w=wr);case atStart=>exact⟨0,Qbf _,rfl,rfl,rfl,rfl⟩
 case round=>
  obtain⟨k,hk,rfl,rfl,rfl,rfl⟩:=hrel;by_cases bH:k<s.size
  .have hn:=qeh.o k bH;have⟨c,hc⟩:=jN (s[k]);rw[hc]at hn;have hkz:(k:Int)<s.size:=by omega
   have P9:(0:Int)<=k:=Qba _;have hn':(97<=(c.toNat:Int)/\(c.toNat:Int)<=122)\/(48<=(c.toNat:Int)/\(c.toNat:Int)<=57)\/(c.toNat:Int)=95:=by
    simpa [bN,eE,or_assoc]using hn
   rcases hn' with⟨b1,b2⟩|⟨b1,b2⟩|b1
   .have d1:¬(c.toNat:Int)<97:=by omega
    have d2:¬122<(c.toNat:Int):=by omega
    go_wp2;go_roundg(s.size-(k+1));case measure=>omega
    case rel=>exact⟨k+1,by omega,rfl,by go_num,rfl,rfl⟩
   .have d1:(c.toNat:Int)<97:=by omega
    have d2:¬(c.toNat:Int)<48:=by omega
    have d3:¬57<(c.toNat:Int):=by omega
    go_wp2;go_roundg(s.size-(k+1));case measure=>omega
    case rel=>exact⟨k+1,by omega,rfl,by go_num,rfl,rfl⟩
   .have d1:(c.toNat:Int)<97:=by omega
    have d2:¬(c.toNat:Int)<48:=by omega
    have d3:57<(c.toNat:Int):=by omega
    have d4:((c.toNat:Int)!=95)=false:=by simpa using b1
    go_wp2;go_roundg(s.size-(k+1));case measure=>omega
    case rel=>exact⟨k+1,by omega,rfl,by go_num,rfl,rfl⟩
  .go_wp2;go_ret;exact⟨rfl,rfl⟩
def R9(n:Int)(h:(1<=n/\n<=100000)\/(-20<=n/\n<=-1))(w:ax):xC 43 #[n] w (jt true w):=by
 rcases h with⟨h1,h2⟩|⟨h1,h2⟩
 .go_enter func43,ntmps43;go_wp2;go_ret;exact⟨rfl,rfl⟩
 .have h3:¬1<=n:=by omega
  go_enter func43,ntmps43;go_wp2;go_ret;exact⟨rfl,rfl⟩
def qG(a:aY):Op.bytesLess a.toList a.toList=false:=by
 cases h:Op.bytesLess a.toList a.toList with
 |false=>rfl
 |true=>
  rw[Go.Proofs.bytesLess_eq]at h;exact absurd (by simpa using h) (List.lt_irrefl _)
def L2(a:aY)(w:ax):xC 81 #[a,a] w (jt (xI 0) w):=by
 have h:=qG a;go_enter func81,ntmps81;go_wp2_with fail;refine dw (zf _ _) ?_;go_wp2_with fail;refine dw (zf _ _) ?_;go_wp2;go_ret;exact⟨rfl,rfl⟩
def B6(k n:Int)(s:aY)(a b:fx)(c d:Nat)(w:ax):
 xC 176 #[.agg #[k,n,s,xL a 0 c], .agg #[k,n,s,xL b 0 d]] w (cu (xI 0) w):=by
 go_enter func176,ntmps176;go_wp2_with fail;refine dw (pY _ _) ?_;go_wp2_with fail;refine dw (pY _ _) ?_;go_wp2_with fail;refine dw (L2 _ _) ?_;go_wp2_with fail;refine dw (si _ _ _ _ _ _) ?_;go_wp2;go_ret;exact⟨rfl,(Bx.du w _ _).1⟩
def yq(k n:Int)(s:aY)(a b:fx)(c d:Nat)(w:ax):
 xC 111 #[.agg #[k,n,s,xL a 0 c], .agg #[k,n,s,xL b 0 d]] w (cu true w):=by
 have HX:=ag (Bx.du w (xK #[k,n,s,xL a 0 c] 44) (xK #[k,n,s,xL b 0 d] 44));have⟨c0,c1,c2,c3⟩:=af (HX.o.bO rfl);have⟨d0,d1,d2,d3⟩:=af (HX.o.cg rfl);go_enter func111,ntmps111;go_wp2_with fail;refine cC (B6 _ _ _ _ _ _ _ _) λw' hb=> ?_;have HB:=ag (HX.o.ae hb);go_wp2;go_ret;exact⟨rfl,HB.o.1⟩
def og(v:aJ):Prop:=∃k n s,v= .mk k n s []
def u4(l:List aJ)(hf:∀y∈l,og y)(hl:l.length<=20)(M:aV)(w:ax)(v:aA)(hs:ab M w v l):
 xC 112 #[v,v] w (cu true w):=by
 have HV:Hd (∀(i:Nat)k n s ll,l[i]? =some (.mk k n s ll)->_):=λi k n s ll hx=>dy hs hx;have HF:=ag hf;obtain⟨a,cj,rfl,cY,hmx,_⟩:=hs.aq;generalize hn:l.length=n at*;have HN:=ag hn;have yI:((n:Int)!=(n:Int))=false:=by simp
 go_enter func112,ntmps112;go_wp2;go_loopg [4,5,6,14]n(λg r4 _ _ iv wr=>∃i:Nat,i<=n/\g=n-i/\iv=xI i/\r4=xB false/\Hd (aC w wr));case atStart=>exact⟨0,Qbf _,rfl,rfl,rfl,ag dS⟩
 case round=>
  obtain⟨i,hi,rfl,rfl,rfl,HB⟩:=hrel;rename World=>wr;by_cases bH:i<n
  .have⟨y,hy⟩:=eG l i (by rw[HN.o];exact bH);obtain⟨vk,vn,vs,rfl⟩:=HF.o y (Qaf hy);have⟨b,off,cap,za,zc,hv,hbl,hsl,_,hcells⟩:=HV.o i vk vn vs [] hy;obtain⟨rfl,rfl⟩:=iY hv;obtain⟨⟨g0,g1,g2,g3⟩,-⟩:=hcells wr HB.o;rw[Qcd]at g3;have lM:=ag hcells;have i0:(0:Int)<=(i:Int):=Qba _;have i1:(i:Int)<(n:Int):=by omega
   go_upto_region 6 with fail;have⟨W1,hW1⟩:=bY (wr.alloc (xK #[vk,vn,vs,xL za 0 zc] 44));have fp:=ag (show dk W1 wr (xK #[vk,vn,vs,xL za 0 zc] 44)by rw[hW1];exact Qbh wr _);have bz:=ag (show aC w W1 by rw[hW1];exact HB.o.alloc HB.o.size _);rw[<-hW1];have HK:Hd (∀V,aC W1 V->(bJ V b (off+i*4) vk/\bJ V b (off+i*4+1) vn/\bJ V b (off+i*4+2) vs/\bJ V b (off+i*4+3) (xL za 0 zc))/\(ou V wr 0 vk/\ou V wr 1 vn/\ou V wr 2 vs/\ou V wr 3 (xL za 0 zc))):=λV hb=>by
    have h1:=(lM.o V (bz.o.trans (hb.mono bz.o.size))).1;rw[Qcd]at h1;exact⟨h1,af ((hb.block _ (Qaa.1 fp.o).1).trans fp.o)⟩
   go_cut [25](λs25 wx=>s25=xB false/\Hd (aC w wx));case first=>
    refine ir (by kernel_rfl) (by kernel_rfl) λι _ F jM yW=> ?_;have s0:=λi=>(HK.o (F i) (jM i)).1.1;have s1:=λi=>(HK.o (F i) (jM i)).1.2.1;have s2:=λi=>(HK.o (F i) (jM i)).1.2.2.1;have s3:=λi=>(HK.o (F i) (jM i)).1.2.2.2;have t0:=λi=>(HK.o (F i) (jM i)).2.1;have t1:=λi=>(HK.o (F i) (jM i)).2.2.1;have t2:=λi=>(HK.o (F i) (jM i)).2.2.2.1;have t3:=λi=>(HK.o (F i) (jM i)).2.2.2.2;have jq:=ag jM;have yL:=ag yW;repeat(go_big_quiet_step((go_at_call 111;refine cC (yq _ _ _ _ _ _ _ _) λw3 hb3=> ?_;exact⟨rfl,yL.o _ ((jq.o _).trans (hb3.mono (jq.o _).size))⟩)))
    refine wpQuiet_nil ?_;rintro _⟨nq,rfl⟩;go_wp2;go_meet;exact⟨rfl,ag (bz.o.trans ((jq.o _).mono bz.o.size))⟩
   case rest=>
    obtain⟨rfl,bV⟩:=hcut;go_wp2;go_roundg(n-(i+1));case measure=>omega
    case rel=>exact⟨i+1,by omega,rfl,by go_num,rfl,bV⟩
  .obtain rfl:i=n:=by omega
   go_wp2;go_ret;exact⟨rfl,HB.o⟩
def Pp(y:aJ):Prop:=∀(M:aV)(w:ax)(u:aA),cB M w u y->Tb w->xC 44 #[u] w (cu true w)
def B7(l:List aJ)(hf:∀y∈l,Pp y)(hl:l.length<=8)(M:aV)(w:ax)(hT:Tb w)(v:aA)(hs:ab M w v l):
 xC 42 #[v] w (cu true w):=by
 have HV:Hd (∀(i:Nat)k n s ll,l[i]? =some (.mk k n s ll)->_):=λi k n s ll hx=>dy hs hx;have HF:=ag hf;have XV:=ag hT;obtain⟨a,cj,rfl,cY,hmx,_⟩:=hs.aq;generalize hn:l.length=n at*;have HN:=ag hn;go_enter func42,ntmps42;go_wp2;go_loopg [2,4,10]n(λg r2 _ iv wr=>∃i:Nat,i<=n/\g=n-i/\iv=xI i/\r2=xB false/\Hd (aC w wr));case atStart=>exact⟨0,Qbf _,rfl,rfl,rfl,ag dS⟩
 case round=>
  obtain⟨i,hi,rfl,rfl,rfl,HB⟩:=hrel;rename World=>wr;by_cases bH:i<n
  .have⟨y,hy⟩:=eG l i (by rw[HN.o];exact bH);obtain⟨vk,vn,vs,vl⟩:=y;have⟨b,off,cap,za,zc,hv,hbl,hsl,hvm,hcells⟩:=HV.o i vk vn vs vl hy;obtain⟨rfl,rfl⟩:=iY hv;obtain⟨⟨g0,g1,g2,g3⟩,-⟩:=hcells wr HB.o;have i0:(0:Int)<=(i:Int):=Qba _;have i1:(i:Int)<(n:Int):=by omega
   have bI:Hd (∀o,xC 44 #[.agg #[vk,vn,vs,xL za vl.length zc]] (wr.alloc o) λe w'=>e=xR true/\Below (wr.alloc o).heap.size (wr.alloc o) w'):=λo=>
    HF.o _ (Qaf hy) M (wr.alloc o) _ (hcells _ (HB.o.alloc HB.o.size o)).2 (XV.o.ae (HB.o.alloc HB.o.size o));generalize vl.length=vln at*;go_wp2_with fail;refine cC (bI.o _) λw1 hb1=> ?_;have bz:=ag (HB.o.trans ((bt hb1).mono HB.o.size));go_wp2;go_roundg(n-(i+1));case measure=>omega
   case rel=>exact⟨i+1,by omega,rfl,by go_num,rfl,bz⟩
  .obtain rfl:i=n:=by omega
   go_wp2;go_ret;exact⟨rfl,HB.o⟩
def vF(a b:fx)(c d:Nat)(w:ax):xC 177 #[xL a 0 c,xL b 0 d] w (jt true w):=by
 go_enter func177,ntmps177;go_wp2_with fail;go_loop [4,5,13](λr4 _ i=>r4=xB false/\i=xI 0)(λ_ _ _=>0);case atStart=>exact⟨rfl,rfl⟩
 case round=>
  obtain⟨rfl,rfl⟩:=hrel;go_wp2;go_ret;exact⟨rfl,rfl⟩
def pB(s:aY)(a b:fx)(c d:Nat)(w:ax):xC 113 #[.agg #[s,xL a 0 c], .agg #[s,xL b 0 d]] w (cu true w):=by
 have HX:=ag (Bx.du w (xK #[s,xL a 0 c] 47) (xK #[s,xL b 0 d] 47));have⟨c0,c1⟩:=ak (HX.o.bO rfl);have⟨d0,d1⟩:=ak (HX.o.cg rfl);go_enter func113,ntmps113;go_wp2_with fail;refine dw (vF _ _ _ _ _) ?_;go_wp2;go_ret;exact⟨rfl,HX.o.1⟩
abbrev L3:aA:= .agg #[xI 0,"","","",xI 0,xI 0,"",""]
def Ik(w:ax):xC 114 #[.agg #[xI 0,"","","",xI 0,xI 0,"",""], .agg #[xI 0,"","","",xI 0,xI 0,"",""]] w (cu true w):=by
 have heq:∀w,(Op.equal 51 L3 L3).run prog w= .ok true w:=λw=>by kernel_rfl
 unfold L3 at heq;have HX:=ag (Bx.du w (xK #[xI 0,"","","",xI 0,xI 0,"",""] 51) (xK #[xI 0,"","","",xI 0,xI 0,"",""] 51));have⟨c0,c1,c2,c3,c4,c5,c6,c7⟩:=aB (HX.o.bO rfl);have⟨d0,d1,d2,d3,d4,d5,d6,d7⟩:=aB (HX.o.cg rfl);go_enter func114,ntmps114;go_wp2;go_ret;exact⟨rfl,HX.o.1⟩
abbrev yr(k id:Int)(c n:aY)(vv:aA)(dn:aY)(df:aA):aA:= .agg #[k,id,c,n,xI 0,xI 0,"",(),vv,dn,df,xI 0,"","","",xI 0,xI 0,"",""]
def gU(k id:Int)(c n:aY)(vv:aA)(dn:aY)(df:aA):Obj:=xK #[k,id,c,n,xI 0,xI 0,"",(),vv,dn,df,xI 0,"","","",xI 0,xI 0,"",""] 53
structure OpC(W:ax)(g:Nat)(k id:Int)(c n:aY)(vv:aA)(dn:aY)(df:aA):Prop where
 c0:W.cell? (g,0)=some (xI k)
 c1:W.cell? (g,1)=some (xI id)
 c2:W.cell? (g,2)=some (xS c)
 c3:W.cell? (g,3)=some (xS n)
 c4:W.cell? (g,4)=some (xI 0)
 c5:W.cell? (g,5)=some (xI 0)
 c6:W.cell? (g,6)=some (xS ())
 c7:W.cell? (g,7)=some (xL none 0 0)
 c8:W.cell? (g,8)=some vv
 c9:W.cell? (g,9)=some (xS dn)
 c10:W.cell? (g,10)=some df
 c11:W.cell? (g,11)=some (xI 0)
 c12:W.cell? (g,12)=some (xS ())
 c13:W.cell? (g,13)=some (xS ())
 c14:W.cell? (g,14)=some (xS ())
 c15:W.cell? (g,15)=some (xI 0)
 c16:W.cell? (g,16)=some (xI 0)
 c17:W.cell? (g,17)=some (xS ())
 c18:W.cell? (g,18)=some (xS ())
def bM {k:Int}{c n:aY}{vv:aA}{dn:aY}{df:aA}(h:bW W g (gU k id c n vv dn df)):OpC W g k id c n vv dn df:=by
 unfold gU at h;constructor<;>simp[World.cell?,h]
structure Tt(w:ax)(vv:aA)(dn:aY)(df:aA):Prop where
 vs:∃a n c,vv=xL a n c
 fs:∃a n c,df=xL a n c
 aZ:∀W,aC w W->xC 112 #[vv,vv] W (cu true W)
 cL:∀W,aC w W->xC 113 #[.agg #[dn,df], .agg #[dn,df]] W (cu true W)
theorem Tt.ae {vv:aA}{dn:aY}{df:aA}(h:Tt w vv dn df)(hb:aC w w'):Tt w' vv dn df:=
 ⟨h.vs,h.fs,λW k=>h.aZ W (hb.trans (k.mono hb.size)),λW k=>h.cL W (hb.trans (k.mono hb.size))⟩
def sK(w:ax):xC 112 #[(),()] w (cu true w):=u4 [] (by simp) (by simp) xF w _ (ab.nil _ _)
theorem Tt.nil(w:ax):Tt w () () ():=⟨⟨_,_,_,rfl⟩,⟨_,_,_,rfl⟩,λW _=>sK W,λW _=>pB _ _ _ _ _ W⟩
theorem Tt.list(hs:ab M w v l)(hf:∀y∈l,og y)(hl:l.length<=20):Tt w v () ():=⟨by have⟨a,c,e,_⟩:=hs.aq;exact⟨_,_,_,e⟩,⟨_,_,_,rfl⟩,λW hb=>u4 l hf hl M W v (hs.ae hb),λW _=>pB _ _ _ _ _ W⟩
def qe(k id:Int)(c n:aY)(vv:aA)(dn:aY)(df:aA)(w:ax)(h:Tt w vv dn df):
 xC 47 #[yr k id c n vv dn df,yr k id c n vv dn df] w (cu true w):=by
 obtain⟨⟨va,vn,vc,rfl⟩,⟨fa,fn,fc,rfl⟩,h1,h2⟩:=h;have H1:=ag h1;have H2:=ag h2;clear h1 h2;have HX:=ag (Bx.du w (gU k id c n (xL va vn vc) dn (xL fa fn fc)) (gU k id c n (xL va vn vc) dn (xL fa fn fc)));have⟨a0,a1,a2,a3,a4,a5,a6,a7,a8,a9,zN,a11,a12,a13,a14,a15,a16,a17,a18⟩:=bM (HX.o.bO rfl);have⟨b0,b1,b2,b3,b4,b5,b6,b7,b8,b9,b10,b11,b12,b13,b14,b15,b16,b17,b18⟩:=bM (HX.o.cg rfl);go_enter func47,ntmps47;go_upto_region 1 with fail;have⟨W1,hW1⟩:=bY ((w.alloc (gU k id c n (xL va vn vc) dn (xL fa fn fc))).alloc (gU k id c n (xL va vn vc) dn (xL fa fn fc)));have fp:=ag (show Bx w [gU k id c n (xL va vn vc) dn (xL fa fn fc),gU k id c n (xL va vn vc) dn (xL fa fn fc)] W1 by rw[hW1];exact HX.o);rw[<-hW1]at a0 a1 a2 a3 a4 a5 a6 a7 a8 a9 zN a11 a12 a13 a14 a15 a16 a17 a18 b0 b1 b2 b3 b4 b5 b6 b7 b8 b9 b10 b11 b12 b13 b14 b15 b16 b17 b18;unfold gU at hW1;rw[<-hW1];clear hW1 HX;go_wp2_with fail;refine cC (yq 0 0 () none none 0 0 _) λw1 hb1=> ?_;have eZ:=ag (fp.o.ae hb1);clear hb1 a0 a1 a2 a3 a4 a5 a6 a7 a8 a9 zN a11 a12 a13 a14 a15 a16 a17 a18 b0 b1 b2 b3 b4 b5 b6 b7 b8 b9 b10 b11 b12 b13 b14 b15 b16 b17 b18;have a8:=(bM (eZ.o.bO rfl)).c8;have b8:=(bM (eZ.o.cg rfl)).c8;go_wp2_with fail;refine cC (H1.o _ eZ.o.1) λw2 bE=> ?_;have ky:=ag (eZ.o.ae bE);clear bE a8 b8;have a9:=(bM (ky.o.bO rfl)).c9;have b9:=(bM (ky.o.cg rfl)).c9;have zN:=(bM (ky.o.bO rfl)).c10;have b10:=(bM (ky.o.cg rfl)).c10;go_wp2_with fail;refine cC (H2.o _ ky.o.1) λw3 hb3=> ?_;have nQ:=ag (ky.o.ae hb3);clear hb3 a9 b9 zN b10;obtain⟨-,-,-,-,-,-,-,-,-,-,-,a11,a12,a13,a14,a15,a16,a17,a18⟩:=bM (nQ.o.bO rfl);obtain⟨-,-,-,-,-,-,-,-,-,-,-,b11,b12,b13,b14,b15,b16,b17,b18⟩:=bM (nQ.o.cg rfl);go_wp2_with fail;refine cC (Ik _) λw4 eA=> ?_;have lE:=ag (nQ.o.ae eA);clear eA;go_wp2;go_ret;exact⟨rfl,lE.o.1⟩
end
end Go.Proofs.YtepaofffbkfodaaGreatDoor
