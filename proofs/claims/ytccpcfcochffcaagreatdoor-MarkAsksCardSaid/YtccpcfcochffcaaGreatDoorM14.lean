/- A part of MarkAsks's proof; no condition. -/
import Derived.Test.YtccpcfcochffcaaGreatDoorM11
import Derived.Shelf.Small.Utf8
import Derived.Lib.RuneCountTail
set_option linter.all false
set_option maxHeartbeats 8000000
set_option maxRecDepth 100000
namespace Go.Proofs.YtccpcfcochffcaaGreatDoor
open Tryz
variable{p m k h b X:Nat}{s:aT}{id:Int}{w W:aj}
section
open Go.RowKit Go.Shelf
def oG:Go.Shelf.Ren:=⟨λ|118=>313|n=>n,λ|21=>21|3=>3|4=>4|n=>n,λ|n=>n⟩
def EH:Go.Proofs.Lays.n118 prog oG:={
 mixed:=by kernel_rfl
 f118:=Tryz.func313.trans (congrArg some (by kernel_rfl))
 t3:=underlying3
 a3:=isAgg3
 z3:=sizeOf3
 v3:=zeroValue3
 t4:=underlying4
 a4:=isAgg4
 z4:=sizeOf4
 v4:=zeroValue4
 t21:=underlying21
 a21:=isAgg21
 z21:=sizeOf21
 v21:=zeroValue21}
def OX:oG.f 118=313:=by kernel_rfl
def Ir(r k:Nat)(h:(k=1/\32<=r/\r<127)\/(k=2/\r=233))(w:aj):xC 313 #[.int .i32 (r:Int)] w (gE (xI (k:Int)) w):=by
 have h1:=Any.utf8_RuneLen EH (r:Int) w;rw[OX]at h1;have e:Lib.runeLen (r:Int)=(k:Int):=by
  unfold Lib.runeLen;rcases h with⟨rfl,h1,h2⟩|⟨rfl,rfl⟩
  . (repeat' split)<;>first|rfl|(exfalso;omega)
  .decide
 rw[e]at h1;exact h1.mono λe w'⟨h1,h2⟩=>⟨h1,h2.symm⟩
def EI(s:aT)(p:Nat)(hp:p<s.size):∃r k:Nat,Utf8.decode s p=(r,k)/\1<=k/\p+k<=s.size:=by
 have h1:=Lib.tail_decode s p 0;have hl:s.data.toList.length=s.size:=bh s;have hd:(s.extract p s.size).data.toList=s.data.toList.drop p:=by
  simp;rw[Qah (by simp at hl⊢)]
 have h2:Lib.decodeL (s.data.toList.drop p)=Utf8.decode s p:=by
  rw[<-hd];have e:(⟨(s.extract p s.size).data.toList.toArray⟩:aT)=s.extract p s.size:=by rw[Array.toArray_toList]
  unfold Lib.decodeL;rw[e];exact h1
 have iG:s.data.toList.drop p≠[]:=by
  intro e;have:=congrArg List.length e;simp only[List.length_drop,Qcd]at this;omega
 have h3:=Lib.decodeL_le _ iG;have h4:=Lib.decodeL_width (s.data.toList.drop p);rw[h2]at h3 h4;rw[List.length_drop]at h3;exact⟨(Utf8.decode s p).1,(Utf8.decode s p).2,rfl,h4,by omega⟩
def kx(n:Int):an:= .agg #[xI 1,xI n,xS ⟨#[]⟩,xL none 0 0]
def uP(n:Int):Prop:= -1000000000000000<=n/\n<=1000000000000000
def ju(v:an)(_:aj):Prop:=∃n,uP n/\v=kx n
def VZ(n:Int):uP (max (-1000000000000000) (min n 1000000000000000)):=by unfold uP;omega
def jw(n:Int)(w:aj):xG 284 #[xI n] w ju:=by
 go_enter func284,ntmps284;go_wp2_with fail;refine Qae (v:=kx (max (-1000000000000000) (min n 1000000000000000))) (by simp[results,results284,go_sem,kx]) rfl (show bW w ju _ _ from⟨_,rfl,⟨_,VZ n,rfl⟩,?_⟩);exact bO
def UG(w:aj)(b:Nat)(e:Ending)(w':aj):Prop:=∃n:Nat,n<=b/\e=xR (xI n)/\aq w w'
def EJ(s:aT)(hs:s.size<=1000)(w:aj):xC 285 #[xS s] w (UG w s.size):=by
 have HD:Hd (∀p,p<s.size->∃r k:Nat,Utf8.decode s p=(r,k)/\1<=k/\p+k<=s.size):=EI s;go_enter func285,ntmps285;go_wp2;go_loopg [3](s.size+1)(λg r3 wr=>∃p n:Nat,p<=s.size/\n<=p/\g=s.size+1-p/\r3=xI n/\wr=w.iter s p);case atStart=>exact⟨0,0,Qbf _,bq,rfl,rfl,rfl⟩
 case round=>
  obtain⟨p,n,hp,hn,rfl,rfl,rfl⟩:=hrel;by_cases aX:p<s.size
  .obtain⟨r,k,hd,qM,si⟩:=HD.o p aX;have hx:=run_next_any (P:=prog) w s p 0 aX;rw[hd]at hx;dsimp only at hx;go_wp2;go_roundg(s.size+1-(p+k));case measure=>omega
   case rel=>exact⟨p+k,n+1,by omega,by omega,rfl,by go_num,rfl⟩
  .have hx:=run_next_end (P:=prog) w s p 0 aX;go_wp2;go_ret;exact(show UG _ _ _ _ from⟨n,by omega,rfl,bO⟩)
def EK(w:aj)(s:aT)(e:Ending)(w':aj):Prop:=∃p:Nat,qG s p/\e=xR (xI p)/\aq w w'
def Bv(s:aT)(h:iD s.data.toList)(hs:s.size<=1000)(n:Int)(w:aj):xC 288 #[xS s,xI n] w (EK w s):=by
 have HS:=af h;go_enter func288,ntmps288;go_wp2;go_loopg [5,6](s.size+1)(λg r5 _ wr=>∃p k:Nat,p<=s.size/\k<=p/\g=s.size+1-p/\r5=xI k/\wr=w.iter s p/\Hd (qG s p));case atStart=>exact⟨0,0,Qbf _,bq,rfl,rfl,rfl,(uL HS.o)⟩
 case round=>
  obtain⟨p,k,hp,hk,rfl,rfl,rfl,HA⟩:=hrel;by_cases aX:p<s.size
  .obtain⟨r,j,hd,hj,T5⟩:=HA.o.step aX;have hx:=run_next_any (P:=prog) w s p 0 aX;rw[hd]at hx;dsimp only at hx;have hj1:1<=j:=by omega
   have hA3:=T5.1;have kj:=af T5;by_cases Wu:n<=(k:Int)
   .go_wp2;go_ret;exact(show EK _ _ _ _ from⟨p,HA.o,rfl,bO⟩)
   .go_wp2;go_roundg(s.size+1-(p+j));case measure=>omega
    case rel=>exact⟨p+j,k+1,hA3,by omega,rfl,by go_num,rfl,kj⟩
  .have hx:=run_next_end (P:=prog) w s p 0 aX;have hpe:p=s.size:=by omega
   subst hpe;go_wp2;go_ret;exact(show EK _ _ _ _ from⟨s.size,HA.o,rfl,bO⟩)
def mQ(s:aT):an:= .agg #[xI 2,xI 0,xS s,xL none 0 0]
def eZ(v:an)(_:aj):Prop:=∃s,fN s/\v=mQ s
def OY(h:qG s p)(hp:p<=60):fN (s.extract 0 p):=by
 have h0:=h.1;refine⟨by simp;omega,?_⟩;have:=h.take;simpa using this
def sN(s:aT)(h:iD s.data.toList)(hs:s.size<=1000)(w:aj):xG 287 #[xS s] w eZ:=by
 have HS:=af h;clear h;go_enter func287,ntmps287;go_wp2_with fail;obtain⟨w0,Ds⟩:=cM (w.alloc (xK iN 30));have HB:=af (show Bx w [xK iN 30] w0 by rw[Ds];exact Bx.dR w _);have hsz:=HB.o.bY;simp only[Qcc,Qcd]at hsz;have dX:w0.heap.size=w.heap.size+1:=by rw[Ds];simp
 rw[<-Ds];clear Ds;have NU:=af dX;clear dX;go_loopg [3,4](s.size+1)(λg _ _ wr=>∃p:Nat,p<=s.size/\p<=60/\g=s.size+1-p/\wr=w0.iter s p/\Hd (qG s p));case atStart=>exact⟨0,Qbf _,by omega,rfl,rfl,(uL HS.o)⟩
 case round=>
  obtain⟨p,hp,qdz,rfl,rfl,HA⟩:=hrel;have aO:Hd (Bx w [xK iN 30] (w0.iter s p)):=HB.o.alloc _;obtain⟨c0,c1,c2,c3⟩:=ae (aO.o.bJ rfl);obtain⟨f0,f1,f2,f3⟩:=ic (aO.o.bJ rfl);by_cases aX:p<s.size
  .obtain⟨r,j,hd,hj,T5⟩:=HA.o.step aX;have hx:=run_next_any (P:=prog) w0 s p 0 aX;rw[hd,NU.o]at hx;dsimp only at hx;have HR:Hd (∀W,xC 313 #[.int .i32 (r:Int)] W (gE (xI (j:Int)) W)):=λW=>Ir r j hj W;have hj1:1<=j/\j<=2:=by omega
   have aL:Hd (Bx w [xK iN 30] (w0.iter s (p+j))):=HB.o.alloc _;obtain⟨d0,d1,d2,d3⟩:=ae (aL.o.bJ rfl);obtain⟨g0,g1,g2,g3⟩:=ic (aL.o.bJ rfl);have hA3:=T5.1;have kj:=af T5;clear hd hj T5;go_wp2_with fail;refine dJ (HR.o _) ?_;by_cases Sd:p+j<=60
   .have hz:¬(60:Int)<(p:Int)+(j:Int):=by omega
    go_wp2;go_roundg(s.size+1-(p+j));case measure=>omega
    case rel=>exact⟨p+j,hA3,Sd,rfl,rfl,kj⟩
   .have hz:(60:Int)<(p:Int)+(j:Int):=by omega
    go_wp2_with fail;refine Qae (v:=mQ (s.extract 0 p)) (by simp[results,results287,go_sem,mQ,d0,d1,d2,d3]) rfl (show bW w eZ _ _ from⟨_,rfl,⟨_,OY HA.o qdz,rfl⟩,?_⟩);exact(((aL.o.1.setCell (by simp) _).setCell (by simp) _).setCell (by simp) _).setCell (by simp) _
  .have hx:=run_next_end (P:=prog) w0 s p 0 aX;rw[NU.o]at hx;have Sd:s.size<=60:=by omega
   go_wp2_with fail;refine Qae (v:=mQ s) (by simp[results,results287,go_sem,mQ,c0,c1,c2,c3]) rfl (show bW w eZ _ _ from⟨_,rfl,⟨_,⟨Sd,HS.o⟩,rfl⟩,?_⟩);exact(((aO.o.1.setCell (by simp) _).setCell (by simp) _).setCell (by simp) _).setCell (by simp) _
end
section
open Go.RowKit
def qV(w:aj)(e:Ending)(w':aj):Prop:=∃x:Int,e=xR (xI x)/\w=w'
def gk(w:aj)(e:Ending)(w':aj):Prop:=∃x:Int,e=xR (xI x)/\aq w w'
def OZ(w:aj)(e:Ending)(w':aj):Prop:=∃b:Bool,e=xR (xB b)/\w=w'
def SZ(n:Int)(w:aj):xC 172 #[xI n] w (gE (xB false) w):=by
 have h:((n:Int)!=n)=false:=by simp
 go_enter func172,ntmps172;go_wp2;go_ret;exact⟨by simp,rfl⟩
def S0(s:aT)(w:aj):xC 193 #[xS s] w (gE (xB false) w):=by
 go_enter func193,ntmps193;go_wp2;go_ret;exact⟨by simp,rfl⟩
def S2(a b:Int)(w:aj):xC 160 #[xI a,xI b] w (qV w):=by
 rcases Int.lt_trichotomy a b with h|h|h;all_goals
  go_enter func160,ntmps160;go_wp2_with fail;refine dJ (SZ _ _) ?_;go_wp2_with fail;refine dJ (SZ _ _) ?_;go_wp2;go_ret;exact(show qV _ _ _ from⟨_,rfl,rfl⟩)
def Bw(a:Int)(w:aj):xC 160 #[xI a,xI a] w (gE (xI 0) w):=by
 have h:¬a<a:=by omega
 go_enter func160,ntmps160;go_wp2_with fail;refine dJ (SZ _ _) ?_;go_wp2_with fail;refine dJ (SZ _ _) ?_;go_wp2;go_ret;exact⟨rfl,rfl⟩
def Is(w:aj):xC 161 #[xS ⟨#[]⟩,xS ⟨#[]⟩] w (gE (xI 0) w):=by
 go_enter func161,ntmps161;go_wp2_with fail;refine dJ (S0 _ _) ?_;go_wp2_with fail;refine dJ (S0 _ _) ?_;go_wp2;go_ret;exact⟨rfl,rfl⟩
def sO(a b:dC)(c d:Nat)(fv:an)(w:aj):xC 162 #[xL a 0 c,xL b 0 d,fv] w (gE (xI 0) w):=by
 go_enter func162,ntmps162;go_wp2_with fail;go_loop [7,14](λ_ i=>i=xI 0)(λ_ _=>0);case atStart=>exact rfl
 case round=>
  subst hrel;go_wp2_with fail;refine dJ (Bw 0 _) ?_;go_wp2;go_ret;exact⟨rfl,rfl⟩
def EL(m n:Int)(a b:dC)(c d:Nat)(w:aj):
 xC 114 #[.agg #[xI 1,xI m,xS ⟨#[]⟩,xL a 0 c], .agg #[xI 1,xI n,xS ⟨#[]⟩,xL b 0 d]] w (gk w):=by
 go_enter func114,ntmps114;go_wp2_with fail;refine dJ (Bw _ _) ?_;go_wp2_with fail;refine(S2 _ _ _).mono ?_;rintro e w'⟨x,rfl,rfl⟩;by_cases hx:x=0
 .subst hx;go_wp2_with fail;refine dJ (Is _) ?_;go_wp2_with fail;refine dJ (sO _ _ _ _ _ _) ?_;go_wp2;go_ret;exact(show gk _ _ _ from⟨_,rfl,(Bx.dh w _ _).1⟩)
 .have hb:(x !=0)=true:=by simpa using hx
  go_wp2;go_ret;exact(show gk _ _ _ from⟨_,rfl,(Bx.dh w _ _).1⟩)
def By(s:List UInt8)(hs:s=[61]\/s=[62])(c:Int)(w:aj):xC 321 #[xS ⟨s.toArray⟩,xI c] w (OZ w):=by
 rcases hs with rfl|rfl;all_goals
  go_enter func321,ntmps321;go_wp2;go_ret;exact(show OZ _ _ _ from⟨_,rfl,rfl⟩)
def S3 {a:Int}(h:a≠0):max a (-a)≠0:=by omega
def EM(a b:Int)(ha:uP a)(hb:uP b)(w:aj):xC 319 #[xI a,xI b] w (qV w):=by
 obtain⟨a1,a2⟩:=ha;obtain⟨b1,b2⟩:=hb;by_cases h0:a=0
 .subst h0;go_enter func319,ntmps319;go_wp2;go_ret;exact(show qV _ _ _ from⟨_,rfl,rfl⟩)
 .have e0:(a==0)=false:=by simpa using h0
  have hm:=S3 h0;have YN:max a (-a)<=1000000000000000:=by omega
  have hm3:0<max a (-a):=by omega
  go_enter func319,ntmps319;go_wp2_with fail;all_goals
   go_ret;exact(show qV _ _ _ from⟨_,rfl,rfl⟩)
def CG(a b:Int)(ha:uP a)(hb:uP b)(w:aj):xC 320 #[xS ⟨#[47]⟩,xI a,xI b] w (qV w):=by
 obtain⟨a1,a2⟩:=ha;obtain⟨b1,b2⟩:=hb;by_cases h0:b=0
 .subst h0;go_enter func320,ntmps320;go_wp2;go_ret;exact(show qV _ _ _ from⟨_,rfl,rfl⟩)
 .have e0:(b==0)=false:=by simpa using h0
  go_enter func320,ntmps320;go_wp2;go_ret;exact(show qV _ _ _ from⟨_,rfl,rfl⟩)
def O0(a b:aT)(w:aj):xC 161 #[xS a,xS b] w (qV w):=by
 go_enter func161,ntmps161;go_wp2_with fail;refine dJ (S0 _ _) ?_;go_wp2_with fail;refine dJ (S0 _ _) ?_;go_wp2_with fail;all_goals
  go_ret;exact(show qV _ _ _ from⟨_,rfl,rfl⟩)
def jl(k n:Int)(s:aT)(a:dC)(len c:Nat):an:= .agg #[xI k,xI n,xS s,xL a len c]
def It(k1 k2 n1 n2:Int)(s1 s2:aT)(a1 a2:dC)(l1 l2 c1 c2:Nat)(w:aj)
 (hI:∀W,aq w W->xC 162 #[xL a1 l1 c1,xL a2 l2 c2, .func (.func 114) #[] #[]] W (gk W)):
 xC 114 #[jl k1 n1 s1 a1 l1 c1,jl k2 n2 s2 a2 l2 c2] w (gk w):=by
 unfold jl;have HI:=af hI;go_enter func114,ntmps114;go_wp2_with fail;refine(S2 _ _ _).mono ?_;rintro e w'⟨x,rfl,rfl⟩;rcases Decidable.em (x=0)with rfl|hx;rotate_left
 .have hb:(x !=0)=true:=by simpa using hx
  go_wp2;go_ret;exact(show gk _ _ _ from⟨_,rfl,(Bx.dh w _ _).1⟩)
 go_wp2_with fail;refine(S2 _ _ _).mono ?_;rintro e w'⟨x,rfl,rfl⟩;rcases Decidable.em (x=0)with rfl|hx;rotate_left
 .have hb:(x !=0)=true:=by simpa using hx
  go_wp2;go_ret;exact(show gk _ _ _ from⟨_,rfl,(Bx.dh w _ _).1⟩)
 go_wp2_with fail;refine(O0 _ _ _).mono ?_;rintro e w'⟨x,rfl,rfl⟩;rcases Decidable.em (x=0)with rfl|hx;rotate_left
 .have hb:(x !=0)=true:=by simpa using hx
  go_wp2;go_ret;exact(show gk _ _ _ from⟨_,rfl,(Bx.dh w _ _).1⟩)
 go_wp2_with fail;refine(HI.o _ (Bx.dh w _ _).1).mono ?_;rintro e w'⟨x,rfl,hb⟩;have HB:=af ((Bx.dh w _ _).below hb);go_wp2;go_ret;exact(show gk _ _ _ from⟨_,rfl,HB.o.1⟩)
def iW(k1 k2 n1 n2:Int)(s1 s2:aT)(a1 a2:dC)(c1 c2:Nat)(w:aj):xC 114 #[jl k1 n1 s1 a1 0 c1,jl k2 n2 s2 a2 0 c2] w (gk w):=
 It k1 k2 n1 n2 s1 s2 a1 a2 0 0 c1 c2 w λW _=>(sO a1 a2 c1 c2 _ W).mono (by rintro e w'⟨rfl,rfl⟩;exact(show gk _ _ _ from⟨_,rfl,dK⟩))
section
variable {M:aS}{w:aj}{l1 l2:List au}{a1 a2:dC}{c1 c2:Nat}
end
end
section
open Go.RowKit Go.Shelf
structure rI where
 k:Int
 n:Int
 s:aT
 a:Option Addr
 len:Nat
 cap:Nat
def rI.val(x:rI):an:= .agg #[xI x.k,xI x.n,xS x.s,xL x.a x.len x.cap]
instance:aA rI where
 size:=4
 rep:=λ_ _ cs x=>cs=[xI x.k,xI x.n,xS x.s,xL x.a x.len x.cap]/\x.s.size<=maxLen
 len:=λh=>by rw[h.1];rfl
 flat:=λh u hu=>by rw[h.1]at hu;simp at hu;rcases hu with rfl|rfl|rfl|rfl<;>rfl
 ev:=λh _=>h
def nN(e:Ending):Prop:=∃b,e=xR (xB b)
def dN(b:Bool):nN (xR (xB b)):=⟨b,rfl⟩
def Mc(r:Int)(w:aj):xC 166 #[.int .i32 r] w λe w'=>nN e/\w=w':=by
 by_cases h1:32<=r
 .by_cases h2:(r !=127)=true
  .go_enter func166,ntmps166;go_wp2;go_ret;exact⟨dN _,rfl⟩
  .have h2:(r !=127)=false:=by simpa using h2
   go_enter func166,ntmps166;go_wp2;go_ret;exact⟨dN _,rfl⟩
 .go_enter func166,ntmps166;go_wp2;go_ret;exact⟨dN _,rfl⟩
def AA(s:aT)(hs:s.size<=maxLen)(w:aj)(hT:Tb w):xC 118 #[xS s] w λe w'=>nN e/\aq w w':=by
 have hs':s.size<=9223372036854775807:=by unfold maxLen at hs;omega
 by_cases Sd:s.size<=60
 .have HT:=af hT;have HV:Hd (∀W,Tb W->_):=λW hT=>Bo s W hs' hT;go_enter func118,ntmps118;go_wp2_with fail;refine cG (HV.o _ HT.o) λw1 aC=> ?_;have aO:=af aC;generalize Lib.validD s.data.toList=vb;cases vb
  .go_wp2;go_ret;exact⟨dN _,aO.o⟩
  .go_wp2;go_loopg [4](s.size+1)(λg _ wr=>∃p:Nat,g=s.size+1-p/\wr=w1.iter s p);case atStart=>exact⟨0,rfl,rfl⟩
   case round=>
    obtain⟨p,rfl,rfl⟩:=hrel;by_cases aX:p<s.size
    .have hk:=Lib.decode_width_pos s p aX;have hn:=run_next_any (P:=prog) w1 s p 0 aX;generalize Utf8.decode s p=rk at hn hk;obtain⟨r,k⟩:=rk;dsimp only at hn hk;go_wp2_with fail;refine(Mc _ _).mono ?_;rintro e w'⟨⟨b,rfl⟩,rfl⟩;cases b
     .go_wp2;go_ret;exact⟨dN _,aO.o.alloc aO.o.size _⟩
     .go_wp2;go_roundg(s.size+1-(p+k));case measure=>omega
      case rel=>exact⟨p+k,rfl,rfl⟩
    .have hn:=run_next_end (P:=prog) w1 s p 0 aX;go_wp2;go_ret;exact⟨dN _,aO.o.alloc aO.o.size _⟩
 .clear hT;have qgx:(60:Int)<(s.size:Int):=by omega
  go_enter func118,ntmps118;go_wp2;go_ret;exact⟨dN _,dK⟩
def RS(p:Prop)(e:Ending):Prop:=∃b,e=xR (xB b)/\(b=true->p)
def fA(p:Prop):RS p (xR (xB false)):=⟨_,rfl,λh=>by cases h⟩
def ij {p:Prop}(h:p)(b:Bool):RS p (xR (xB b)):=⟨_,rfl,λ_=>h⟩
def CH(n:Nat):Prop:=n=0
def O1(x:rI)(w:aj):xC 117 #[x.val] w λe w'=>RS (CH x.len) e/\aq w w':=by
 obtain⟨k,n,s,a,len,cap⟩:=x;unfold rI.val;dsimp only;by_cases hs:s.toList=[];rotate_left
 .go_enter func117,ntmps117;go_wp2;go_ret;exact⟨fA _,bO⟩
 .by_cases hl:len=0
  .subst hl;go_enter func117,ntmps117;go_wp2;go_ret;exact⟨ij (p:=CH 0) rfl _,bO⟩
  .have hl':((len:Int)==0)=false:=by simp;omega
   go_enter func117,ntmps117;go_wp2;go_ret;exact⟨⟨_,rfl,λh=>by simp[hl']at h⟩,bO⟩
def EN(n:Int)(w:aj):xC 119 #[xI n] w λe w'=>nN e/\w=w':=by
 by_cases h1:1<=n<;>by_cases h2:n<=100000<;>by_cases h3: -20<=n<;>by_cases h4:n<=-1;all_goals first|(exfalso;omega)|skip
 all_goals
  go_enter func119,ntmps119;go_wp2;go_ret;exact⟨dN _,rfl⟩
end
section
open Go.RowKit
def SgN(m:Nat)(e:Ending):Prop:=∃n:Nat,n<=m/\e=xR (xI n)
def sgN(n:Nat)(h:n<=m):SgN m (xR (xI n)):=⟨n,h,rfl⟩
def O2(m:Nat):SgN m (xR (xI 0)):=sgN 0 (Qbf _)
def lZ(v:an):Prop:=∃b,v=xB b
def qcy(v u:an):Prop:=∃x y:Int,v=xI x/\u=xI y
def ZH(v:an):Prop:=∃n:Nat,n<=4/\n≠1/\v=xI n
def O3(s:aT)(w:aj)(hs:s.size<=maxLen):xC 194 #[xS s] w λe w'=>SgN s.size e/\w=w':=by
 unfold maxLen at hs;by_cases h0:s.size=0
 .go_enter func194,ntmps194;go_wp2;go_ret;exact⟨O2 _,rfl⟩
 have hz:((s.size:Int)==0)=false:=by simp only[beq_eq_false_iff_ne,ne_eq];omega
 have hp:0<s.size:=by omega
 clear h0;obtain⟨c,hc⟩:=fx (s[0]);have B9:(c.toNat:Int)<=255:=by have:=c.toNat_lt;omega
 by_cases qgy:(c.toNat:Int)<128
 .go_enter func194,ntmps194;go_wp2;go_ret;exact⟨sgN 1 hp,rfl⟩
 go_enter func194,ntmps194;go_upto_region 9 with fail;go_cut [21](λv wx=>lZ v/\w=wx);case first=>
  go_wp2_with fail;all_goals
   go_meet;exact⟨⟨_,rfl⟩,rfl⟩
 case rest=>
 obtain⟨⟨b,rfl⟩,rfl⟩:=hcut;go_upto_if 21 with fail;go_cut [4](λv wx=>ZH v/\w=wx);case first=>
  cases b;all_goals
   go_wp2;go_meet;exact⟨⟨_,by decide,by decide,rfl⟩,rfl⟩
 case rest=>
 obtain⟨⟨n,Y2,vj,rfl⟩,rfl⟩:=hcut;clear b;go_upto_region 11 with fail;go_cut [27](λv wx=>lZ v/\w=wx);case first=>
  go_wp2_with fail;all_goals
   go_meet;exact⟨⟨_,rfl⟩,rfl⟩
 case rest=>
 obtain⟨⟨b,rfl⟩,rfl⟩:=hcut;go_upto_if 27 with fail;go_cut [4](λv wx=>ZH v/\w=wx);case first=>
  have hg:=af (show ZH (xI n)from⟨n,Y2,vj,rfl⟩);cases b;all_goals
   go_wp2;go_meet
  .exact⟨hg.o,rfl⟩
  .exact⟨⟨3,by decide,by decide,rfl⟩,rfl⟩
 case rest=>
 clear b Y2 vj n;obtain⟨⟨n,Y2,vj,rfl⟩,rfl⟩:=hcut;go_upto_region 13 with fail;go_cut [33](λv wx=>lZ v/\w=wx);case first=>
  go_wp2_with fail;all_goals
   go_meet;exact⟨⟨_,rfl⟩,rfl⟩
 case rest=>
 obtain⟨⟨b,rfl⟩,rfl⟩:=hcut;go_upto_if 33 with fail;go_cut [4](λv wx=>ZH v/\w=wx);case first=>
  have hg:=af (show ZH (xI n)from⟨n,Y2,vj,rfl⟩);cases b;all_goals
   go_wp2;go_meet
  .exact⟨hg.o,rfl⟩
  .exact⟨⟨4,by decide,by decide,rfl⟩,rfl⟩
 case rest=>
 clear b Y2 vj n;obtain⟨⟨n,Y2,vj,rfl⟩,rfl⟩:=hcut;by_cases tN:n=0
 .subst tN;go_wp2;go_ret;exact⟨O2 _,rfl⟩
 have hnz:((n:Int)==0)=false:=by simp;omega
 have h2:2<=n:=by omega
 clear tN;by_cases hsn:s.size<n
 .go_wp2;go_ret;exact⟨O2 _,rfl⟩
 have dB:1<s.size:=by omega
 obtain⟨d,hd⟩:=fx (s[1]);have Nn:(d.toNat:Int)<=255:=by have:=d.toNat_lt;omega
 go_upto_block 0 with fail;go_cut [5,6](λv u wx=>qcy v u/\w=wx);case first=>
  go_wp2_with fail;all_goals
   go_meet;exact⟨⟨_,_,rfl,rfl⟩,rfl⟩
 case rest=>
 obtain⟨⟨lo,hi,rfl,rfl⟩,rfl⟩:=hcut;go_upto_region 26 with fail;go_cut [62](λv wx=>lZ v/\w=wx);case first=>
  go_wp2_with fail;all_goals
   go_meet;exact⟨⟨_,rfl⟩,rfl⟩
 case rest=>
 obtain⟨⟨b,rfl⟩,rfl⟩:=hcut;cases b;rotate_left
 .go_wp2;go_ret;exact⟨O2 _,rfl⟩
 go_wp2;go_loopg [7](n-2)(λg iv wr=>∃i:Nat,i<=n/\g=n-i/\iv=xI i/\w=wr);case atStart=>exact⟨2,h2,rfl,rfl,rfl⟩
 case round=>
  obtain⟨i,hi,rfl,rfl,rfl⟩:=hrel;by_cases aX:i<n
  .have his:i<s.size:=by omega
   obtain⟨x,hx⟩:=fx (s[i]);have Dp:(x.toNat:Int)<=255:=by have:=x.toNat_lt;omega
   go_upto_region 31 with fail;go_cut [77](λv wx=>lZ v/\w=wx);case first=>
    go_wp2_with fail;all_goals
     go_meet;exact⟨⟨_,rfl⟩,rfl⟩
   case rest=>
   obtain⟨⟨b,rfl⟩,rfl⟩:=hcut;cases b
   .go_wp2;go_roundg(n-(i+1));case measure=>omega
    case rel=>exact⟨i+1,by omega,rfl,by go_num,rfl⟩
   .go_wp2;go_ret;exact⟨O2 _,rfl⟩
  .go_wp2;go_ret;exact⟨sgN n (by omega),rfl⟩
def Iu(s:aT)(w:aj)(hs:s.size<=maxLen):xC 164 #[xS s] w λe w'=>nN e/\w=w':=by
 unfold maxLen at hs;go_enter func164,ntmps164;go_wp2;go_loopg [3,4]s.size(λg iv _ wr=>∃i:Nat,g=s.size-i/\i<=s.size/\iv=xI i/\w=wr);case atStart=>exact⟨0,rfl,by omega,rfl,rfl⟩
 case round=>
  obtain⟨i,rfl,hi,rfl,rfl⟩:=hrel;by_cases aX:i<s.size
  .obtain⟨x,hx⟩:=fx (s[i]);have Dp:(x.toNat:Int)<=255:=by have:=x.toNat_lt;omega
   have HS:Hd (∀W,_):=λW=>O3 (s.extract i s.size) W (by unfold maxLen;simp;omega);go_wp2_with fail;refine(HS.o _).mono ?_;rintro e w'⟨⟨n,hn,rfl⟩,rfl⟩;rw[ByteArray.size_extract]at hn;have hw:IntKind.i64.wrap ((i:Int)+(n:Int))=((i+n:Nat):Int):=Qbe _ (by omega);by_cases tN:n=0
   .subst tN;go_wp2;go_ret;exact⟨dN _,rfl⟩
   have hnz:((n:Int)==0)=false:=by simp;omega
   go_upto_region 4 with fail;go_cut [26](λv wx=>lZ v/\w=wx);case first=>
    go_wp2_with fail;all_goals
     go_meet;exact⟨⟨_,rfl⟩,rfl⟩
   case rest=>
   obtain⟨⟨b,rfl⟩,rfl⟩:=hcut;cases b
   .go_wp2;go_roundg(s.size-(i+n));case measure=>omega
    case rel=>exact⟨i+n,rfl,by omega,by go_num,rfl⟩
   .go_wp2;go_ret;exact⟨dN _,rfl⟩
  .go_wp2;go_ret;exact⟨dN _,rfl⟩
end
section
open Go.RowKit Go.Shelf
def kZ(x:rI)(hk:x.k≠5)(hs:x.s.size<=maxLen)(w:aj)(hT:Tb w):
 xC 71 #[x.val] w λe w'=>RS (CH x.len) e/\aq w w':=by
 have HT:=af (λo=>hT.below (w':=w.alloc o) bO);obtain⟨k,n,s,a,len,cap⟩:=x;unfold rI.val;dsimp only at*;have DR:Hd (∀W:aj,_):=λW=>O1 ⟨k,n,s,a,len,cap⟩ W;unfold rI.val at DR;dsimp only at DR;have HR:Hd (∀W,Tb W->_):=λW hT=>AA s hs W hT;clear hT hs;by_cases h0:k=0
 .clear hk;subst h0;rcases Decidable.em (n=0)with rfl|hn;all_goals
   go_enter func71,ntmps71;go_wp2_with fail;refine(DR.o _).mono ?_;rintro e w1⟨⟨b,rfl,hb⟩,aC⟩;obtain⟨g0,g1,g2,g3⟩:=ae (boxed aC);have HB:=af (aQ aC);cases b
   .clear aC hb;go_wp2;go_ret;exact⟨fA _,HB.o⟩
   .have HI:Hd (CH len):=hb rfl;clear aC hb;go_wp2;go_ret;exact⟨ij HI.o _,HB.o⟩
 by_cases h1:k=1
 .clear h0 hk;subst h1;by_cases vj: -1000000000000000<=n<;>by_cases Cd:n<=1000000000000000;all_goals first|(exfalso;omega)|skip
  all_goals
   go_enter func71,ntmps71;go_wp2_with fail;refine(DR.o _).mono ?_;rintro e w1⟨⟨b,rfl,hb⟩,aC⟩;obtain⟨g0,g1,g2,g3⟩:=ae (boxed aC);have HB:=af (aQ aC);cases b
   .clear aC hb;go_wp2;go_ret;exact⟨fA _,HB.o⟩
   .have HI:Hd (CH len):=hb rfl;clear aC hb;go_wp2;go_ret;exact⟨ij HI.o _,HB.o⟩
 by_cases wR:k=3\/k=4
 .clear h0 h1 hk;rcases wR with rfl|rfl;all_goals
   go_enter func71,ntmps71;go_wp2_with fail;refine(DR.o _).mono ?_;rintro e w1⟨⟨b,rfl,hb⟩,aC⟩;obtain⟨g0,g1,g2,g3⟩:=ae (boxed aC);have HB:=af (aQ aC);cases b
   .clear aC hb;go_wp2;go_ret;exact⟨fA _,HB.o⟩
   .have HI:Hd (CH len):=hb rfl;clear aC hb;go_wp2_with fail;refine(EN n _).mono ?_;rintro e w2⟨⟨b,rfl⟩,rfl⟩;go_wp2;go_ret;exact⟨ij HI.o _,HB.o⟩
 by_cases h2:k=2
 .clear h0 h1 wR hk;subst h2;rcases Decidable.em (n=0)with rfl|hn
  .rcases Decidable.em (len=0)with rfl|hl
   .go_enter func71,ntmps71;go_wp2_with fail;refine(HR.o _ (HT.o _)).mono ?_;rintro e w1⟨⟨b,rfl⟩,aC⟩;have HB:=af (aQ aC);clear aC;go_wp2;go_ret;exact⟨ij (p:=CH 0) rfl _,HB.o⟩
   .have hl':((len:Int)==0)=false:=by simp;omega
    go_enter func71,ntmps71;go_wp2;go_ret;exact⟨fA _,bO⟩
  .go_enter func71,ntmps71;go_wp2;go_ret;exact⟨fA _,bO⟩
 .have h3:¬k=3:=λh=>wR (.inl h);have h4:¬k=4:=λh=>wR (.inr h);have h5:¬k=5:=hk;clear wR hk;go_enter func71,ntmps71;go_wp2;go_ret;exact⟨fA _,bO⟩
def qX(x:rI)(hk:x.k≠5)(hs:x.s.size<=maxLen)(w:World):
 xC 116 #[x.val] w λe w'=>RS (CH x.len) e/\aq w w':=by
 obtain⟨k,n,s,a,len,cap⟩:=x;unfold rI.val;dsimp only at*;have HR:Hd (∀W,_):=(show∀W,_ fromλW=>Iu s W hs);have HB:Hd (∀v,_):=(show∀v,aq w (w.alloc v)fromλv=>bO);clear hs;have La:k=0\/k=1\/k=2\/k=3\/k=4\/(k≠0/\k≠1/\k≠2/\k≠3/\k≠4):=by omega
 by_cases hl:len=0
 .subst hl;have HY:Hd (∀b,_):=(show∀b,_ fromλb=>ij (p:=CH 0) rfl b);rcases La with rfl|rfl|rfl|rfl|rfl|⟨k0,k1,k2,k3,k4⟩;rotate_left 2
  .go_enter func116,ntmps116;go_wp2_with fail;refine(HR.o _).mono ?_;rintro e w'⟨⟨b,rfl⟩,rfl⟩;cases b;all_goals
    go_wp2_with fail;all_goals
     go_ret;exact⟨HY.o _,HB.o _⟩
  rotate_right 2;all_goals
   go_enter func116,ntmps116;go_wp2_with fail;all_goals
    go_ret;exact⟨HY.o _,HB.o _⟩
 .have hl':((len:Int)==0)=false:=by simp;omega
  clear hl;rcases La with rfl|rfl|rfl|rfl|rfl|⟨k0,k1,k2,k3,k4⟩;rotate_left 2
  .go_enter func116,ntmps116;go_wp2_with fail;refine(HR.o _).mono ?_;rintro e w'⟨⟨b,rfl⟩,rfl⟩;cases b;all_goals
    go_wp2_with fail;all_goals
     go_ret;exact⟨fA _,HB.o _⟩
  rotate_right 2;all_goals
   go_enter func116,ntmps116;go_wp2_with fail;all_goals
    go_ret;exact⟨fA _,HB.o _⟩
end
section
open Go.RowKit
def ng(p:ec):an:= .agg #[xI p.k,xI p.n,xS p.s,xL p.a 0 p.c,xI p.id]
def B8(p q:ec)(w:aj):xC 188 #[ng p,ng q] w (gk w):=by
 obtain⟨k,n,s,a,c,i⟩:=p;obtain⟨k',n',s',a',c',i'⟩:=q;unfold ng;dsimp only;have HC:Hd (∀W,_):=λW=>iW k k' n n' s s' a a' c c' W;unfold jl at HC;go_enter func188,ntmps188;go_wp2_with fail;refine(HC.o _).mono ?_;rintro e w1⟨x,rfl,hb⟩;have HB:=af ((Bx.dh w (xK #[xI k,xI n,xS s,xL a 0 c,xI i] 238) (xK #[xI k',xI n',xS s',xL a' 0 c',xI i'] 238)).below hb);have c4:pd w1 w 4 (xI i):=cell_of_heap (HB.o.bJ rfl) rfl;have d4:DD w1 w 4 (xI i'):=cell_of_heap (HB.o.cE rfl) rfl;rcases Decidable.em (x=0)with rfl|hx;rotate_left
 .have hb:(x !=0)=true:=by simpa using hx
  go_wp2;go_ret;exact(show gk _ _ _ from⟨_,rfl,HB.o.1⟩)
 go_wp2_with fail;refine(S2 _ _ _).mono ?_;rintro e w'⟨x,rfl,rfl⟩;go_wp2;go_ret;exact(show gk _ _ _ from⟨_,rfl,HB.o.1⟩)
def tL {t t':Tr}{nb:Nat}(hp:t'.cells.Perm ((nb,id)::t.cells))(hk:k∈t'.blocks):k∈t.blocks\/nb<=k:=by
 have:=(hp.map Prod.fst).mem_iff.1 hk;rcases Qdf.1 this with h|h
 .exact .inr (Nat.le_of_eq h.symm)
 .exact .inl h
def M9 {nb:Nat}{p:ec}{l l' r:Tr}(hp:l'.cells.Perm ((nb,id)::l.cells)):(Tr.node b p h l' r).cells.Perm ((nb,id)::(Tr.node b p h l r).cells):=by
 simp only[Tr.cells];exact((hp.append_right r.cells).cons _).trans (List.Perm.swap _ _ _)
def Na {nb:Nat}{p:ec}{l r r':Tr}(hp:r'.cells.Perm ((nb,id)::r.cells)):(Tr.node b p h l r').cells.Perm ((nb,id)::(Tr.node b p h l r).cells):=by
 simp only[Tr.cells];exact(((hp.append_left l.cells).trans List.perm_middle).cons _).trans (List.Perm.swap _ _ _)
def qc8(T:TypeId)(w:aj)(t:Tr)(id:Int)(e:Ending)(w':aj):Prop:=∃(t':Tr)(nb:Nat),e=xR t'.ptr/\fU T w' t'/\t'.cells.Perm ((nb,id)::t.cells)/\w.heap.size<=nb/\ai (λk=>k∈t.blocks) w w'
def Wq(p:ec)(hs:p.s.size<=maxLen):∀(t:Tr)(w:aj),fU 270 w t->t.cells.length<=300->xC 158 #[t.ptr,ng p] w (qc8 270 w t p.id):=by
 intro t;induction t with
 |nil=>
  intro w _ _;obtain⟨k,n,s,a,c,i⟩:=p;unfold ng Tr.ptr;dsimp only at*;have HZ:=af hs;go_enter func158,ntmps158;go_wp2;go_ret;have hb:((w.alloc (xK #[xI k,xI n,xS s,xL a 0 c,xI i] 238)).alloc (lQ 270 ⟨k,n,s,a,c,i⟩ (.pointer none) (.pointer none) 1)).heap[w.heap.size+1]? =some (lQ 270 ⟨k,n,s,a,c,i⟩ (.pointer none) (.pointer none) 1):=(Bx.dh w _ _).cE rfl;exact⟨.node (w.heap.size+1) ⟨k,n,s,a,c,i⟩ 1 .nil .nil,w.heap.size+1,rfl,⟨⟨hb,HZ.o,trivial,trivial⟩,by simp[Tr.blocks,Tr.cells],⟨bq,by simp[Tr.cells],trivial,trivial⟩⟩,List.Perm.refl _,by omega,((ai.refl _ w).alloc _).alloc _⟩
 |node b q h l r ihl ihr=>
  intro w ht hz;have n:=ht.n;have Ux:l.cells.length+r.cells.length+1<=300:=by simp[Tr.cells]at hz;omega
  have HL:=fV (w:=w) (λW hb=>ihl W (n.left.only (ai.ao (S:=λ_=>False) hb) λ_ _ h=>h) (by omega));have HR:=fV (w:=w) (λW hb=>ihr W (n.right.only (ai.ao (S:=λ_=>False) hb) λ_ _ h=>h) (by omega));have HO:Hd (∀W,_):=λW=>B8 q p W;have HN:=fV (w:=w) (λW hb=>cB ((hb.block b (Qaa.1 n.at_).1).trans n.at_));have HNN:=af n;obtain⟨lp,Sw⟩:=l.eW;obtain⟨rp,Sx⟩:=r.eW;obtain⟨k,m,s,a,c,i⟩:=p;obtain⟨k',m',s',a',c',i'⟩:=q;rw[Sw]at HL HN;rw[Sx]at HR HN;unfold ng at*;dsimp only at*;show xC 158 #[xP b,_] _ _;have bN:=af (Bx.dR w (xK #[xI k,xI m,xS s,xL a 0 c,xI i] 238));have HS:Hd (∀W,Bx w [xK #[xI k,xI m,xS s,xL a 0 c,xI i] 238] W->_):=λW hb=>
   have x0:=hb.bJ rfl
   have y:=(HN.o W hb.1).1
   And.intro (cell_of_heap x0 (i:=0) rfl) (And.intro (cell_of_heap x0 (i:=1) rfl) (And.intro (cell_of_heap x0 (i:=2) rfl) (And.intro (cell_of_heap x0 (i:=3) rfl) (And.intro (cell_of_heap x0 (i:=4) rfl) (And.intro y.1 (And.intro y.2.1 (And.intro y.2.2.1 (And.intro y.2.2.2.1 y.2.2.2.2.1))))))));go_enter func158,ntmps158;go_upto_region 3 with fail;obtain⟨p0,p1,p2,p3,p4,q0,q1,q2,q3,q4⟩:=HS.o _ bN.o;go_cut [16](λv wx=>lZ v/\Hd (Bx w [xK #[xI k,xI m,xS s,xL a 0 c,xI i] 238] wx));case first=>
   go_region_held3(λw'=>w'.cell? ⟨w.heap.size,0,none⟩=some (xI k)/\w'.cell? ⟨w.heap.size,1,none⟩=some (xI m)/\w'.cell? ⟨w.heap.size,2,none⟩=some (xS s)/\w'.cell? ⟨w.heap.size,3,none⟩=some (xL a 0 c)/\w'.cell? ⟨w.heap.size,4,none⟩=some (xI i)/\w'.cell? ⟨b,0,none⟩=some (xI k')/\w'.cell? ⟨b,1,none⟩=some (xI m')/\w'.cell? ⟨b,2,none⟩=some (xS s')/\w'.cell? ⟨b,3,none⟩=some (xL a' 0 c')/\w'.cell? ⟨b,4,none⟩=some (xI i'))
    (first|go_keep|exact HS.o _ HJ.o)
    (first|(go_at_call 188;refine(HO.o _).mono ?_;rintro e wa⟨x,rfl,hb⟩;have HJ:Hd (Bx w [xK #[xI k,xI m,xS s,xL a 0 c,xI i] 238] wa):=bN.o.drew.below hb;clear hb)|fail);all_goals(go_wp2;go_meet)
   all_goals exact⟨⟨_,rfl⟩,HJ⟩
  case rest=>
  obtain⟨⟨bb,rfl⟩,HB⟩:=hcut;obtain⟨p0,p1,p2,p3,p4,q0,q1,q2,q3,q4⟩:=HS.o _ HB.o;obtain⟨⟨_,_,_,_,_,q5,q6,q7⟩,f5,f6,f7⟩:=HN.o _ HB.o.1;go_upto_if 16 with fail;go_cut [](λwx=>∃(l' r':Tr)(nb:Nat),Hd (oM 270 wx b ⟨k',m',s',a',c',i'⟩ h l' r'/\(Tr.node b ⟨k',m',s',a',c',i'⟩ h l' r').cells.Perm ((nb,i)::(Tr.node b ⟨k',m',s',a',c',i'⟩ h l r).cells)/\w.heap.size<=nb/\ai (λk=>k∈(Tr.node b ⟨k',m',s',a',c',i'⟩ h l r).blocks) w wx));case first=>
   have xO:=af (show oM 270 wc.drew b ⟨k',m',s',a',c',i'⟩ h l r by
    have o:=(ai.ao (S:=λ_=>False) HB.o.1).drew;have n:=HNN.o;exact⟨(o.block b (Qaa.1 n.at_).1 λh=>h).trans n.at_,n.str,n.left.only o λ_ _ h=>h,n.right.only o λ_ _ h=>h,n.notL,n.notR,n.apart⟩);have JS:=af HB.o.1.drew;cases bb;rotate_left
   .go_wp2_with fail;go_region_law(first
     |(go_simp;go_at_call 158;refine(HL.o _ JS.o).mono ?_;rintro e wa⟨l',nb,rfl,ht,hp,qL,ho⟩;obtain⟨tp,DC⟩:=l'.eW;have Yg:=af DC;have HPA:=af (And.intro ht (And.intro hp (And.intro qL ho)));obtain⟨⟨_,_,_,_,_,s5,_,_⟩,sf,_,_⟩:=cB ((ho.block b (Qaa.1 xO.o.at_).1 xO.o.notL).trans xO.o.at_);rw[DC];clear ht hp qL ho DC)
     |fail);all_goals
     go_wp2;go_meet;obtain⟨ht,hp,qL,ho⟩:=HPA.o;have hz:=JS.o.size;have n:=xO.o.KX ho (λk hk=>hk) ht λk hk=>(tL hp hk).imp_right λe=>by omega
     rw[Yg.o]at n;refine⟨l',r,nb,af ⟨n,M9 hp,by omega,((ai.ao JS.o).trans (ho.mono λk hk=> ?_)).setCell (p:=⟨b,5,none⟩) (.inl ?_) _⟩⟩
     .rw[Tr.aV];simp[hk]
     .rw[Tr.aV];simp
   .go_wp2_with fail;go_region_law(first
     |(go_simp;go_at_call 158;refine(HR.o _ JS.o).mono ?_;rintro e wa⟨r',nb,rfl,ht,hp,qL,ho⟩;obtain⟨tp,DC⟩:=r'.eW;have Yg:=af DC;have HPA:=af (And.intro ht (And.intro hp (And.intro qL ho)));obtain⟨⟨_,_,_,_,_,_,s6,_⟩,_,sf,_⟩:=cB ((ho.block b (Qaa.1 xO.o.at_).1 xO.o.notR).trans xO.o.at_);rw[DC];clear ht hp qL ho DC)
     |fail);all_goals
     go_wp2;go_meet;obtain⟨ht,hp,qL,ho⟩:=HPA.o;have hz:=JS.o.size;have n:=xO.o.F8 ho (λk hk=>hk) ht λk hk=>(tL hp hk).imp_right λe=>by omega
     rw[Yg.o]at n;refine⟨l,r',nb,af ⟨n,Na hp,by omega,((ai.ao JS.o).trans (ho.mono λk hk=> ?_)).setCell (p:=⟨b,6,none⟩) (.inl ?_) _⟩⟩
     .rw[Tr.aV];simp[hk]
     .rw[Tr.aV];simp
  case rest=>
  obtain⟨l',r',nb,HM⟩:=hcut;have gw:l'.cells.length+r'.cells.length+1=l.cells.length+r.cells.length+2:=by have:=HM.o.2.1.length_eq;simp[Tr.cells]at this;omega
  have DR:=af (Jy _ HM.o.1 (by omega) (by omega));go_wp2_with fail;refine(DR.o).mono ?_;rintro e W5⟨t',rfl,ht,hp,ho⟩;have HF:=af (And.intro ht (And.intro hp ho));obtain⟨tp,DC⟩:=t'.eW;have Yg:=af DC;rw[DC];go_wp2;go_ret;obtain⟨ht,hp,ho⟩:=HF.o;obtain⟨_,Ae,qL,iM⟩:=HM.o;refine⟨t',nb,by rw[Yg.o];rfl,ht,hp.trans Ae,qL,iM.dc ho λk hk aX=> ?_⟩;rcases tL Ae hk with h|h
  .exact h
  .omega
end
section
open Go.RowKit Go.Shelf
def Jz(k n:Int)(s:aT)(a:dC)(c:Nat)(hk:k≠5)(hs:s.size<=maxLen)(id:Int)(w:aj)(hT:Tb w):
 xC 155 #[.agg #[xI k,xI n,xS s,xL a 0 c],xI id] w λe w'=>nN e/\aq w w':=by
 have HR:=fV (w:=w) (λW hb=>kZ ⟨k,n,s,a,0,c⟩ hk hs W (hT.below hb));unfold rI.val at HR;dsimp only at HR;go_enter func155,ntmps155;go_wp2_with fail;refine(HR.o _ (Bx.dR w _).1).mono ?_;rintro e w1⟨⟨b,rfl,_⟩,hb⟩;have HB:=af (aQ hb);cases b;all_goals
  go_wp2_with fail;all_goals
   go_ret;exact⟨dN _,HB.o⟩
def Ga(k n:Int)(s:aT)(a:dC)(c:Nat)(w:aj):
 xC 157 #[.agg #[xI k,xI n,xS s,xL a 0 c]] w (cN (.agg #[xI k,xI n,xS s,xL none 0 0]) w):=by
 go_enter func157,ntmps157;go_wp2_with fail;go_loop [3,5,9](λu _ i=>u=xL none 0 0/\i=xI 0)(λ_ _ _=>0);case atStart=>exact⟨rfl,rfl⟩
 case round=>
  obtain⟨rfl,rfl⟩:=hrel;go_wp2_with fail;refine Qae (v:= .agg #[xI k,xI n,xS s,xL none 0 0]) (by simp[results,results157,go_sem]) rfl ⟨rfl,(Bx.dh w _ _).1⟩
def TE(X:Nat)(t:Tr)(sz:Int)(p:ec)(w:aj)(hX:cI w X (xK #[t.ptr,xI sz] 236))(ht:xA 270 w t):
 xC 156 #[xP X,ng p] w λe w'=>nN e/\aq w w':=by
 have HO:Hd (∀q W,_):=λq W=>B8 q p W;have HT:Hd (∀W,aq w W->∀u,xA 270 w u->xA 270 W u):=λW hb u hu=>hu.only (ai.ao (S:=λ_=>False) hb) λ_ _ h=>h;have YA:=af ht;obtain⟨tp,DC⟩:=t.eW;rw[DC]at hX;obtain⟨k,m,s,a,c,i⟩:=p;unfold ng at*;dsimp only at*;have bN:=af (Bx.dR w (xK #[xI k,xI m,xS s,xL a 0 c,xI i] 238));obtain⟨x0,x1⟩:=ah hX;have hXl:=(Qaa.1 hX).1;go_enter func156,ntmps156;go_wp2;go_loopg [5,6]t.cells.length(λg v5 _ wr=>∃u:Tr,g=u.cells.length/\v5=u.ptr/\Hd (xA 270 w u)/\Hd (Bx w [xK #[xI k,xI m,xS s,xL a 0 c,xI i] 238] wr));case atStart=>exact⟨t,rfl,DC.symm,YA,bN⟩
 case round=>
  obtain⟨u,rfl,rfl,HU,HB⟩:=hrel;cases u with
  |nil=>
   unfold Tr.ptr;go_wp2;go_ret;exact⟨dN _,HB.o.1⟩
  |node b q h l r=>
   obtain⟨kD,_,hl,hr⟩:=HU.o;have HL:=af hl;have HR:=af hr;have HS:Hd (∀W,Bx w [xK #[xI k,xI m,xS s,xL a 0 c,xI i] 238] W->_):=λW hb=>
    have x0:=hb.bJ rfl
    have y:=(cB ((hb.1.block b (Qaa.1 kD).1).trans kD)).1
    And.intro (And.intro (cell_of_heap x0 (i:=0) rfl) (And.intro (cell_of_heap x0 (i:=1) rfl) (And.intro (cell_of_heap x0 (i:=2) rfl) (And.intro (cell_of_heap x0 (i:=3) rfl) (And.intro (cell_of_heap x0 (i:=4) rfl) (And.intro y.1 (And.intro y.2.1 (And.intro y.2.2.1 (And.intro y.2.2.2.1 y.2.2.2.2.1))))))))) (And.intro y.2.2.2.2.2.1 y.2.2.2.2.2.2.1);obtain⟨lp,Sw⟩:=l.eW;obtain⟨rp,Sx⟩:=r.eW;rw[Sw,Sx]at HS;obtain⟨k',m',s',a',c',i'⟩:=q;dsimp only at*;obtain⟨⟨p0,p1,p2,p3,p4,q0,q1,q2,q3,q4⟩,q5,q6⟩:=HS.o _ HB.o;have HOQ:Hd (∀W,_):=λW=>HO.o ⟨k',m',s',a',c',i'⟩ W;dsimp only at HOQ;have HLP:=af Sw;have HRP:=af Sx;have hsz:(Tr.node b ⟨k',m',s',a',c',i'⟩ h l r).cells.length=l.cells.length+r.cells.length+1:=by simp[Tr.cells]
   have QB:=af hsz;unfold Tr.ptr;go_upto_region 3 with fail;go_cut [6](λv wx=>(∃x:Int,v=xI x)/\Hd (Bx w [xK #[xI k,xI m,xS s,xL a 0 c,xI i] 238] wx));case first=>
    go_region_held3(λw'=>w'.cell? ⟨w.heap.size,0,none⟩=some (xI k)/\w'.cell? ⟨w.heap.size,1,none⟩=some (xI m)/\w'.cell? ⟨w.heap.size,2,none⟩=some (xS s)/\w'.cell? ⟨w.heap.size,3,none⟩=some (xL a 0 c)/\w'.cell? ⟨w.heap.size,4,none⟩=some (xI i)/\w'.cell? ⟨b,0,none⟩=some (xI k')/\w'.cell? ⟨b,1,none⟩=some (xI m')/\w'.cell? ⟨b,2,none⟩=some (xS s')/\w'.cell? ⟨b,3,none⟩=some (xL a' 0 c')/\w'.cell? ⟨b,4,none⟩=some (xI i'))
     (first|go_keep|exact(HS.o _ HJ.o).1)
     (first|(go_at_call 188;refine(HOQ.o _).mono ?_;rintro e wa⟨x,rfl,hb⟩;have HJ:Hd (Bx w [xK #[xI k,xI m,xS s,xL a 0 c,xI i] 238] wa):=HB.o.drew.below hb;clear hb)|fail);all_goals(go_wp2;go_meet)
    all_goals exact⟨⟨_,rfl⟩,HJ⟩
   case rest=>
   obtain⟨⟨x,rfl⟩,aL⟩:=hcut;obtain⟨_,q5,q6⟩:=HS.o _ aL.o;rcases Decidable.em (x=0)with rfl|hx
   .go_wp2;go_ret;exact⟨dN _,aL.o.1⟩
   .have QF:(x==0)=false:=by simpa using hx
    by_cases hp:0<x
    .go_wp2;go_roundg l.cells.length;case measure=>have:=QB.o;omega
     case rel=>exact⟨l,rfl,HLP.o.symm,HL,aL⟩
    .go_wp2;go_roundg r.cells.length;case measure=>have:=QB.o;omega
     case rel=>exact⟨r,rfl,HRP.o.symm,HR,aL⟩
structure KY(w:aj)(X:Nat)(t:Tr):Prop where
 at_:∃sz:Int,w.heap[X]? =some (xK #[t.ptr,xI sz] 236)
 ok:fU 270 w t
 not_in:X∉t.blocks
theorem KY.only {t:Tr}{S:aS}(h:KY w X t)(o:ai S w W)(hX:¬S X)(hS:∀k∈t.blocks,¬S k):KY W X t:=by
 obtain⟨⟨sz,h1⟩,h2,h3⟩:=h;exact⟨⟨sz,(o.block X (Qaa.1 h1).1 hX).trans h1⟩,h2.only o hS,h3⟩
theorem KY.below {t:Tr}(h:KY w X t)(hb:aq w W):KY W X t:=h.only (ai.ao (S:=λ_=>False) hb) (λh=>h) λ_ _ h=>h
def Z5(w:aj)(X:Nat)(t:Tr)(id:Int)(e:Ending)(w':aj):Prop:=∃(n:Int)(t':Tr),e=xR (xI n)/\KY w' X t'/\(∀c∈t'.cells,c.2=id/\w.heap.size<=c.1\/c∈t.cells)/\t'.cells.length<=t.cells.length+1/\ai (λk=>k=X\/k∈t.blocks) w w'
def TF(X:Nat)(t:Tr)(k n:Int)(s:ByteArray)(a:Option Addr)(c:Nat)(hk:k≠5)(hs:s.size<=maxLen)(id:Int)(w:World)(hT:Tb w)(hX:KY w X t)(hz:t.cells.length<=250):
 xC 111 #[xP X, .agg #[xI k,xI n,xS s,xL a 0 c],xI id] w (Z5 w X t id):=by
 have HR:=fV (w:=w) (λW hb=>Jz k n s a c hk hs id W (hT.below hb));have HI:=fV (w:=w) (λW hb=>hX.below hb);have HH:=fV (w:=w) (λW hb=>by
  obtain⟨sz,h1⟩:=(hX.below hb).at_;exact TE X t sz ⟨k,n,s,a,c,id⟩ W h1 (hX.below hb).ok.rep);have HC:Hd (∀W,_):=λW=>Ga k n s a c W;unfold ng at HH;dsimp only at HH;have HP:Hd (∀W,fU 270 W t->_):=λW h=>Wq ⟨k,n,s,none,0,id⟩ hs t W h (by omega);unfold ng at HP;dsimp only at HP;have HBV:=af (Bx.dR w (xK #[xI k,xI n,xS s,xL a 0 c] 30));have Dn:=af hX;clear hT hX hk hs;have no:∀(e:Ending)(W:World),(∃n,e=xR (xI n))->aq w W->Z5 w X t id e W:=λe W⟨n,he⟩hb=>⟨n,t,he,HI.o _ hb,λc hc=> .inr hc,by omega,ai.ao hb⟩;have Le:=af no;clear no;go_enter func111,ntmps111;go_wp2_with fail;refine(HR.o _ HBV.o.1).mono ?_;rintro e w1⟨⟨b,rfl⟩,hb⟩;have aO:=af (HBV.o.below hb);obtain⟨v0,v1,v2,v3⟩:=ae (aO.o.bJ rfl);clear hb;cases b
 .go_wp2;go_ret;exact Le.o _ _ ⟨_,rfl⟩ aO.o.1
 go_upto_region 6 with fail;obtain⟨W2,fT⟩:=cM (w1.alloc (xK #[xI k,xI n,xS s,xL a 0 c,xI id] 238));have GP:=af (show Bx w1 [xK #[xI k,xI n,xS s,xL a 0 c,xI id] 238] W2 by rw[fT];exact Bx.dR w1 _);have Vv:=af (show Bx w [xK #[xI k,xI n,xS s,xL a 0 c] 30] W2 by rw[fT];exact aO.o.alloc _);rw[<-fT];clear fT v0 v1 v2 v3;have p0:W2.cell? ⟨w1.heap.size,0,none⟩=some (xI k):=cell_of_heap (GP.o.bJ rfl) rfl;have p1:W2.cell? ⟨w1.heap.size,1,none⟩=some (xI n):=cell_of_heap (GP.o.bJ rfl) rfl;have p2:W2.cell? ⟨w1.heap.size,2,none⟩=some (xS s):=cell_of_heap (GP.o.bJ rfl) rfl;have p3:W2.cell? ⟨w1.heap.size,3,none⟩=some (xL a 0 c):=cell_of_heap (GP.o.bJ rfl) rfl;have p4:W2.cell? ⟨w1.heap.size,4,none⟩=some (xI id):=cell_of_heap (GP.o.bJ rfl) rfl;go_wp2_with fail;refine(HH.o _ Vv.o.1).mono ?_;rintro e w3⟨⟨b,rfl⟩,bG⟩;have JJ:=af (GP.o.below bG);have Rt:=af (Vv.o.below bG);clear bG p0 p1 p2 p3 p4;cases b;rotate_left
 .go_wp2;go_ret;exact Le.o _ _ ⟨_,rfl⟩ Rt.o.1
 obtain⟨v0,v1,v2,v3⟩:=ae (Rt.o.bJ rfl);go_wp2_with fail;refine(HC.o _).mono ?_;rintro e w4⟨rfl,dT⟩;have JY:=af (JJ.o.below dT);have Ss:=af (Rt.o.below dT);clear dT v0 v1 v2 v3;have RL:=af aO.o.bY;obtain⟨W5,mD⟩:=cM (gJ w4 w1.heap.size 0 (xI k) (xI n) (xS s) (xL none 0 0));have Ue:=af (show Bx w1 [xK #[xI k,xI n,xS s,xL none 0 0,xI id] 238] W5 by rw[mD];exact(((JY.o.set 0 0 rfl _).set 0 1 rfl _).set 0 2 rfl _).set 0 3 rfl _);have Vw:=af (show aq w W5 by
  rw[mD];have hz:=RL.o;exact(((Ss.o.1.setCell (by show w.heap.size<=w1.heap.size;omega) _).setCell (by show w.heap.size<=w1.heap.size;omega) _).setCell (by show w.heap.size<=w1.heap.size;omega) _).setCell (by show w.heap.size<=w1.heap.size;omega) _);have p0:w4.cell? ⟨w1.heap.size,0,none⟩=some (xI k):=cell_of_heap (JY.o.bJ rfl) rfl;have p1:w4.cell? ⟨w1.heap.size,1,none⟩=some (xI n):=cell_of_heap (JY.o.bJ rfl) rfl;have p2:w4.cell? ⟨w1.heap.size,2,none⟩=some (xS s):=cell_of_heap (JY.o.bJ rfl) rfl;have p3:w4.cell? ⟨w1.heap.size,3,none⟩=some (xL a 0 c):=cell_of_heap (JY.o.bJ rfl) rfl;obtain⟨f0,f1,f2,f3⟩:=ic (JY.o.bJ rfl);unfold gJ at mD;go_upto_region 9 with fail;rw[<-mD];clear mD p0 p1 p2 p3 f0 f1 f2 f3;have hx:=HI.o _ Vw.o.drew;obtain⟨sz,rZ⟩:=hx.at_;obtain⟨tp,DC⟩:=t.eW;rw[DC]at rZ HP;obtain⟨x0,x1⟩:=ah rZ;have fI:=af rZ;have T2:=af hx.ok;have HNI:=af hx.not_in;have HD5:=af Vw.o.drew;have p0:W5.drew.cell? ⟨w1.heap.size,0,none⟩=some (xI k):=cell_of_heap (Ue.o.bJ rfl) rfl;have p1:W5.drew.cell? ⟨w1.heap.size,1,none⟩=some (xI n):=cell_of_heap (Ue.o.bJ rfl) rfl;have p2:W5.drew.cell? ⟨w1.heap.size,2,none⟩=some (xS s):=cell_of_heap (Ue.o.bJ rfl) rfl;have p3:W5.drew.cell? ⟨w1.heap.size,3,none⟩=some (xL none 0 0):=cell_of_heap (Ue.o.bJ rfl) rfl;have p4:W5.drew.cell? ⟨w1.heap.size,4,none⟩=some (xI id):=cell_of_heap (Ue.o.bJ rfl) rfl;clear hx rZ DC;go_cut [](λwx=>∃t':Tr,Hd (KY wx X t'/\(∀c∈t'.cells,c.2=id/\w.heap.size<=c.1\/c∈t.cells)/\t'.cells.length<=t.cells.length+1/\ai (λk=>k=X\/k∈t.blocks) w wx));case first=>
  go_region_law(first
   |(go_simp;go_at_call 158;refine(HP.o _ T2.o).mono ?_;rintro e wa⟨t',nb,rfl,ht,hp,qL,ho⟩;obtain⟨tq,htq⟩:=t'.eW;have Yg:=af htq;have HPA:=af (And.intro ht (And.intro hp (And.intro qL ho)));have R6:=(ho.block X (Qaa.1 fI.o).1 HNI.o).trans fI.o;have Vy:=af R6;obtain⟨s0,s1⟩:=ah R6;have sf:=ag R6 0;rw[htq];clear ht hp qL ho htq R6)
   |fail);all_goals
   go_wp2;go_meet;obtain⟨ht,hp,qL,ho⟩:=HPA.o;have hz5:=HD5.o.size;have hX2:X∉t'.blocks:=λhk=>(tL hp hk).elim HNI.o λe=>by have:=(Qaa.1 fI.o).1;omega
   have oX:ai (λk=>k=X) wa (wa.setCell ⟨X,0,none⟩ (.pointer tq)):=(ai.refl (λk=>k=X) wa).setCell (p:=⟨X,0,none⟩) (.inl rfl) _;refine⟨t',af ⟨⟨⟨sz,by rw[Yg.o];exact Qca wa X 0 _ _ _ Vy.o⟩,ht.only oX λk hk e=>hX2 (e▸hk),hX2⟩,λc hc=> ?_,by have:=hp.length_eq;simp at this;omega,?_⟩⟩
   .rcases Qdf.1 (hp.mem_iff.1 hc)with h|h
    .exact .inl ⟨by rw[h],by rw[h];show w.heap.size<=nb;omega⟩
    .exact .inr h
   .exact((ai.ao HD5.o).trans (ho.mono λk hk=> .inr hk)).setCell (p:=⟨X,0,none⟩) (.inl (.inl rfl)) _
 case rest=>
 obtain⟨t',HM⟩:=hcut;clear x0 x1 p0 p1 p2 p3 p4;obtain⟨sz',xH⟩:=HM.o.1.at_;obtain⟨x0,x1⟩:=ah xH;have xf:=ag xH 1;have jT:=af xH;clear xH;go_wp2;go_ret;obtain⟨h1,h2,h3,h4⟩:=HM.o;have oX:∀v,ai (λk=>k=X) wc (wc.setCell ⟨X,1,none⟩ v):=λv=>(ai.refl (λk=>k=X) wc).setCell (p:=⟨X,1,none⟩) (.inl rfl) _;exact⟨0,t',rfl,⟨⟨_,Qca wc X 1 _ _ _ jT.o⟩,h1.ok.only (oX _) λk hk e=>h1.not_in (e▸hk),h1.not_in⟩,h2,h3,h4.setCell (p:=⟨X,1,none⟩) (.inl (.inl rfl)) _⟩
def JC(vk vn:Int)(vs:ByteArray)(a:Option Addr)(n cap:Nat)(k:Int)(w:World):
 xC 107 #[.agg #[.int .i64 vk, .int .i64 vn, .string vs, .slice a n cap], .int .i64 k] w λe w'=>RS (vk=k\/(vk=0/\(k=3\/k=4))) e/\aq w w':=by
 have HB:Hd (∀v,_):=(show∀v,aq w (w.alloc v)fromλv=>bO);by_cases h:vk=k\/(vk=0/\(k=3\/k=4))
 .refine(rH vk vn vs a n cap k h w).mono ?_;rintro e w'⟨rfl,hb⟩;exact⟨ij h _,hb⟩
 .have h1:(vk==k)=false:=by simp only[beq_eq_false_iff_ne,ne_eq];omega
  by_cases h0:vk=0
  .subst h0;have h3:(k==3)=false:=by simp only[beq_eq_false_iff_ne,ne_eq];omega
   have h4:(k==4)=false:=by simp only[beq_eq_false_iff_ne,ne_eq];omega
   clear h;go_enter func107,ntmps107;go_wp2;go_ret;exact⟨fA _,HB.o _⟩
  .have h2:(vk==0)=false:=by simpa using h0
   clear h h0;go_enter func107,ntmps107;go_wp2;go_ret;exact⟨fA _,HB.o _⟩
def JD(a:dC)(c:Nat)(f:an)(w:aj):xC 154 #[xL a 0 c,f] w (gE (xI (-1)) w):=by
 go_enter func154,ntmps154;go_wp2_with fail;go_loop [5,8](λ_ i=>i=xI 0)(λ_ _=>0);case atStart=>exact rfl
 case round=>
  subst hrel;go_wp2;go_ret;exact⟨rfl,rfl⟩
def AS(a:dC)(c:Nat)(f:an)(w:aj):xC 108 #[xL a 0 c,f] w (gE (xB false) w):=by
 go_enter func108,ntmps108;go_wp2_with fail;refine dJ (JD _ _ _ _) ?_;go_wp2;go_ret;exact⟨rfl,rfl⟩
def Qw(k n:Int)(s:aT)(a:dC)(c:Nat)(hk:k≠5)(hs:s.size<=maxLen)(tk Aq:Int)(ht:aF ⟨tk,Aq⟩=true)(w:aj)(hT:Tb w):
 xC 61 #[.agg #[xI k,xI n,xS s,xL a 0 c], .agg #[xI tk,xI Aq]] w λe w'=>RS (tk≠5) e/\aq w w':=by
 have HR:=fV (w:=w) (λW hb=>kZ ⟨k,n,s,a,0,c⟩ hk hs W (hT.below hb));unfold rI.val at HR;dsimp only at HR;have HT:Hd (∀W,_):=λW=>kV ⟨tk,Aq⟩ ht W;dsimp only at HT;have HO:Hd (∀W,_):=λW=>JC k n s a 0 c tk W;have HW:Hd (∀W,Bx w [xK #[xI k,xI n,xS s,xL a 0 c] 30,xK #[xI tk,xI Aq] 136] W->_):=λW hb=>And.intro (ae (hb.bJ rfl)) (ah (hb.cE rfl));have HK:Hd (k=tk\/(k=0/\(tk=3\/tk=4))->tk≠5):=λh=>by omega
 go_enter func61,ntmps61;go_wp2_with fail;refine(HR.o _ (Bx.dh w _ _).1).mono ?_;rintro e w1⟨⟨b,rfl,_⟩,aC⟩;have HB:=af ((Bx.dh w (xK #[xI k,xI n,xS s,xL a 0 c] 30) (xK #[xI tk,xI Aq] 136)).below aC);obtain⟨⟨e0,e1,e2,e3⟩,c0,c1⟩:=HW.o _ HB.o;cases b
 .go_wp2;go_ret;exact⟨fA _,HB.o.1⟩
 go_wp2_with fail;refine cG (HT.o _) λw2 aY=> ?_;have aL:=af (HB.o.below aY);obtain⟨⟨e0,e1,e2,e3⟩,c0,c1⟩:=HW.o _ aL.o;go_wp2_with fail;refine(HO.o _).mono ?_;rintro e w3⟨⟨b,rfl,DL⟩,bG⟩;have Uh:Hd (b=true->tk≠5):=λh=>HK.o (DL h);have bI:=af (aL.o.below bG);obtain⟨⟨e0,e1,e2,e3⟩,c0,c1⟩:=HW.o _ bI.o;cases b
 .go_wp2;go_ret;exact⟨fA _,bI.o.1⟩
 go_wp2_with fail;refine dJ (AS _ _ _ _) ?_;go_wp2;go_ret;exact⟨ij (Uh.o trivial) _,bI.o.1⟩
end
end Go.Proofs.YtccpcfcochffcaaGreatDoor
