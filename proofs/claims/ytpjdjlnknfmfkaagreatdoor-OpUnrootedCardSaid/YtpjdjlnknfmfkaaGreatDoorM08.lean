/- A part of the proof; no condition. -/
import Derived.Test.YtpjdjlnknfmfkaaGreatDoorM05
import Derived.Shelf.Small.Utf8
import Derived.Lib.RuneCountTail
import Derived.StillTail
import Derived.Sort.Walk0
set_option linter.all false
set_option maxHeartbeats 8000000
set_option maxRecDepth 100000
namespace Go.Proofs.YtpjdjlnknfmfkaaGreatDoor
open Tryz
variable{p i g:Nat}{s:bS}{w W:bq}{id:Int}{l:List bE}{v:bt}{M:bY}
section
open Go.RowKit Go.Shelf
def oZ:Go.Shelf.Ren:=⟨λ|118=>427|n=>n,λ|21=>21|3=>3|4=>4|n=>n,λ|n=>n⟩
def DV:Go.Proofs.Lays.n118 prog oZ:={
 mixed:=by kernel_rfl
 f118:=Tryz.func427.trans (by kernel_rfl)
 t3:=underlying3
 a3:=isAgg3
 z3:=sizeOf3
 v3:=zeroValue3
 t4:=underlying4
 a4:=isAgg4
 z4:=sizeOf4
 v4:=zeroValue4
 t21:=underlying21
 a21:=isAgg21
 z21:=sizeOf21
 v21:=zeroValue21}
def OT:oZ.f 118=427:=by kernel_rfl
def Hp(r k:Nat)(h:(k=1/\32<=r/\r<127)\/(k=2/\r=233))(w:bq):xC 427 #[.int .i32 (r:Int)] w (j7 (xI (k:Int)) w):=by
 have h1:=Any.utf8_RuneLen DV (r:Int) w;rw[OT]at h1;have e:Lib.runeLen (r:Int)=(k:Int):=by
  unfold Lib.runeLen;rcases h with⟨rfl,h1,h2⟩|⟨rfl,rfl⟩
  . (repeat' split)<;>first|rfl|(exfalso;omega)
  decide
 rw[e]at h1;exact h1.mono λe w'⟨h1,h2⟩=>⟨h1,h2.symm⟩
def DW(s:bS)(p:Nat)(hp:p<s.size):∃r k:Nat,Utf8.decode s p=(r,k)/\1<=k/\p+k<=s.size:=by
 have h1:=Lib.tail_decode s p 0;have hl:s.data.toList.length=s.size:=cH s;have hd:(s.extract p s.size).data.toList=s.data.toList.drop p:=by
  simp;rw[ak (by simp at hl⊢)]
 have h2:Lib.decodeL (s.data.toList.drop p)=Utf8.decode s p:=by
  rw[<-hd];have e:(⟨(s.extract p s.size).data.toList.toArray⟩:bS)=s.extract p s.size:=by rw[Array.toArray_toList]
  unfold Lib.decodeL;rw[e];exact h1
 have hne:s.data.toList.drop p≠[]:=by
  intro e;have:=congrArg List.length e;simp only[List.length_drop,aD]at this;omega
 have h3:=Lib.decodeL_le _ hne;have h4:=Lib.decodeL_width (s.data.toList.drop p);rw[h2]at h3 h4;rw[List.length_drop]at h3;exact⟨(Utf8.decode s p).1,(Utf8.decode s p).2,rfl,h4,by omega⟩
def lG(n:Int):bt:= .agg #[xI 1,n,"",()]
def uA(n:Int):Prop:= -1000000000000000<=n/\n<=1000000000000000
def kA(v:bt)(_:bq):Prop:=∃n,uA n/\v=lG n
def Vw(n:Int):uA (max (-1000000000000000) (min n 1000000000000000)):=by unfold uA;omega
def kC(n:Int)(w:bq):xG 389 #[n] w kA:=by
 delta xG;go_in;go_wp2_with fail;refine ah (v:=lG (max (-1000000000000000) (min n 1000000000000000))) (by simp[results,results389,go_sem,lG]) rfl (show de w kA _ _ from⟨_,rfl,⟨_,Vw n,rfl⟩,?_⟩);exact cU
def T9(w:bq)(b:Nat)(e:Ending)(w':bq):Prop:=∃n:Nat,n<=b/\e=xR n/\bC w w'
def DX(s:bS)(hs:s.size<=1000)(w:bq):xC 390 #[s] w (T9 w s.size):=by
 have HD:Hd (∀p,p<s.size->∃r k:Nat,Utf8.decode s p=(r,k)/\1<=k/\p+k<=s.size):=DW s;delta xC;go_in;go_wp2;go_loopg [3](s.size+1)(λg r3 wr=>∃p n:Nat,p<=s.size/\n<=p/\g=s.size+1-p/\r3=xI n/\wr=w.iter s p);exact⟨0,0,ax _,cN,rfl,rfl,rfl⟩;obtain⟨p,n,hp,hn,rfl,rfl,rfl⟩:=hrel;by_cases cE:p<s.size
 .have⟨r,k,hd,hk1,hk2⟩:=HD.o p cE;have hx:=run_next_any (P:=prog) w s p 0 cE;rw[hd]at hx;dsimp only at hx;go_wp2;go_roundg(s.size+1-(p+k));exact⟨p+k,n+1,by omega,by omega,rfl,by go_num,rfl⟩;omega
 have hx:=run_next_end (P:=prog) w s p 0 cE;go_wp2;go_ret;exact(show T9 _ _ _ _ from⟨n,by omega,rfl,cU⟩)
def DY(w:bq)(s:bS)(e:Ending)(w':bq):Prop:=∃p:Nat,qP s p/\e=xR p/\bC w w'
def AH(s:bS)(h:jI s.data.toList)(hs:s.size<=1000)(n:Int)(w:bq):xC 393 #[s,n] w (DY w s):=by
 have HS:=aV h;delta xC;go_in;go_wp2;go_loopg [5,6](s.size+1)(λg r5 _ wr=>∃p k:Nat,p<=s.size/\k<=p/\g=s.size+1-p/\r5=xI k/\wr=w.iter s p/\Hd (qP s p));exact⟨0,0,ax _,cN,rfl,rfl,rfl,(ux HS.o)⟩;obtain⟨p,k,hp,hk,rfl,rfl,rfl,HA⟩:=hrel;by_cases cE:p<s.size
 .have⟨r,j,hd,hj,hA2⟩:=HA.o.step cE;have hx:=run_next_any (P:=prog) w s p 0 cE;rw[hd]at hx;dsimp only at hx;have hj1:1<=j:=by omega
  have hA3:=hA2.1;have lJ:=aV hA2;by_cases QH:n<=(k:Int)
  .go_wp2;go_ret;exact(show DY _ _ _ _ from⟨p,HA.o,rfl,cU⟩)
  go_wp2;go_roundg(s.size+1-(p+j));exact⟨p+j,k+1,hA3,by omega,rfl,by go_num,rfl,lJ⟩;omega
 have hx:=run_next_end (P:=prog) w s p 0 cE;have hpe:p=s.size:=by omega
 subst hpe;go_wp2;go_ret;exact(show DY _ _ _ _ from⟨s.size,HA.o,rfl,cU⟩)
def nD(s:bS):bt:= .agg #[xI 2,xI 0,s,()]
def gx(v:bt)(_:bq):Prop:=∃s,il s/\v=nD s
def OU(h:qP s p)(hp:p<=60):il (s.extract 0 p):=by
 have h0:=h.1;refine⟨by simp;omega,?_⟩;have:=h.take;simpa using this
def sK(s:bS)(h:jI s.data.toList)(hs:s.size<=1000)(w:bq):xG 392 #[s] w gx:=by
 have HS:=aV h;clear h;delta xG;go_in;go_wp2_with fail;have⟨w0,hw0⟩:=dd (w.alloc (xK jl 50));have HB:=aV (show Bx w [xK jl 50] w0 by rw[hw0];exact Bx.fm w _);have hsz:=HB.o.cM;simp only[aC,aD]at hsz;have hz0:w0.heap.size=[w]:=by rw[hw0];simp
 rw[<-hw0];clear hw0;have NS:=aV hz0;clear hz0;go_loopg [3,4](s.size+1)(λg _ _ wr=>∃p:Nat,p<=s.size/\p<=60/\g=s.size+1-p/\wr=w0.iter s p/\Hd (qP s p));exact⟨0,ax _,by omega,rfl,rfl,(ux HS.o)⟩;obtain⟨p,hp,qdr,rfl,rfl,HA⟩:=hrel;have cu:Hd (Bx w [xK jl 50] (w0.iter s p)):=HB.o.alloc _;have⟨c0,c1,c2,c3⟩:=aU (cu.o.cP rfl);have⟨f0,f1,f2,f3⟩:=iS (cu.o.cP rfl);by_cases cE:p<s.size
 .have⟨r,j,hd,hj,hA2⟩:=HA.o.step cE;have hx:=run_next_any (P:=prog) w0 s p 0 cE;rw[hd,NS.o]at hx;dsimp only at hx;have HR:Hd (∀W,xC 427 #[.int .i32 (r:Int)] W (j7 (xI (j:Int)) W)):=λW=>Hp r j hj W;have hj1:1<=j/\j<=2:=by omega
  have bZ:Hd (Bx w [xK jl 50] (w0.iter s (p+j))):=HB.o.alloc _;have⟨d0,d1,d2,d3⟩:=aU (bZ.o.cP rfl);have⟨g0,g1,g2,g3⟩:=iS (bZ.o.cP rfl);have hA3:=hA2.1;have lJ:=aV hA2;clear hd hj hA2;go_wp2_with fail;refine ey (HR.o _) ?_;by_cases TG:p+j<=60
  .have hz:¬(60:Int)<(p:Int)+(j:Int):=by omega
   go_wp2;go_roundg(s.size+1-(p+j));exact⟨p+j,hA3,TG,rfl,rfl,lJ⟩;omega
  have hz:(60:Int)<(p:Int)+(j:Int):=by omega
  go_wp2_with fail;refine ah (v:=nD (s.extract 0 p)) (by simp[results,results392,go_sem,nD,d0,d1,d2,d3]) rfl (show de w gx _ _ from⟨_,rfl,⟨_,OU HA.o qdr,rfl⟩,?_⟩);exact(((bZ.o.1.setCell (by simp) _).setCell (by simp) _).setCell (by simp) _).setCell (by simp) _
 have hx:=run_next_end (P:=prog) w0 s p 0 cE;rw[NS.o]at hx;have TG:s.size<=60:=by omega
 go_wp2_with fail;refine ah (v:=nD s) (by simp[results,results392,go_sem,nD,c0,c1,c2,c3]) rfl (show de w gx _ _ from⟨_,rfl,⟨_,⟨TG,HS.o⟩,rfl⟩,?_⟩);exact(((cu.o.1.setCell (by simp) _).setCell (by simp) _).setCell (by simp) _).setCell (by simp) _
end
section
open Go.RowKit
def vm(w:bq)(e:Ending)(w':bq):Prop:=∃x:Int,e=xR x/\w=w'
def Ib(w:bq)(e:Ending)(w':bq):Prop:=∃x:Int,e=xR x/\bC w w'
def Pn(w:bq)(e:Ending)(w':bq):Prop:=∃b:Bool,e=xR b/\w=w'
def L8(n:Int)(w:bq):xC 165 #[n] w (j7 false w):=by
 have h:((n:Int)!=n)=false:=by simp
 delta xC;go_in;go_wp2;go_ret;exact⟨by simp,rfl⟩
def zJ(s:bS)(w:bq):xC 166 #[s] w (j7 false w):=by
 delta xC;go_in;go_wp2;go_ret;exact⟨by simp,rfl⟩
def qcg(a b:Int)(w:bq):xC 85 #[a,b] w (vm w):=by
 rcases Int.lt_trichotomy a b with h|h|h;all_goals
  delta xC;go_in;go_wp2_with fail;refine ey (L8 _ _) ?_;go_wp2_with fail;refine ey (L8 _ _) ?_;go_wp2;go_ret;exact(show vm _ _ _ from⟨_,rfl,rfl⟩)
def qD(a:Int)(w:bq):xC 85 #[a,a] w (j7 (xI 0) w):=by
 have h:¬a<a:=by omega
 delta xC;go_in;go_wp2_with fail;refine ey (L8 _ _) ?_;go_wp2_with fail;refine ey (L8 _ _) ?_;go_wp2;go_ret;exact⟨rfl,rfl⟩
def Ic(w:bq):xC 87 #["",""] w (j7 (xI 0) w):=by
 delta xC;go_in;go_wp2_with fail;refine ey (zJ _ _) ?_;go_wp2_with fail;refine ey (zJ _ _) ?_;go_wp2;go_ret;exact⟨rfl,rfl⟩
def sT(a b:fM)(c d:Nat)(fv:bt)(w:bq):xC 264 #[xL a 0 c,xL b 0 d,fv] w (j7 (xI 0) w):=by
 delta xC;go_in;go_wp2_with fail;go_loop [7,14](λ_ i=>i=xI 0)(λ_ _=>0);exact rfl;subst hrel;go_wp2_with fail;refine ey (qD 0 _) ?_;go_wp2;go_ret;exact⟨rfl,rfl⟩
def Ek(m n:Int)(a b:fM)(c d:Nat)(w:bq):
 xC 189 #[.agg #[xI 1,m,"",xL a 0 c], .agg #[xI 1,n,"",xL b 0 d]] w (Ib w):=by
 delta xC;go_in;go_wp2_with fail;refine ey (qD _ _) ?_;go_wp2_with fail;refine(qcg _ _ _).mono ?_;rintro e w'⟨x,rfl,rfl⟩;by_cases hx:x=0
 .subst hx;go_wp2_with fail;refine ey (Ic _) ?_;go_wp2_with fail;refine ey (sT _ _ _ _ _ _) ?_;go_wp2;go_ret;exact(show Ib _ _ _ from⟨_,rfl,(Bx.ei w _ _).1⟩)
 have hb:(x !=0)=true:=by simpa using hx
 go_wp2;go_ret;exact(show Ib _ _ _ from⟨_,rfl,(Bx.ei w _ _).1⟩)
def AN(s:List UInt8)(hs:s=[61]\/s=[62])(c:Int)(w:bq):xC 434 #[xS ⟨s.toArray⟩,c] w (Pn w):=by
 rcases hs with rfl|rfl;all_goals
  delta xC;go_in;go_wp2;go_ret;exact(show Pn _ _ _ from⟨_,rfl,rfl⟩)
def SJ {a:Int}(h:a≠0):max a (-a)≠0:=by omega
def El(a b:Int)(ha:uA a)(hb:uA b)(w:bq):xC 432 #[a,b] w (vm w):=by
 obtain⟨a1,a2⟩:=ha;obtain⟨b1,b2⟩:=hb;by_cases h0:a=0
 .subst h0;go_enter func432,ntmps432;go_wp2;go_ret;exact(show vm _ _ _ from⟨_,rfl,rfl⟩)
 have e0:(a==0)=false:=by simpa using h0
 have hm:=SJ h0;have hm2:max a (-a)<=1000000000000000:=by omega
 have Nv:0<max a (-a):=by omega
 go_enter func432,ntmps432;go_wp2_with fail;all_goals
  go_ret;exact(show vm _ _ _ from⟨_,rfl,rfl⟩)
def Cg(a b:Int)(ha:uA a)(hb:uA b)(w:bq):xC 433 #[xS ⟨#[47]⟩,a,b] w (vm w):=by
 obtain⟨a1,a2⟩:=ha;obtain⟨b1,b2⟩:=hb;by_cases h0:b=0
 .subst h0;go_enter func433,ntmps433;go_wp2;go_ret;exact(show vm _ _ _ from⟨_,rfl,rfl⟩)
 have e0:(b==0)=false:=by simpa using h0
 go_enter func433,ntmps433;go_wp2;go_ret;exact(show vm _ _ _ from⟨_,rfl,rfl⟩)
end
section
open Go.RowKit Go.Shelf
structure qcl where
 k:Int
 n:Int
 s:bS
 a:Option Addr
 len:Nat
 cap:Nat
instance:bD qcl where
 size:=4
 rep:=λ_ _ cs x=>cs=[xI x.k,xI x.n,xS x.s,xL x.a x.len x.cap]/\x.s.size<=maxLen
 len:=λh=>by rw[h.1];rfl
 flat:=λh u hu=>by rw[h.1]at hu;simp at hu;rcases hu with rfl|rfl|rfl|rfl<;>rfl
 ev:=λh _=>h
end
section
open Go.RowKit
end
section
open Go.RowKit Go.Shelf
end
section
open Go Go.RowKit
section
variable {P:Program}{md:Region.Mode}{hd:List Oper}{last:Oper}{Q:Exit->Act->bq->Prop}
def Qt(P:Program)(last:Oper)(Q:Exit->Act->bq->Prop):Exit->Act->bq->Prop
 | .normal,a,w=>last.wp P a w (λa' w'=>Q .normal a' w') Q
 |e,a,w=>Q e a w
def Zz {o:Oper}{a:Act}{K:Act->bq->Prop}(hh:o.wp P a w K (Qt P last Q)):o.wp P a w K Q:=by
 unfold Oper.wp at*;generalize(execOp a.eval o).run P w=r at*;cases r with
 |ok n w'=>
  cases n<;>simp only[Oper.upon]at hh⊢<;>
   first
    |exact hh
    |exact Calls.mono hh (λe w'' he=>by cases e<;>exact he)
 |halt x w'=>cases x<;>simp only[Oper.upon]at hh⊢<;>exact hh
def vC {o:Oper}(h:o.guard=none)(y:Nat->Option Bool):Region.wanted o y=true:=by simp[Region.wanted,h]
def Ug(hi:i<hd.length):(hd++[last]).toArray[i]? =hd.toArray[i]? :=by
 simp[aq hi]
def Ku:(hd++[last]).toArray[hd.length]? =some last:=by simp
def lR {listed:Array Bool}{n:Nat}(hs:listed.size=n)(hi:i<n)(d:Bool):(listed.push false).getD i d=listed.getD i d:=by
 have h:i<listed.size:=by omega
 simp[Array.getElem?_push,h,show i≠listed.size from by omega]
def Mx {listed:Array Bool}{n:Nat}(hs:listed.size=n)(d:Bool):(listed.push false).getD n d=false:=by
 subst hs;simp
def Be {listed:Array Bool}(hi:i<listed.size)(d d':Bool):listed.getD i d=listed.getD i d':=by
 simp[hi]
def yK {listed:Array Bool}(hsz:listed.size=hd.length)(jE:∀i o,hd[i]? =some o->∀e∈o.after,Region.binds md e=true->e.on<i)(hi:i<hd.length):
 i∈Region.ready md (hd++[last]).toArray (listed.push false)↔i∈Region.ready md hd.toArray listed:=by
 rw[mem_ready,mem_ready,Ug hi,lR hsz hi];refine and_congr Iff.rfl ⟨λ⟨o,ho,h⟩=>⟨o,ho,λe he hb=> ?_⟩,λ⟨o,ho,h⟩=>⟨o,ho,λe he hb=> ?_⟩⟩
 .have cE:=jE i o (by simpa using ho) e he hb;rw[<-lR hsz (by omega)];exact h e he hb
 have cE:=jE i o (by simpa using ho) e he hb;rw[lR hsz (by omega)];exact h e he hb
def IT {listed:Array Bool}(hsz:listed.size=hd.length)(jE:∀i o,hd[i]? =some o->∀e∈o.after,Region.binds md e=true->e.on<i)(hr:Region.ready md hd.toArray listed=[]):∀i,i<hd.length->listed.getD i true=true:=by
 intro i;induction i using Nat.strongRecOn with
 |_ i ih=>
  intro hi;cases hc:listed.getD i true with
  |true=>rfl
  |false=>
   have:i∈Region.ready md hd.toArray listed:=by
    have⟨o,ho⟩:=fg hd i hi;refine mem_ready.2 ⟨hc,o,by simpa using ho,λe he hb=> ?_⟩;have cE:=jE i o ho e he hb;rw[Be (by omega) false true];exact ih e.on cE (by omega)
   rw[hr]at this;cases this
def IU {listed:Array Bool}(hsz:listed.size=hd.length)(ha:∀i,i<hd.length->listed.getD i true=true):Region.ready md (hd++[last]).toArray ((listed.push false).setIfInBounds hd.length true)=[]:=by
 rw[List.eq_nil_iff_forall_not_mem];intro j hj;have⟨h1,o,ho,_⟩:=mem_ready.1 hj;have zx:j<(hd++[last]).toArray.size:=(ab.1 ho).1;simp at zx;by_cases hjn:j=hd.length
 .subst hjn;have:hd.length<(listed.push false).size:=by simp[hsz]
  simp[hsz]at h1
 rw[getD_set_ne true (by omega),lR hsz (by omega),ha j (by omega)]at h1;cases h1
def IV {listed:Array Bool}(hsz:listed.size=hd.length)(F5:∀e∈last.after,Region.binds md e=true->e.on<hd.length)(ha:∀i,i<hd.length->listed.getD i true=true):hd.length∈Region.ready md (hd++[last]).toArray (listed.push false):=by
 refine mem_ready.2 ⟨Mx hsz _,last,Ku,λe he hb=> ?_⟩;have cE:=F5 e he hb;rw[lR hsz cE,Be (by omega) false true];exact ha _ cE
def E5(hgl:last.guard=none){listed:Array Bool}(hsz:listed.size=hd.length)(ha:∀i,i<hd.length->listed.getD i true=true){fuel:Nat}{a:Act}(h:Qt P last Q .normal a w):
 wpOp P (hd++[last]).toArray Q hd.length (wpAny P md (hd++[last]).toArray Q fuel ((listed.push false).setIfInBounds hd.length true)) a w:=by
 unfold wpOp;rw[Ku];simp only[vC hgl,if_true];refine .inl (Oper.wp_mono (λa' w' hq=> ?_) h);have hn:=IU (md:=md) (last:=last) hsz ha;cases fuel with
 |zero=>exact⟨hn,hq⟩
 |succ f=>exact⟨λ_=>hq,λi hi=>by rw[hn]at hi;cases hi⟩
def My(hg:∀o∈hd,o.guard=none)(hgl:last.guard=none)(hs:Region.sinkB md (hd++[last]).toArray hd.length=true)
 (jE:∀i o,hd[i]? =some o->∀e∈o.after,Region.binds md e=true->e.on<i)(F5:∀e∈last.after,Region.binds md e=true->e.on<hd.length):
 ∀(fuel:Nat)(listed:Array Bool)(a:Act)(w:bq),HeadInv md (hd++[last]).toArray hd.length (listed.push false)->listed.size=hd.length->
  wpAny P md hd.toArray (Qt P last Q) fuel listed a w->wpAny P md (hd++[last]).toArray Q (fuel+1) (listed.push false) a w:=by
 have hc:Region.chainB md (hd++[last]).toArray hd.length=true:=by
  unfold Region.chainB;rw[List.all_eq_true];intro t ht;have:t<hd.length+1:=by simpa using ht
  simp only[Bool.or_eq_true,decide_eq_true_eq];exact .inl (by omega)
 have hn:hd.length<(hd++[last]).toArray.size:=by simp
 have full:∀(listed:Array Bool),HeadInv md (hd++[last]).toArray hd.length (listed.push false)->listed.size=hd.length->hd.length∈Region.ready md (hd++[last]).toArray (listed.push false)->∀i,i<hd.length->listed.getD i true=true:=by
  intro listed inv hsz hr i hi;cases hci:listed.getD i true with
  |true=>rfl
  |false=>exact absurd hr (tail_waits hs hc hn inv _ i rfl hi (by rw[lR hsz hi];exact hci) hd.length cN)
 have some_:∀(listed:Array Bool),listed.size=hd.length->Region.ready md (hd++[last]).toArray (listed.push false)≠[]:=by
  intro listed hsz he;have hh:Region.ready md hd.toArray listed=[]:=by
   rw[List.eq_nil_iff_forall_not_mem];intro j hj;have⟨_,o,ho,_⟩:=mem_ready.1 hj;have zx:j<hd.length:=by simpa using(ab.1 ho).1
   have:=(yK (last:=last) hsz jE zx).2 hj;rw[he]at this;cases this
  have:=IV hsz F5 (IT hsz jE hh);rw[he]at this;cases this
 have Rt:∀(listed:Array Bool)(i:Nat),i∈Region.ready md (hd++[last]).toArray (listed.push false)->i<hd.length\/i=hd.length:=by
  intro listed i hi;have⟨_,o,ho,_⟩:=mem_ready.1 hi;have:i<hd.length+1:=by simpa using(ab.1 ho).1
  omega
 intro fuel;induction fuel with
 |zero=>
  intro listed a w inv hsz h;refine⟨λhe=>absurd he (some_ listed hsz),λi hi=> ?_⟩;rcases Rt listed i hi with cE|rfl
  .have:=(yK (last:=last) hsz jE cE).1 hi;rw[h.1]at this;cases this
  exact E5 hgl hsz (full listed inv hsz hi) h.2
 |succ fuel ih=>
  intro listed a w inv hsz h;refine⟨λhe=>absurd he (some_ listed hsz),λi hi=> ?_⟩;rcases Rt listed i hi with cE|rfl
  .have h1:=h.2 i ((yK (last:=last) hsz jE cE).1 hi);have inv2:=inv.set hi cE;have e:(listed.push false).setIfInBounds i true=(listed.setIfInBounds i true).push false:=by
    apply Array.ext_getElem?;intro j;simp only[Array.getElem?_setIfInBounds,Array.getElem?_push,Array.size_push,Array.size_setIfInBounds];grind
   rw[e]at inv2⊢;have⟨o,ho⟩:=fg hd i cE;have ho1:hd.toArray[i]? =some o:=by simpa using ho
   have ho2:(hd++[last]).toArray[i]? =some o:=(Ug cE).trans ho1;have hw:=hg o (ai ho);unfold wpOp at h1⊢;simp only[ho1,ho2,vC hw,if_true]at h1⊢;refine h1.imp (λh2=>Oper.wp_mono (λa' w' h3=>ih _ a' w' inv2 (by simpa using hsz) h3) (Zz h2)) (λh2=>⟨h2.1,h2.2⟩)
  have ha:=full listed inv hsz hi;have hr:Region.ready md hd.toArray listed=[]:=by
   rw[List.eq_nil_iff_forall_not_mem];intro j hj;have⟨h1,o,ho,_⟩:=mem_ready.1 hj;have zx:j<hd.length:=by simpa using(ab.1 ho).1
   rw[ha j zx]at h1;cases h1
  exact E5 hgl hsz ha (h.1 hr)
def Bf(hd:List Oper)(last:Oper):Bool:=
 hd.all (λo=>o.guard.isNone)&&last.guard.isNone&&Region.sinkB .any (hd++[last]).toArray hd.length&&
 (List.range hd.length).all (λi=>match hd[i]? with|some o=>o.after.all (λe=> !Region.binds .any e||decide (e.on<i))|none=>true)&&
 last.after.all (λe=> !Region.binds .any e||decide (e.on<hd.length))
def qH(hB:Bf hd last=true){fuel:Nat}{a:Act}(h:wpAny P .any hd.toArray (Qt P last Q) fuel (Array.replicate hd.length false) a w):wpAny P .any (hd++[last]).toArray Q (fuel+1) (Array.replicate (hd++[last]).length false) a w:=by
 unfold Bf at hB;simp only[aF]at hB;obtain⟨⟨⟨⟨b1,b2⟩,b3⟩,b4⟩,b5⟩:=hB;have hg:∀o∈hd,o.guard=none:=λo ho=>by simpa using List.all_eq_true.1 b1 o ho
 have hgl:last.guard=none:=by simpa using b2
 have jE:∀i o,hd[i]? =some o->∀e∈o.after,Region.binds .any e=true->e.on<i:=λi o ho e he hb=>by
  have h1:=List.all_eq_true.1 b4 i (List.mem_range.2 (ag.1 ho).1);rw[ho]at h1;have h2:=Array.all_eq_true_iff_forall_mem.1 h1 e he;simpa [hb]using h2
 have F5:∀e∈last.after,Region.binds .any e=true->e.on<hd.length:=λe he hb=>by
  have h2:=Array.all_eq_true_iff_forall_mem.1 b5 e he;simpa [hb]using h2
 have e:(Array.replicate hd.length false).push false=Array.replicate (hd++[last]).length false:=by simp[Array.replicate_succ]
 have qem:HeadInv .any (hd++[last]).toArray hd.length ((Array.replicate hd.length false).push false):=by
  rw[e];exact⟨by simp,λj oj _ hl=>(by rw[getD_replicate_false]at hl;cases hl),λt _ ht=>getD_in (by simpa using ht) (getD_replicate_false _ _)⟩
 have FP:=My hg hgl b3 jE F5 _ _ a w qem (by simp) h;rw[e]at FP;exact FP
def yL {id:Nat}{a:Act}{c p s:Oper}{l:List Oper}(n:Nat)(hl:l=((l.take n++[c])++[p])++[s])(hm:P.follows .mixedOrders=true)(hB1:Bf (l.take n) c=true)(hB2:Bf (l.take n++[c]) p=true)(hB3:Bf ((l.take n++[c])++[p]) s=true)(hB:Region.lexB .any (l.take n).toArray=true)
 (h:∀(ι:Type) [Nonempty ι](F:ι->bq),(∀i,bC w (F i))->(∀W,bC w W->∃j,W=F j)->wpQuiet P (l.take n).toArray (λw'=>∃n,w'=F n) (λa'=>∀w',(∃n,w'=F n)->c.wp P a' w' (λa1 w1=>p.wp P a1 w1 (λa2 w2=>s.wp P a2 w2 (λa3 w3=>Q .normal a3 w3) Q) (Qt P s Q)) (Qt P p (Qt P s Q))) (l.take n) a):(Code.region id l.toArray true).wp P Q a w:=by
 haveI:Nonempty {W:bq//bC w W}:=⟨⟨_,ay _ w⟩⟩;have hq:=h {W:bq//bC w W} Subtype.val (λi=>i.2) (λW hW=>⟨⟨W,hW⟩,rfl⟩);generalize l.take n=hd at*;subst hl;simp only[Region.lexB,aF]at hB;have XD:=wpAnyQ_lex (md:= .any) hB.1 hd 0 (Array.replicate hd.length false) a (by simp) (by simpa using hB.2) hq;have XE:=wpAny_of_quiet (Q':=Qt P c (Qt P p (Qt P s Q))) (λ_ w' hw' h=>h w' hw') _ _ _ (w.drew) ⟨⟨_,(ay _ w).drew⟩,rfl⟩ XD;have h1:=qH hB3 (qH hB2 (qH hB1 XE));refine wp_region_any hm ?_;have es:(((hd++[c])++[p])++[s]).toArray.size=(((hd++[c])++[p])++[s]).length:=by simp
 rw[es];have ef:(((hd++[c])++[p])++[s]).length=hd.length+1+1+1:=by simp
 rw[show hd.length+1+1+1=(((hd++[c])++[p])++[s]).length from ef.symm]at h1;exact h1
end
def jf {P:Program}{id:Nat}{Q:Exit->Act->bq->Prop}{a:Act}{l:List Oper}(hm:P.follows .mixedOrders=true)(hB:Region.lexB .any l.toArray=true)
 (h:∀(ι:Type) [Nonempty ι](F:ι->bq),(∀i,bC w (F i))->(∀W,bC w W->∃j,W=F j)->wpQuiet P l.toArray (λw'=>∃n,w'=F n) (λa'=>∀w',(∃n,w'=F n)->Q .normal a' w') l a):(Code.region id l.toArray true).wp P Q a w:=
 wp_region_quiet (C:=λw'=>∃n:{W:bq//bC w W},w'=n.1) hm hB ⟨⟨_,(ay _ w).drew⟩,rfl⟩ (by haveI:Nonempty {W:bq//bC w W}:=⟨⟨_,ay _ w⟩⟩;simpa using h {W:bq//bC w W} Subtype.val (λi=>i.2) (λW hW=>⟨⟨W,hW⟩,rfl⟩))
end
section
open Go.RowKit
def uH(s:bS)(h:bF s=true)(w:bq):xC 46 #[s] w (j7 true w):=by
 obtain⟨⟨h1,h2⟩,h3⟩:(1<=s.size/\s.size<=20)/\(match s.data.toList with|[]=>false|c::r=>eP c.toNat&&(c::r).all λc=>cG c.toNat)=true:=by
  unfold bF at h;rw[aF,aF]at h;exact⟨⟨by simpa using h.1.1,by simpa using h.1.2⟩,h.2⟩
 have hall:∀(k:Nat)(hk:k<s.size),cG (s[k]).toNat=true:=λk hk=>by
  have h4:=dY s k hk;cases hl:s.data.toList with
  |nil=>rw[hl]at h4;simp at h4
  |cons a r=>
   rw[hl]at h3 h4;have h5:=(Bool.and_eq_true_iff.1 h3).2;exact List.all_eq_true.1 h5 _ (ai h4)
 have h0:eP (s[0]'h1).toNat=true:=by
  have h4:=dY s 0 h1;cases hl:s.data.toList with
  |nil=>rw[hl]at h4;simp at h4
  |cons a r=>
   rw[hl]at h3 h4;simp at h4;rw[<-h4];exact(Bool.and_eq_true_iff.1 h3).1
 have XP:=aV hall;obtain⟨c0,hc0⟩:∃c,s[0]'h1=c:=⟨_,rfl⟩;rw[hc0]at h0;obtain⟨a1,a2⟩:97<=(c0.toNat:Int)/\(c0.toNat:Int)<=122:=by simpa [eP]using h0
 have hs1:¬(s.size:Int)<1:=by omega
 have hs2:¬20<(s.size:Int):=by omega
 have qX:(0:Int)<s.size:=by omega
 have a3:¬(c0.toNat:Int)<97:=by omega
 have a4:¬122<(c0.toNat:Int):=by omega
 delta xC;go_in;go_wp2;go_loopg [2,3,4,25]s.size(λg r2 _ _ iv wr=>∃k:Nat,k<=s.size/\g=s.size-k/\iv=xI k/\r2=xB false/\w=wr);exact⟨0,ax _,rfl,rfl,rfl,rfl⟩;obtain⟨k,hk,rfl,rfl,rfl,rfl⟩:=hrel;by_cases cE:k<s.size;rotate_left
 .go_wp2;go_ret;exact⟨rfl,rfl⟩
 have hn:=XP.o k cE;have⟨c,hc⟩:=js (s[k]);rw[hc]at hn;have hkz:(k:Int)<s.size:=by omega
 have NN:(0:Int)<=k:=an _;have hn':(97<=(c.toNat:Int)/\(c.toNat:Int)<=122)\/(48<=(c.toNat:Int)/\(c.toNat:Int)<=57)\/(c.toNat:Int)=95:=by
  simpa [cG,eP,or_assoc]using hn
 rcases hn' with⟨b1,b2⟩|⟨b1,b2⟩|b1
 .have d1:¬(c.toNat:Int)<97:=by omega
  have d2:¬122<(c.toNat:Int):=by omega
  go_wp2;go_roundg(s.size-(k+1));exact⟨k+1,by omega,rfl,by go_num,rfl,rfl⟩;omega
 .have d1:(c.toNat:Int)<97:=by omega
  have d2:¬(c.toNat:Int)<48:=by omega
  have d3:¬57<(c.toNat:Int):=by omega
  go_wp2;go_roundg(s.size-(k+1));exact⟨k+1,by omega,rfl,by go_num,rfl,rfl⟩;omega
 have d1:(c.toNat:Int)<97:=by omega
 have d2:¬(c.toNat:Int)<48:=by omega
 have d3:57<(c.toNat:Int):=by omega
 have d4:((c.toNat:Int)!=95)=false:=by simpa using b1
 go_wp2;go_roundg(s.size-(k+1));exact⟨k+1,by omega,rfl,by go_num,rfl,rfl⟩;omega
def S4(n:Int)(h:(1<=n/\n<=100000)\/(-20<=n/\n<=-1))(w:bq):xC 48 #[n] w (j7 true w):=by
 rcases h with⟨h1,h2⟩|⟨h1,h2⟩
 .go_enter func48,ntmps48;go_wp2;go_ret;exact⟨rfl,rfl⟩
 have h3:¬1<=n:=by omega
 delta xC;go_in;go_wp2;go_ret;exact⟨rfl,rfl⟩
def rG(a:bS):Op.bytesLess a.toList a.toList=false:=by
 cases h:Op.bytesLess a.toList a.toList with
 |false=>rfl
 |true=>
  rw[Go.Proofs.bytesLess_eq]at h;exact absurd (by simpa using h) (List.lt_irrefl _)
def ME(a:bS)(w:bq):xC 87 #[a,a] w (j7 (xI 0) w):=by
 have h:=rG a;delta xC;go_in;go_wp2_with fail;refine ey (zJ _ _) ?_;go_wp2_with fail;refine ey (zJ _ _) ?_;go_wp2;go_ret;exact⟨rfl,rfl⟩
def Cw(k n:Int)(s:bS)(a b:fM)(c d:Nat)(w:bq):
 xC 189 #[.agg #[k,n,s,xL a 0 c], .agg #[k,n,s,xL b 0 d]] w (di (xI 0) w):=by
 delta xC;go_in;go_wp2_with fail;refine ey (qD _ _) ?_;go_wp2_with fail;refine ey (qD _ _) ?_;go_wp2_with fail;refine ey (ME _ _) ?_;go_wp2_with fail;refine ey (sT _ _ _ _ _ _) ?_;go_wp2;go_ret;exact⟨rfl,(Bx.ei w _ _).1⟩
def yP(k n:Int)(s:bS)(a b:fM)(c d:Nat)(w:bq):
 xC 128 #[.agg #[k,n,s,xL a 0 c], .agg #[k,n,s,xL b 0 d]] w (di true w):=by
 have HX:=aV (Bx.ei w (xK #[k,n,s,xL a 0 c] 50) (xK #[k,n,s,xL b 0 d] 50));have⟨c0,c1,c2,c3⟩:=aU (HX.o.cP rfl);have⟨d0,d1,d2,d3⟩:=aU (HX.o.cZ rfl);delta xC;go_in;go_wp2_with fail;refine dx (Cw _ _ _ _ _ _ _ _) λw' hb=> ?_;have HB:=aV (HX.o.aT hb);go_wp2;go_ret;exact⟨rfl,HB.o.1⟩
def yQ(v:bE):Prop:=∃k n s,v= .mk k n s []
def vF(l:List bE)(hf:∀y∈l,yQ y)(hl:l.length<=20)(M:bY)(w:bq)(v:bt)(hs:aS M w v l):
 xC 129 #[v,v] w (di true w):=by
 have HV:Hd (∀(i:Nat)k n s ll,l[i]? =some (.mk k n s ll)->_):=λi k n s ll hx=>ep hs hx;have HF:=aV hf;obtain⟨a,cY,rfl,dN,hmx,_⟩:=hs.bj;generalize hn:l.length=n at*;have HN:=aV hn;have wK:((n:Int)!=(n:Int))=false:=by simp
 delta xC;go_in;go_wp2;go_loopg [4,5,6,14]n(λg r4 _ _ iv wr=>∃i:Nat,i<=n/\g=n-i/\iv=xI i/\r4=xB false/\Hd (bC w wr));exact⟨0,ax _,rfl,rfl,rfl,aV eH⟩;obtain⟨i,hi,rfl,rfl,rfl,HB⟩:=hrel;rename World=>wr;by_cases cE:i<n
 .have⟨y,hy⟩:=fg l i (by rw[HN.o];exact cE);obtain⟨vk,vn,vs,rfl⟩:=HF.o y (ai hy);have⟨b,off,cap,za,zc,hv,hbl,hsl,_,hcells⟩:=HV.o i vk vn vs [] hy;obtain⟨rfl,rfl⟩:=jk hv;obtain⟨⟨g0,g1,g2,g3⟩,-⟩:=hcells wr HB.o;rw[aD]at g3;have mC:=aV hcells;have i0:(0:Int)<=(i:Int):=an _;have i1:(i:Int)<(n:Int):=by omega
  go_upto_region 6 with fail;have⟨W1,hW1⟩:=dd (wr.alloc (xK #[vk,vn,vs,xL za 0 zc] 50));have gy:=aV (show ed W1 wr (xK #[vk,vn,vs,xL za 0 zc] 50)by rw[hW1];exact az wr _);have cu:=aV (show bC w W1 by rw[hW1];exact HB.o.alloc HB.o.size _);rw[<-hW1];have HK:Hd (∀V,bC W1 V->(cC V b (off+i*4) vk/\cC V b (off+i*4+1) vn/\cC V b (off+i*4+2) vs/\cC V b (off+i*4+3) (xL za 0 zc))/\(oT V wr 0 vk/\oT V wr 1 vn/\oT V wr 2 vs/\oT V wr 3 (xL za 0 zc))):=λV hb=>by
   have h1:=(mC.o V (cu.o.trans (hb.mono cu.o.size))).1;rw[aD]at h1;exact⟨h1,aU ((hb.block _ (ab.1 gy.o).1).trans gy.o)⟩
  go_cut [25](λs25 wx=>s25=xB false/\Hd (bC w wx))
  .refine jf (by kernel_rfl) (by kernel_rfl) λι _ F jr vO=> ?_;have s0:=λi=>(HK.o (F i) (jr i)).1.1;have s1:=λi=>(HK.o (F i) (jr i)).1.2.1;have s2:=λi=>(HK.o (F i) (jr i)).1.2.2.1;have s3:=λi=>(HK.o (F i) (jr i)).1.2.2.2;have t0:=λi=>(HK.o (F i) (jr i)).2.1;have t1:=λi=>(HK.o (F i) (jr i)).2.2.1;have t2:=λi=>(HK.o (F i) (jr i)).2.2.2.1;have t3:=λi=>(HK.o (F i) (jr i)).2.2.2.2;have iY:=aV jr;have uR:=aV vO;repeat(go_big_quiet_step((go_at_call 128;refine dx (yP _ _ _ _ _ _ _ _) λw3 hb3=> ?_;exact⟨rfl,uR.o _ ((iY.o _).trans (hb3.mono (iY.o _).size))⟩)))
   refine wpQuiet_nil ?_;rintro _⟨nq,rfl⟩;go_wp2;go_meet;exact⟨rfl,aV (cu.o.trans ((iY.o _).mono cu.o.size))⟩
  obtain⟨rfl,cR⟩:=hcut;go_wp2;go_roundg(n-(i+1));exact⟨i+1,by omega,rfl,by go_num,rfl,cR⟩;omega
 obtain rfl:i=n:=by omega
 go_wp2;go_ret;exact⟨rfl,HB.o⟩
def PZ(y:bE):Prop:=∀(M:bY)(w:bq)(u:bt),dq M w u y->Tb w->xC 49 #[u] w (di true w)
def Cx(l:List bE)(hf:∀y∈l,PZ y)(hl:l.length<=8)(M:bY)(w:bq)(hT:Tb w)(v:bt)(hs:aS M w v l):
 xC 47 #[v] w (di true w):=by
 have HV:Hd (∀(i:Nat)k n s ll,l[i]? =some (.mk k n s ll)->_):=λi k n s ll hx=>ep hs hx;have HF:=aV hf;have UF:=aV hT;obtain⟨a,cY,rfl,dN,hmx,_⟩:=hs.bj;generalize hn:l.length=n at*;have HN:=aV hn;delta xC;go_in;go_wp2;go_loopg [2,4,10]n(λg r2 _ iv wr=>∃i:Nat,i<=n/\g=n-i/\iv=xI i/\r2=xB false/\Hd (bC w wr));exact⟨0,ax _,rfl,rfl,rfl,aV eH⟩;obtain⟨i,hi,rfl,rfl,rfl,HB⟩:=hrel;rename World=>wr;by_cases cE:i<n
 .have⟨y,hy⟩:=fg l i (by rw[HN.o];exact cE);obtain⟨vk,vn,vs,vl⟩:=y;have⟨b,off,cap,za,zc,hv,hbl,hsl,hvm,hcells⟩:=HV.o i vk vn vs vl hy;obtain⟨rfl,rfl⟩:=jk hv;obtain⟨⟨g0,g1,g2,g3⟩,-⟩:=hcells wr HB.o;have i0:(0:Int)<=(i:Int):=an _;have i1:(i:Int)<(n:Int):=by omega
  have cI:Hd (∀o,xC 49 #[.agg #[vk,vn,vs,xL za vl.length zc]] (wr.alloc o) λe w'=>e=xR true/\Below (wr.alloc o).heap.size (wr.alloc o) w'):=λo=>
   HF.o _ (ai hy) M (wr.alloc o) _ (hcells _ (HB.o.alloc HB.o.size o)).2 (UF.o.aT (HB.o.alloc HB.o.size o));generalize vl.length=vln at*;go_wp2_with fail;refine dx (cI.o _) λw1 hb1=> ?_;have cu:=aV (HB.o.trans ((ct hb1).mono HB.o.size));go_wp2;go_roundg(n-(i+1));exact⟨i+1,by omega,rfl,by go_num,rfl,cu⟩;omega
 obtain rfl:i=n:=by omega
 go_wp2;go_ret;exact⟨rfl,HB.o⟩
def vW(a b:fM)(c d:Nat)(w:bq):xC 201 #[xL a 0 c,xL b 0 d] w (j7 true w):=by
 delta xC;go_in;go_wp2_with fail;go_loop [4,5,13](λr4 _ i=>r4=xB false/\i=xI 0)(λ_ _ _=>0);exact⟨rfl,rfl⟩;obtain⟨rfl,rfl⟩:=hrel;go_wp2;go_ret;exact⟨rfl,rfl⟩
def qi(s:bS)(a b:fM)(c d:Nat)(w:bq):xC 130 #[.agg #[s,xL a 0 c], .agg #[s,xL b 0 d]] w (di true w):=by
 have HX:=aV (Bx.ei w (xK #[s,xL a 0 c] 53) (xK #[s,xL b 0 d] 53));have⟨c0,c1⟩:=aZ (HX.o.cP rfl);have⟨d0,d1⟩:=aZ (HX.o.cZ rfl);delta xC;go_in;go_wp2_with fail;refine ey (vW _ _ _ _ _) ?_;go_wp2;go_ret;exact⟨rfl,HX.o.1⟩
abbrev MF:bt:= .agg #[xI 0,"","","",xI 0,xI 0,"",""]
def IX(w:bq):xC 131 #[.agg #[xI 0,"","","",xI 0,xI 0,"",""], .agg #[xI 0,"","","",xI 0,xI 0,"",""]] w (di true w):=by
 have heq:∀w,(Op.equal 57 MF MF).run prog w= .ok true w:=λw=>by kernel_rfl
 unfold MF at heq;have HX:=aV (Bx.ei w (xK #[xI 0,"","","",xI 0,xI 0,"",""] 57) (xK #[xI 0,"","","",xI 0,xI 0,"",""] 57));have⟨c0,c1,c2,c3,c4,c5,c6,c7⟩:=bz (HX.o.cP rfl);have⟨d0,d1,d2,d3,d4,d5,d6,d7⟩:=bz (HX.o.cZ rfl);delta xC;go_in;go_wp2;go_ret;exact⟨rfl,HX.o.1⟩
abbrev zR(k id:Int)(c n:bS)(vv:bt)(dn:bS)(df:bt):bt:= .agg #[k,id,c,n,xI 0,xI 0,"",(),vv,dn,df,xI 0,"","","",xI 0,xI 0,"",""]
def ir(k id:Int)(c n:bS)(vv:bt)(dn:bS)(df:bt):Obj:=xK #[k,id,c,n,xI 0,xI 0,"",(),vv,dn,df,xI 0,"","","",xI 0,xI 0,"",""] 59
structure OpC(W:bq)(g:Nat)(k id:Int)(c n:bS)(vv:bt)(dn:bS)(df:bt):Prop where
 c0:W.cell? (g,0)=some (xI k)
 c1:W.cell? (g,1)=some (xI id)
 c2:W.cell? (g,2)=some (xS c)
 c3:W.cell? (g,3)=some (xS n)
 c4:W.cell? (g,4)=some (xI 0)
 c5:W.cell? (g,5)=some (xI 0)
 c6:W.cell? (g,6)=some (xS ())
 c7:W.cell? (g,7)=some (xL none 0 0)
 c8:W.cell? (g,8)=some vv
 c9:W.cell? (g,9)=some (xS dn)
 c10:W.cell? (g,10)=some df
 c11:W.cell? (g,11)=some (xI 0)
 c12:W.cell? (g,12)=some (xS ())
 c13:W.cell? (g,13)=some (xS ())
 c14:W.cell? (g,14)=some (xS ())
 c15:W.cell? (g,15)=some (xI 0)
 c16:W.cell? (g,16)=some (xI 0)
 c17:W.cell? (g,17)=some (xS ())
 c18:W.cell? (g,18)=some (xS ())
def cQ {k:Int}{c n:bS}{vv:bt}{dn:bS}{df:bt}(h:cX W g (ir k id c n vv dn df)):OpC W g k id c n vv dn df:=by
 unfold ir at h;constructor<;>simp[World.cell?,h]
structure S5(w:bq)(vv:bt)(dn:bS)(df:bt):Prop where
 vs:∃a n c,vv=xL a n c
 fs:∃a n c,df=xL a n c
 bR:∀W,bC w W->xC 129 #[vv,vv] W (di true W)
 dz:∀W,bC w W->xC 130 #[.agg #[dn,df], .agg #[dn,df]] W (di true W)
def Cy(w:bq):xC 129 #[(),()] w (di true w):=vF [] (by simp) (by simp) xF w _ (aS.nil _ _)
def S5.nil(w:bq):S5 w () () ():=⟨⟨_,_,_,rfl⟩,⟨_,_,_,rfl⟩,λW _=>Cy W,λW _=>qi _ _ _ _ _ W⟩
def S5.list(hs:aS M w v l)(hf:∀y∈l,yQ y)(hl:l.length<=20):S5 w v () ():=⟨by have⟨a,c,e,_⟩:=hs.bj;exact⟨_,_,_,e⟩,⟨_,_,_,rfl⟩,λW hb=>vF l hf hl M W v (hs.aT hb),λW _=>qi _ _ _ _ _ W⟩
def qI(k id:Int)(c n:bS)(vv:bt)(dn:bS)(df:bt)(w:bq)(h:S5 w vv dn df):
 xC 52 #[zR k id c n vv dn df,zR k id c n vv dn df] w (di true w):=by
 obtain⟨⟨va,vn,vc,rfl⟩,⟨fa,fn,fc,rfl⟩,h1,h2⟩:=h;have H1:=aV h1;have H2:=aV h2;clear h1 h2;have HX:=aV (Bx.ei w (ir k id c n (xL va vn vc) dn (xL fa fn fc)) (ir k id c n (xL va vn vc) dn (xL fa fn fc)));have⟨a0,a1,a2,a3,a4,a5,a6,a7,a8,a9,Aj,a11,a12,a13,a14,a15,a16,a17,a18⟩:=cQ (HX.o.cP rfl);have⟨b0,b1,b2,b3,b4,b5,b6,b7,b8,b9,b10,b11,b12,b13,b14,b15,b16,b17,b18⟩:=cQ (HX.o.cZ rfl);delta xC;go_in;go_upto_region 1 with fail;have⟨W1,hW1⟩:=dd ((w.alloc (ir k id c n (xL va vn vc) dn (xL fa fn fc))).alloc (ir k id c n (xL va vn vc) dn (xL fa fn fc)));have gy:=aV (show Bx w [ir k id c n (xL va vn vc) dn (xL fa fn fc),ir k id c n (xL va vn vc) dn (xL fa fn fc)] W1 by rw[hW1];exact HX.o);rw[<-hW1]at a0 a1 a2 a3 a4 a5 a6 a7 a8 a9 Aj a11 a12 a13 a14 a15 a16 a17 a18 b0 b1 b2 b3 b4 b5 b6 b7 b8 b9 b10 b11 b12 b13 b14 b15 b16 b17 b18;unfold ir at hW1;rw[<-hW1];clear hW1 HX;go_wp2_with fail;refine dx (yP 0 0 () none none 0 0 _) λw1 hb1=> ?_;have gz:=aV (gy.o.aT hb1);clear hb1 a0 a1 a2 a3 a4 a5 a6 a7 a8 a9 Aj a11 a12 a13 a14 a15 a16 a17 a18 b0 b1 b2 b3 b4 b5 b6 b7 b8 b9 b10 b11 b12 b13 b14 b15 b16 b17 b18;have a8:=(cQ (gz.o.cP rfl)).c8;have b8:=(cQ (gz.o.cZ rfl)).c8;go_wp2_with fail;refine dx (H1.o _ gz.o.1) λw2 cJ=> ?_;have mn:=aV (gz.o.aT cJ);clear cJ a8 b8;have a9:=(cQ (mn.o.cP rfl)).c9;have b9:=(cQ (mn.o.cZ rfl)).c9;have Aj:=(cQ (mn.o.cP rfl)).c10;have b10:=(cQ (mn.o.cZ rfl)).c10;go_wp2_with fail;refine dx (H2.o _ mn.o.1) λw3 hb3=> ?_;have nX:=aV (mn.o.aT hb3);clear hb3 a9 b9 Aj b10;obtain⟨-,-,-,-,-,-,-,-,-,-,-,a11,a12,a13,a14,a15,a16,a17,a18⟩:=cQ (nX.o.cP rfl);obtain⟨-,-,-,-,-,-,-,-,-,-,-,b11,b12,b13,b14,b15,b16,b17,b18⟩:=cQ (nX.o.cZ rfl);go_wp2_with fail;refine dx (IX _) λw4 eZ=> ?_;have od:=aV (nX.o.aT eZ);clear eZ;go_wp2;go_ret;exact⟨rfl,od.o.1⟩
end
section
open Go Go.RowKit
def j5 {P:Program}{Q:Exit->Act->bq->Prop}{id:Nat}{a:Act}{s:Oper}{l:List Oper}(n:Nat)(hl:l=l.take n++[s])(hm:P.follows .mixedOrders=true)(hB1:Bf (l.take n) s=true)(hB:Region.lexB .any (l.take n).toArray=true)
 (h:∀(ι:Type) [Nonempty ι](F:ι->bq),(∀i,bC w (F i))->(∀W,bC w W->∃j,W=F j)->wpQuiet P (l.take n).toArray (λw'=>∃n,w'=F n) (λa'=>∀w',(∃n,w'=F n)->s.wp P a' w' (λa3 w3=>Q .normal a3 w3) Q) (l.take n) a):(Code.region id l.toArray true).wp P Q a w:=by
 haveI:Nonempty {W:bq//bC w W}:=⟨⟨_,ay _ w⟩⟩;have hq:=h {W:bq//bC w W} Subtype.val (λi=>i.2) (λW hW=>⟨⟨W,hW⟩,rfl⟩);generalize l.take n=hd at*;subst hl;simp only[Region.lexB,aF]at hB;have XD:=wpAnyQ_lex (md:= .any) hB.1 hd 0 (Array.replicate hd.length false) a (by simp) (by simpa using hB.2) hq;have XE:=wpAny_of_quiet (Q':=Qt P s Q) (λ_ w' hw' h=>h w' hw') _ _ _ (w.drew) ⟨⟨_,(ay _ w).drew⟩,rfl⟩ XD;have h1:=qH hB1 XE;refine wp_region_any hm ?_;have es:(hd++[s]).toArray.size=(hd++[s]).length:=by simp
 rw[es];have ef:(hd++[s]).length=hd.length+1:=by simp
 rw[show hd.length+1=(hd++[s]).length from ef.symm]at h1;exact h1
end
end Go.Proofs.YtpjdjlnknfmfkaaGreatDoor
