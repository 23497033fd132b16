/- A part of the proof; no condition. -/
import Derived.Test.YtepaofffbkfodaaGreatDoorM01
import Derived.Lib.SmallJoins
set_option linter.all false
set_option maxHeartbeats 8000000
set_option maxRecDepth 100000
namespace Go.Proofs.YtepaofffbkfodaaGreatDoor
open Tryz
open Go.RowKit
variable{k j i b:Nat}{s:aY}{w w':ax}{en:Int}{lv:aA}{M:aV}
def FW(s:aY)(w:ax)(c:UInt8)(h:s.data.toList[0]? =some c)(hc:c<128):xC 405 #[s] w (jt (xI 1) w):=by
 have h0:0<s.size:=by have:=(Qad.1 h).1;rw[bG]at this;exact this
 have h1:s[0]=c:=by have:=dz s 0 h0;rw[h]at this;simpa using this.symm
 have h2:(c.toNat:Int)<128:=by have:=UInt8.lt_iff_toNat_lt.1 hc;simp at this;omega
 have hn:¬s.size=0:=by omega
 go_enter func405,ntmps405;go_wp2;go_ret;exact⟨rfl,rfl⟩
def Ns {l:List UInt8}(h:jX l=true){c:UInt8}(hc:l[k]? =some c):32<=c/\c<127:=by
 unfold jX at h;simp only[Qce,List.all_eq_true,decide_eq_true_eq]at h;exact h.2 c (Qaf hc)
def Bk(s:aY)(w:ax)(h:jX s.data.toList=true):xC 401 #[s] w (jt true w):=by
 have hz:s.size<=60:=by unfold jX at h;simp only[Qce,decide_eq_true_eq]at h;have:=h.1;rw[bG]at this;exact this
 have HT:=ag h;go_enter func401,ntmps401;go_wp2;go_loopg [2,3,4]s.size(λg r iv _ wr=>∃k:Nat,k<=s.size/\g=s.size-k/\iv=xI k/\r=xB false/\w=wr);case atStart=>exact⟨0,Qbf _,rfl,rfl,rfl,rfl⟩
 case round=>
  obtain⟨k,hk,rfl,rfl,rfl,rfl⟩:=hrel;by_cases bH:k<s.size
  .have⟨c,hc⟩:=jN (s[k]);have hb:=dz s k bH;rw[hc]at hb;have⟨h1,h2⟩:=Ns HT.o hb;have e1:(32:Int)<=(c.toNat:Int):=by have:=UInt8.le_iff_toNat_le.1 h1;simp at this;omega
   have e2:((c.toNat:Int)==127)=false:=by have:=UInt8.lt_iff_toNat_lt.1 h2;simp at this;simp;omega
   have e3:¬(c.toNat:Int)<32:=by omega
   have HS:=ag (show(s.extract k s.size).data.toList[0]? =some c by rw[Lib.extract_data];rw[List.getElem?_take_of_lt (by omega),List.getElem?_drop];simpa using hb);have HC:=ag (show c<128 by have:=UInt8.lt_iff_toNat_lt.1 h2;exact UInt8.lt_iff_toNat_lt.2 (by simp at this⊢;omega));have hkz:(k:Int)<s.size:=by omega
   go_wp2_with fail;refine dw (FW _ _ c HS.o HC.o) ?_;go_wp2;go_roundg(s.size-(k+1));case measure=>omega
   case rel=>exact⟨k+1,by omega,rfl,by go_num,rfl,rfl⟩
  .go_wp2;go_ret;exact⟨rfl,rfl⟩
def rB(s:aY)(w:ax)(h:jX s.data.toList=true):xC 382 #[.agg #[xI 2,xI 0,s,()]] w (cu true w):=by
 have hz:s.size<=60:=by unfold jX at h;simp only[Qce,decide_eq_true_eq]at h;have:=h.1;rw[bG]at this;exact this
 have HT:=ag h;go_enter func382,ntmps382;go_wp2_with fail;refine dw (Bk _ _ HT.o) ?_;go_wp2;go_ret;exact⟨rfl,bU⟩
def Rk {a:Nat}{d:List UInt8}{c:UInt8}(hd:∀j u,d[j]? =some u->s.data.toList[a+j]? =some u)(hc:d[k]? =some c):bL (d.take k)++s.extract (a+k) (a+k+1)=bL (d.take (k+1)):=by
 apply ByteArray.ext;apply Array.toList_inj.1;rw[Joins.data_append,Lib.extract_data];unfold bL;simp only[List.toList_toArray];rw[Qbb,hc];have:=hd k c hc;rw[show a+k+1-(a+k)=1 from by omega];congr 1;have hl:a+k<s.data.toList.length:=(Qad.1 this).1;rw[List.drop_eq_getElem_cons hl];have h2:=(Qad.1 this).2;simp[h2]
def Us(s:aY)(w:ax)(a:Nat)(d:List UInt8)(hs:s.size<=200)(ha:a<s.size)(hd:∀j u,d[j]? =some u->s.data.toList[a+1+j]? =some u/\fu u=true)(hq:s.data.toList[a+1+d.length]? =some 34)(ht:jX d=true):
 xC 341 #[s,a] w (cu (.tuple #[bL d,(a+d.length+2:Nat)]) w):=by
 have hl:a+1+d.length<s.size:=by have:=(Qad.1 hq).1;rw[bG]at this;exact this
 have hbl:∀l:List UInt8,(bL l).size=l.length:=λl=>by unfold bL;simp[ByteArray.size]
 have HD:=ag hd;have HQ:=ag hq;have HT:=ag ht;go_enter func341,ntmps341;go_wp2;go_loopg [4,5,6,7]d.length(λg r0 r1 tv iv wr=>∃k:Nat,k<=d.length/\g=d.length-k/\iv=xI (a+1+k:Nat)/\tv=xS (bL (d.take k))/\r0= ""/\r1=xI 0/\w=wr);case atStart=>exact⟨0,Qbf _,rfl,by go_num,rfl,rfl,rfl,rfl⟩
 case round=>
  obtain⟨k,hk,rfl,rfl,rfl,rfl,rfl,rfl⟩:=hrel;have bH:a+1+k<s.size:=by omega
  have⟨c,hc⟩:=jN (s[a+1+k]);have hb:=dz s (a+1+k) bH;rw[hc]at hb;have hkz:((a+1+k:Nat):Int)<s.size:=by omega
  have qfl:((a+1+k:Nat):Int)+1<=s.size:=by omega
  have hsz:(bL (d.take k)).size<=200:=by rw[hbl];simp;omega
  by_cases hkd:k<d.length
  .have⟨u,hu⟩:=eG d k hkd;have⟨h1,h2⟩:=HD.o k u hu;have huc:u=c:=by rw[hb]at h1;simpa using h1.symm
   rw[huc]at h2 hu;have e1:((c.toNat:Int)==34)=false/\((c.toNat:Int)==92)=false:=by
    unfold fu at h2;simp only[Qce,bne_iff_ne,ne_eq]at h2;constructor
    .simp;intro h;exact h2.1 (UInt8.toNat_inj.1 (by simp;omega))
    .simp;intro h;exact h2.2 (UInt8.toNat_inj.1 (by simp;omega))
   obtain⟨e1,e2⟩:=e1;have pJ:=ag (Rk (s:=s) (a:=a+1) (λj u h=>(HD.o j u h).1) hu);go_wp2;go_roundg(d.length-(k+1));case measure=>omega
   case rel=>exact⟨k+1,by omega,rfl,by go_num,by rw[<-pJ.o],rfl,rfl,rfl⟩
  .obtain rfl:k=d.length:=by omega
   have hq:c=34:=by have:=HQ.o;rw[hb]at this;simpa using this
   subst hq;have Qa:=ag (show jX (bL d).data.toList=true by unfold bL;simpa using HT.o);rw[List.take_length]at hsz⊢;go_wp2_with fail;refine cC (rB _ _ Qa.o) λw1 hb1=> ?_;have bz:=ag hb1;go_wp2;go_ret2;exact⟨by simp;omega,bz.o⟩
def CR {c:UInt8}:(c.toNat:Int)<=255:=by have:=c.toNat_lt;omega
def nr {c:UInt8}:nT c=decide (48<=(c.toNat:Int)/\(c.toNat:Int)<=57):=by
 unfold nT;rw[Bool.eq_iff_iff];simp[UInt8.le_iff_toNat_le];omega
def Nt(s:ByteArray)(w:World)(a:Nat)(c:UInt8)(hs:s.size<=200)(ha:a<s.size)(hc:s[a]=c)(hd:nT c=true)(hn:∀d,s.data.toList[a+1]? =some d->nT d=false):
 Calls prog 317 #[.string s, .int .i64 a] w λe w'=>e= .returned (.tuple #[.agg #[.int .i64 1, .int .i64 ((c.toNat:Int)-48), .string (), .int .i64 a], .int .i64 (a+1:Nat)])/\Below w w w':=by
 have Fc:(c.toNat:Int)<=255:=CR;rw[nr]at hd;have⟨h48,h57⟩:=of_decide_eq_true hd;have HD:=hD hd;clear hd;have HN:=hD hn;clear hn;have haz:(a:Int)<s.size:=by omega
 have z1:IntKind.u8.wrap ((c.toNat:Int)-48)=(c.toNat:Int)-48:=by
  simp[IntKind.wrap,IntKind.bits,IntKind.signed];omega
 have Z1:=hD z1;clear z1;go_enter func317,ntmps317;go_wp2_with fail;refine(kY true _ _ (by omega) Fc HD.out).mono ?_;rintro e w'⟨rfl,rfl⟩;go_wp2_with fail;go_loopg [5,7]1(λg r iv wr=>∃k:Nat,k<=1/\g=1-k/\iv= .int .i64 (a+k:Nat)/\r= .int .i64 0/\((k=0/\wr=(w.alloc (.cells #[.int .i64 0, .int .i64 0, .string (), .int .i64 0] 392)).alloc (.cells #[.int .i64 0, .int .i64 0, .string (), .int .i64 a] 392))\/(k=1/\wr=((w.alloc (.cells #[.int .i64 0, .int .i64 0, .string (), .int .i64 0] 392)).alloc (.cells #[.int .i64 0, .int .i64 ((c.toNat:Int)-48), .string (), .int .i64 a] 392)).drew)));case atStart=>exact⟨0,by omega,rfl,by go_num,rfl, .inl ⟨rfl,rfl⟩⟩
 case round=>
  obtain⟨k,hk,rfl,rfl,rfl,hw⟩:=hrel;rcases hw with⟨rfl,rfl⟩|⟨rfl,rfl⟩
  .rw[Nat.add_zero];go_wp2_with fail;refine(kY true _ _ (by omega) Fc HD.out).mono ?_;rintro e w'⟨rfl,rfl⟩;go_wp2_with fail;have z1:=Z1.out;go_region;clear z1;go_wp2_with fail;go_roundg 0;case measure=>omega
   case rel=>exact⟨1,by omega,rfl,by go_num,rfl, .inr ⟨rfl,rfl⟩⟩
  .by_cases h1:a+1<s.size
   .obtain⟨d,ag⟩:∃d,s[a+1]=d:=⟨_,rfl⟩;have hb:=dz s (a+1) h1;rw[ag]at hb;have VA:=HN.out d hb;rw[nr]at VA;have qcn:=hD VA;clear VA;have hz:((a+1:Nat):Int)<s.size:=by omega
    clear hb;go_wp2_with fail;refine(kY false _ _ (by omega) CR qcn.out).mono ?_;rintro e w'⟨rfl,rfl⟩;go_wp2_with fail;refine Qae (v:= .tuple #[.agg #[.int .i64 1, .int .i64 ((c.toNat:Int)-48), .string (), .int .i64 a], .int .i64 (a+1:Nat)]) (by simp[results,results317,go_sem]) rfl ⟨rfl,?_⟩;exact(((Qbg _ _).alloc (Qab _) _).alloc (by simp) _).drew
   .have hz:¬((a+1:Nat):Int)<s.size:=by omega
    go_wp2_with fail;refine Qae (v:= .tuple #[.agg #[.int .i64 1, .int .i64 ((c.toNat:Int)-48), .string (), .int .i64 a], .int .i64 (a+1:Nat)]) (by simp[results,results317,go_sem]) rfl ⟨rfl,?_⟩;exact(((Qbg _ _).alloc (Qab _) _).alloc (by simp) _).drew
def rF {c:UInt8}:qx c=decide (97<=(c.toNat:Int)/\(c.toNat:Int)<=122):=by
 unfold qx;rw[Bool.eq_iff_iff];simp[UInt8.le_iff_toNat_le];omega
def vP {c:UInt8}:dA c=bN (c.toNat:Int):=by
 unfold dA bN eE;rw[rF,nr,Bool.eq_iff_iff];have:(c==95)=decide ((c.toNat:Int)=95):=by
  rw[Bool.eq_iff_iff];simp;constructor
  .intro h;subst h;rfl
  .intro h;exact UInt8.toNat_inj.1 (by simp;omega)
 rw[this]
def pO:qy s.data.toList=aM s:=by
 unfold qy aM;rw[bG];cases hl:s.data.toList with
 |nil=>simp
 |cons a r=>
  have h1:eE (a.toNat:Int)=qx a:=by rw[rF];rfl
  have h2:((a::r).all λc=>bN (c.toNat:Int))=(a::r).all dA:=by congr 1;funext c;exact vP.symm
  simp only[h1,h2,Bool.and_assoc]
def Ks(s:aY)(w:ax)(a:Nat)(d:List UInt8)(hs:s.size<=200)(ha:a<s.size)(hc:s[a]=34)(hd:∀j u,d[j]? =some u->s.data.toList[a+1+j]? =some u/\fu u=true)(hq:s.data.toList[a+1+d.length]? =some 34)(ht:jX d=true):
 xC 317 #[s,a] w (cu (.tuple #[.agg #[xI 2,xI 0,bL d,a],(a+d.length+2:Nat)]) w):=by
 have haz:(a:Int)<s.size:=by omega
 have bI:=λw=>ag (Us s w a d hs ha hd hq ht);clear hd hq ht;go_enter func317,ntmps317;go_wp2_with fail;refine dw (kY false _ _ (by omega) (by decide) (by decide)) ?_;go_wp2_with fail;refine cC ((bI _).o) λw1 hb1=> ?_;have s1:=hb1.size;simp at s1;have ui:=ag ((hb1.block w (by simp;omega)).trans (jZ (w:=w) rfl).1);have fp:=ag ((hb1.block [w] (by simp)).trans (jZ (w:=w) rfl).2.1);have bz:Hd (aC w w1):=(bU.alloc (by simp) _).trans (hb1.mono (by simp;omega));have⟨p0,p1,p2,p3⟩:=af ui.o;have⟨q0,q1,q2,q3⟩:=af fp.o;have⟨f0,f1,f2,f3⟩:=hZ ui.o;have g2:=aj fp.o 2;clear hb1;go_wp2_with fail;refine Qae (v:= .tuple #[.agg #[xI 2,xI 0,bL d,a],(a+d.length+2:Nat)]) (by simp[results,results317,go_sem,p0,p1,p2,p3]) rfl ⟨rfl,?_⟩;exact((((bz.o.setCell (by simp) _).setCell (by simp) _).setCell (by simp) _).setCell (by simp) _).setCell (by simp) _
def Kt(s:ByteArray)(w:World)(a n:Nat)(c:UInt8)(hs:s.size<=200)(yI:0<n)(hl:a+n<=s.size)(hc:∀j u,s.data.toList[a+j]? =some u->(j<n->dA u=true)/\(j=n->dA u=false))(h0:s.data.toList[a]? =some c)(iK:qx c=true)(hn:qy (s.extract a (a+n)).data.toList=true):
 xC 317 #[.string s, .int .i64 a] w (cu (.tuple #[.agg #[.int .i64 3, .int .i64 0, .string (s.extract a (a+n)), .int .i64 a], .int .i64 (a+n:Nat)]) w):=by
 have ha:a<s.size:=by omega
 have haz:(a:Int)<s.size:=by omega
 have hca:s[a]=c:=by have:=dz s a ha;rw[h0]at this;simpa using this.symm
 rw[rF]at iK;have⟨h97,h122⟩:=of_decide_eq_true iK;have Fc:(c.toNat:Int)<=255:=CR;have ND:Hd (decide (48<=(c.toNat:Int)/\(c.toNat:Int)<=57)=false):=(show _=_ from decide_eq_false (by omega));have NW:Hd (bN (c.toNat:Int)=true):=(show _=_ by rw[<-vP];exact(hc 0 c (by simpa using h0)).1 yI);have e34:((c.toNat:Int)==34)=false:=by simp;omega
 rw[pO]at hn;have hsz:(s.extract a (a+n)).size<=200:=by simp;omega
 have HC:=ag hc;clear hc;have HN:=ag hn;clear hn;clear h0 iK;go_enter func317,ntmps317;go_wp2_with fail;refine(kY false _ _ (by omega) Fc ND.o).mono ?_;rintro e w'⟨rfl,rfl⟩;go_wp2_with fail;refine(rA true _ _ (by omega) Fc NW.o).mono ?_;rintro e w'⟨rfl,rfl⟩;go_wp2;go_loopg [7]n(λg iv wr=>∃k:Nat,k<=n/\g=n-k/\iv= .int .i64 (a+k:Nat)/\wr=(w.alloc (.cells #[.int .i64 0, .int .i64 0, .string (), .int .i64 0] 392)).alloc (.cells #[.int .i64 0, .int .i64 0, .string (), .int .i64 a] 392));case atStart=>exact⟨0,by omega,rfl,by go_num,rfl⟩
 case round=>
  obtain⟨k,hk,rfl,rfl,rfl⟩:=hrel;by_cases bH:a+k<s.size
  .obtain⟨d,ag⟩:∃d,s[a+k]=d:=⟨_,rfl⟩;have hb:=dz s (a+k) bH;rw[ag]at hb;have⟨hy,hno⟩:=HC.o k d hb;have hz:((a+k:Nat):Int)<s.size:=by omega
   have IM:(d.toNat:Int)<=255:=CR;clear hb;by_cases P8:k<n
   .have W1:Hd (bN (d.toNat:Int)=true):=(show _=_ by rw[<-vP];exact hy P8);clear hy hno;go_wp2_with fail;refine(rA true _ _ (by omega) IM W1.o).mono ?_;rintro e w'⟨rfl,rfl⟩;go_wp2;go_roundg(n-(k+1));case measure=>omega
    case rel=>exact⟨k+1,by omega,rfl,by go_num,rfl⟩
   .obtain rfl:k=n:=by omega
    have W1:Hd (bN (d.toNat:Int)=false):=(show _=_ by rw[<-vP];exact hno rfl);clear hy hno;go_wp2_with fail;refine(rA false _ _ (by omega) IM W1.o).mono ?_;rintro e w'⟨rfl,rfl⟩;have hz2:((a+k:Nat):Int)<=s.size:=by omega
    have yJ:(a:Int)<=((a+k:Nat):Int):=by omega
    go_wp2_with fail;refine(gp true _ _ HN.o (by unfold maxLen;omega)).mono ?_;rintro e w'⟨rfl,rfl⟩;go_wp2_with fail;refine Qae (v:= .tuple #[.agg #[.int .i64 3, .int .i64 0, .string (s.extract a (a+k)), .int .i64 a], .int .i64 (a+k:Nat)]) (by simp[results,results317,go_sem]) rfl ⟨rfl,?_⟩;exact bU.alloc (by simp) _
  .obtain rfl:k=n:=by omega
   have hz:¬((a+k:Nat):Int)<s.size:=by omega
   have hz2:((a+k:Nat):Int)<=s.size:=by omega
   have yJ:(a:Int)<=((a+k:Nat):Int):=by omega
   go_wp2_with fail;refine(gp true _ _ HN.o (by unfold maxLen;omega)).mono ?_;rintro e w'⟨rfl,rfl⟩;go_wp2_with fail;refine Qae (v:= .tuple #[.agg #[.int .i64 3, .int .i64 0, .string (s.extract a (a+k)), .int .i64 a], .int .i64 (a+k:Nat)]) (by simp[results,results317,go_sem]) rfl ⟨rfl,?_⟩;exact bU.alloc (by simp) _
def CT {a:Nat}{c:UInt8}(h:s.data.toList[a]? =some c):s.extract a (a+1)=⟨#[c]⟩:=by
 apply ByteArray.ext;apply Array.toList_inj.1;rw[Lib.extract_data];have hl:=(Qad.1 h).1;rw[List.drop_eq_getElem_cons hl,show a+1-a=1 from by omega];simp[(Qad.1 h).2]
def oI {a:Nat}{c:UInt8}(h:s.data.toList[a]? =some c)(x y:UInt8)(hx:c≠x\/s.data.toList[a+1]?≠some y):((s.extract a (a+2)).toList==[x,y])=false:=by
 rw[ByteArray.toList_eq,Lib.extract_data,show a+2-a=2 from by omega,beq_eq_false_iff_ne];intro he;have hl:=(Qad.1 h).1;have h0:(((s.data.toList.drop a).take 2))[0]? =some x:=by rw[he];rfl
 have h1:(((s.data.toList.drop a).take 2))[1]? =some y:=by rw[he];rfl
 rw[List.getElem?_take_of_lt (by omega),List.getElem?_drop]at h0 h1;rcases hx with hx|hx
 .rw[Nat.add_zero,h]at h0;simp at h0;exact hx h0
 .exact hx h1
def Ku(s:aY)(w:ax)(a:Nat)(c:UInt8)(hs:s.size<=200)(ha:a<s.size)(h0:s.data.toList[a]? =some c)(hc:c∈dW)(IN:c=62->s.data.toList[a+1]?≠some 61):
 xC 317 #[s,a] w (cu (.tuple #[.agg #[xI 0,xI 0,xS ⟨#[c]⟩,a],(a+1:Nat)]) w):=by
 have haz:(a:Int)<s.size:=by omega
 have qfm:((a+1:Nat):Int)<=s.size:=by omega
 have hca:s[a]=c:=by have:=dz s a ha;rw[h0]at this;simpa using this.symm
 have hx:=CT h0;have y1:=oI h0 60 62 (.inl (by rintro rfl;simp[dW]at hc));have y2:=oI h0 60 61 (.inl (by rintro rfl;simp[dW]at hc));have y3:=oI h0 62 61 (by by_cases h:c=62;exact .inr (IN h);exact .inl h);have HB:=λw=>ag (np c hc w);have ND:=ag (show decide (48<=(c.toNat:Int)/\(c.toNat:Int)<=57)=false by simp only[dW,Qdf,List.not_mem_nil,or_false]at hc;rcases hc with rfl|rfl|rfl|rfl|rfl|rfl|rfl|rfl|rfl|rfl|rfl<;>decide);have NW:=ag (show bN (c.toNat:Int)=false by simp only[dW,Qdf,List.not_mem_nil,or_false]at hc;rcases hc with rfl|rfl|rfl|rfl|rfl|rfl|rfl|rfl|rfl|rfl|rfl<;>decide);have e34:((c.toNat:Int)==34)=false:=by simp only[dW,Qdf,List.not_mem_nil,or_false]at hc;rcases hc with rfl|rfl|rfl|rfl|rfl|rfl|rfl|rfl|rfl|rfl|rfl<;>decide
 have Fc:(c.toNat:Int)<=255:=CR;have qco:0<cH [c]\/c=40\/c=41\/c=44:=by simp only[dW,Qdf,List.not_mem_nil,or_false]at hc;rcases hc with rfl|rfl|rfl|rfl|rfl|rfl|rfl|rfl|rfl|rfl|rfl<;>decide
 clear h0 IN hc;have Zg:(((a+1:Nat):Int)<s.size/\((a+2:Nat):Int)<=s.size)\/¬((a+1:Nat):Int)<s.size:=by omega
 rcases qco with hb|hb
 .have hb':(0:Int)<(cH [c]:Int):=by omega
  generalize cH [c]=b at*;clear hb;rcases Zg with⟨h1z,h2z⟩|h1z;all_goals
   go_enter func317,ntmps317;go_wp2_with fail;refine dw (kY false _ _ (by omega) Fc ND.o) ?_;go_wp2_with fail;refine dw (rA false _ _ (by omega) Fc NW.o) ?_;go_wp2_with fail;refine dw ((HB _).o) ?_;go_wp2_with fail;refine Qae (v:= .tuple #[.agg #[xI 0,xI 0,xS ⟨#[c]⟩,a],(a+1:Nat)]) (by simp[results,results317,go_sem]) rfl ⟨rfl,?_⟩;exact bU.alloc (by simp) _
 .rcases hb with rfl|rfl|rfl<;>rcases Zg with⟨h1z,h2z⟩|h1z;all_goals
   go_enter func317,ntmps317;go_wp2_with fail;refine dw (kY false _ _ (by omega) Fc ND.o) ?_;go_wp2_with fail;refine dw (rA false _ _ (by omega) Fc NW.o) ?_;go_wp2_with fail;refine dw ((HB _).o) ?_;rw[show cH _=0 from rfl];go_wp2_with fail;refine Qae (v:= .tuple #[.agg #[xI 0,xI 0,xS _,a],(a+1:Nat)]) (by simp[results,results317,go_sem]) rfl ⟨rfl,?_⟩;exact bU.alloc (by simp) _
def Bl {l:List UInt8}{a:Nat}{x:List UInt8}(h:l.drop a=x):l[a+j]? =x[j]? :=by rw[<-h,List.getElem?_drop]
theorem wC {p:UInt8->Bool}:∀{l:List UInt8}{j:Nat}{u:UInt8},(l.takeWhile p)[j]? =some u->l[j]? =some u/\p u=true
 |[],j,u,h=>by simp at h
 |c::r,j,u,h=>by
  by_cases hc:p c=true
  .rw[List.takeWhile_cons_of_pos hc]at h;cases j with
   |zero=>simp at h;subst h;exact⟨rfl,hc⟩
   |succ j=>simpa using wC (l:=r) (j:=j) (u:=u) (by simpa using h)
  .rw[List.takeWhile_cons_of_neg hc]at h;simp at h
theorem Nu {p:UInt8->Bool}:∀{l:List UInt8}{u:UInt8},l[(l.takeWhile p).length]? =some u->p u=false
 |[],u,h=>by simp at h
 |c::r,u,h=>by
  by_cases hc:p c=true
  .rw[List.takeWhile_cons_of_pos hc]at h;exact Nu (l:=r) (u:=u) (by simpa using h)
  .rw[List.takeWhile_cons_of_neg hc]at h;simp at h;subst h;simpa using hc
theorem vQ {p:UInt8->Bool}:∀(l:List UInt8),l.take (l.takeWhile p).length=l.takeWhile p
 |[]=>rfl
 |c::r=>by
  by_cases hc:p c=true
  .rw[List.takeWhile_cons_of_pos hc];simp[vQ r]
  .rw[List.takeWhile_cons_of_neg hc];rfl
def cD(k:Nat):Int:=if k=4 then 0 else k
def Nv(s:aY)(w:ax)(a:Nat)(hs:s.size<=200)(kd n:Nat)(str:List UInt8)(size:Nat)(h:ru (s.data.toList.drop a)=some ((kd,n,str),size)):
 (xC 317 #[s,a] w (cu (.tuple #[.agg #[cD kd,n,bL str,a],(a+size:Nat)]) w))/\0<size/\a+size<=s.size/\n<=9/\str.length<=200:=by
 cases hl:s.data.toList.drop a with
 |nil=>rw[hl]at h;simp[ru]at h
 |cons c r=>
  rw[hl]at h;have hlen:a+(r.length+1)=s.size:=by
   have h1:(s.data.toList.drop a).length=r.length+1:=by rw[hl];rfl
   rw[List.length_drop,bG]at h1;omega
  have ha:a<s.size:=by omega
  have h0:s.data.toList[a]? =some c:=by have:=Bl (j:=0) hl;simpa using this
  have h1:∀j,s.data.toList[a+1+j]? =r[j]? :=λj=>by have:=Bl (j:=j+1) hl;rw[Nat.add_right_comm,Nat.add_assoc];simpa using this
  have hca:s[a]=c:=by have:=dz s a ha;rw[h0]at this;simpa using this.symm
  unfold ru at h;dsimp only at h;by_cases hd:nT c=true
  .rw[if_pos hd]at h;have hr:rr r=false:=by
    cases hq:rr r with
    |false=>rfl
    |true=>rw[hq]at h;simp at h
   rw[hr]at h;simp only[Bool.false_eq_true,if_false,Qcf,Prod.mk.injEq]at h;obtain⟨⟨rfl,rfl,rfl⟩,rfl⟩:=h;have ag:=hd;rw[nr]at ag;have⟨e1,e2⟩:=of_decide_eq_true ag;refine⟨?_,by omega,by omega,by omega,by simp⟩;have hcall:=Nt s w a c hs ha hca hd (λd hd'=>by
    have h2:=h1 0;rw[Nat.add_zero,hd']at h2;cases r with
    |nil=>simp at h2
    |cons x y=>simp at h2;subst h2;exact hr);rw[show((c.toNat-48:Nat):Int)=(c.toNat:Int)-48 from by omega];exact hcall
  .rw[if_neg hd]at h;by_cases iK:qx c=true
   .rw[if_pos iK]at h;by_cases hn:qy ((c::r).takeWhile dA)=true
    .rw[if_pos hn]at h;simp only[Qcf,Prod.mk.injEq]at h;obtain⟨⟨rfl,rfl,rfl⟩,rfl⟩:=h;have hw:dA c=true:=by unfold dA;rw[iK];rfl
     have vG:0<((c::r).takeWhile dA).length:=by rw[List.takeWhile_cons_of_pos hw];simp
     have hle:((c::r).takeWhile dA).length<=(c::r).length:=(List.takeWhile_prefix dA).length_le;have qcp:((c::r).takeWhile dA).length<=r.length+1:=by simpa using hle
     have Sv:(s.extract a (a+((c::r).takeWhile dA).length)).data.toList=(c::r).takeWhile dA:=by
      rw[Lib.extract_data,hl,show a+((c::r).takeWhile dA).length-a=((c::r).takeWhile dA).length from by omega,vQ]
     have hcall:=Kt s w a ((c::r).takeWhile dA).length c hs vG (by omega) (λj u hu=>by
      rw[Bl hl]at hu;constructor
      .intro hj;obtain⟨v,hv⟩:∃v,((c::r).takeWhile dA)[j]? =some v:=⟨_,Qac hj⟩;have⟨h3,h4⟩:=wC hv;rw[hu]at h3;cases h3;exact h4
      .intro hj;subst hj;exact Nu hu) h0 iK (by rw[Sv];exact hn);rw[fz Sv]at hcall;exact⟨hcall,vG,by omega,by omega,by omega⟩
    .rw[if_neg hn]at h;cases h
   .rw[if_neg iK]at h;by_cases Cl:c=34
    .rw[if_pos Cl]at h;subst Cl;have hq:r[(r.takeWhile fu).length]? =some 34/\jX (r.takeWhile fu)=true/\kd=2/\n=0/\str=r.takeWhile fu/\size=(r.takeWhile fu).length+2:=by
      split at h
      .rename_i x hx;split at h
       .simp only[Qcf,Prod.mk.injEq]at h;obtain⟨⟨rfl,rfl,rfl⟩,rfl⟩:=h;refine⟨?_,by assumption,rfl,rfl,rfl,rfl⟩;have h5:=congrArg (λl=>l[0]?) hx;simp only[List.getElem?_drop,Nat.add_zero]at h5;simpa using h5
       .cases h
      .cases h
     obtain⟨hq,ht,rfl,rfl,rfl,rfl⟩:=hq;have bH:=(Qad.1 hq).1;have hcall:=Ks s w a (r.takeWhile fu) hs ha hca (λj u hu=>by
      have⟨h3,h4⟩:=wC hu;exact⟨(h1 j).trans h3,h4⟩) ((h1 _).trans hq) ht;exact⟨hcall,by omega,by omega,by omega,by omega⟩
    .rw[if_neg Cl]at h;have hsg:c∈dW/\(c=62->r.head?≠some 61)/\kd=4/\n=0/\str=[c]/\size=1:=by
      split at h
      .rename_i hm;simp only[Qcf,Prod.mk.injEq]at h;obtain⟨⟨rfl,rfl,rfl⟩,rfl⟩:=h;have Sw:=List.contains_iff_mem.1 hm;refine⟨?_,?_,rfl,rfl,rfl,rfl⟩
       .simp only[dW,Qdf,List.not_mem_nil,or_false]at Sw⊢;rcases Sw with h|h|h|h|h|h|h|h|h|h<;>simp[h]
       .rintro rfl;simp at Sw
      .split at h
       .rename_i hm;simp only[Qcf,Prod.mk.injEq]at h;obtain⟨⟨rfl,rfl,rfl⟩,rfl⟩:=h;exact⟨by rw[hm.1];simp[dW],λ_=>hm.2,rfl,rfl,rfl,rfl⟩
       .cases h
     obtain⟨hm,IN,rfl,rfl,rfl,rfl⟩:=hsg;have hcall:=Ku s w a c hs ha h0 hm (λhc=>by
      have h3:=IN hc;have h4:=h1 0;rw[Nat.add_zero]at h4;rw[h4];cases r with
      |nil=>simp
      |cons x y=>simpa using h3);exact⟨hcall,by omega,by omega,by omega,by simp⟩
structure wD where
 an:Int
 n:Int
 s:aY
 at_:Int
instance:aD wD where
 size:=4
 rep:=λ_ _ cs x=>cs=[xI x.an,xI x.n,xS x.s,xI x.at_]/\x.s.size<=200
 len:=λh=>by rw[h.1];rfl
 flat:=λh u hu=>by rw[h.1]at hu;simp at hu;rcases hu with rfl|rfl|rfl|rfl<;>rfl
 ev:=λh _=>h
def mF(t:Tok):wD:=⟨cD t.an,t.n,bL t.s,t.at_⟩
def bh(b:Nat):Nat->Prop:=λi=>i=b
structure dY(b:Nat)(lv:aA)(en:Int)(T:List Tok)(w:ax)(i:Nat):Prop where
 box:bW w b (xK #[lv,i,en,xI (-1)] 390)
 toks:ab (bh b) w lv (T.map mF)
 few:T.length<=200
 le:i<=T.length
 kinds:∀t∈T,1<=t.an/\t.an<=4
theorem dY.step {T:List Tok}(h:dY b lv en T w i)(ho:ao (bh b) w w')(hb:w'.heap[b]? =some (xK #[lv,j,en,xI (-1)] 390))(hj:j<=T.length):dY b lv en T w' j:=
 ⟨hb,h.toks.ev ⟨ho,λ_ h=> .inl h⟩,h.few,hj,h.kinds⟩
theorem dY.ae {T:List Tok}(h:dY b lv en T w i)(hb:aC w w'):dY b lv en T w' i:=
 h.step (ao.az hb) ((hb.block b (Qaa.1 h.box).1).trans h.box) h.le
theorem dY.drewN {T:List Tok}(h:dY b lv en T w i)(n:Nat):dY b lv en T (w.drewN n) i:=⟨h.box,h.toks,h.few,h.le,h.kinds⟩
theorem dY.cells {T:List Tok}(h:dY b lv en T w i):∃a cap,lv=xL a T.length cap/\(∀t,T[i]? =some t->∃bl off,a=some ⟨bl,off,none⟩/\bl≠b/\bl<w.heap.size/\bJ w bl (off+i*4) (xI (cD t.an))/\bJ w bl (off+i*4+1) (xI t.n)/\bJ w bl (off+i*4+2) (xS (bL t.s))/\bJ w bl (off+i*4+3) (xI t.at_)):=by
 have⟨a,cap,hv,_,_,hc⟩:=h.toks.aq;rw[Qdc]at hv hc;refine⟨a,cap,hv,λt ht=> ?_⟩;have hl:=(Qad.1 ht).1;have⟨bl,off,ha,hM,hbl,hcell⟩:=hc (by omega);obtain⟨cs,⟨rfl,_⟩,hcs⟩:=hcell i (mF t) (by rw[List.getElem?_map,ht];rfl);exact⟨bl,off,ha,hM,hbl,hcs 0 _ rfl,hcs 1 _ rfl,hcs 2 _ rfl,hcs 3 _ rfl⟩
def drop_cons {T:List Tok}{t:Tok}(h:T[i]? =some t):T.drop i=t::T.drop (i+1):=by
 obtain⟨hl,rfl⟩:=Qad.1 h;exact List.drop_eq_getElem_cons hl
def Yo {a:List UInt8}{b:aY}:((bL a).toList==b.toList)=(a==b.data.toList):=by rw[ByteArray.toList_eq,ByteArray.toList_eq];rfl
def Nw(b:Nat)(lv:aA)(en:Int)(T:List Tok)(w:ax)(i:Nat)(s:aY)(h:dY b lv en T w i)(r:Bool)(hr:ed (T.drop i) s.data.toList=r):
 xC 383 #[xP b,s] w λe w'=>e=xR r/\∃n,w'=w.drewN n:=by
 obtain⟨a,cap,rfl,hc⟩:=h.cells;have⟨p0,p1,p2,p3⟩:=af h.box;have hle:=h.le;have Ff:=h.few;have hk:=h.kinds;by_cases hi:i<T.length
 .have⟨t,ht⟩:=eG T i hi;obtain⟨bl,off,rfl,sX,hbl,q0,q1,q2,q3⟩:=hc t ht;rw[drop_cons ht]at hr;have hk4:=hk t (Qaf ht);have QU:(i:Int)<(T.length:Int):=by omega
  have hi0:(0:Int)<=(i:Int):=Qba _;by_cases h4:t.an=4
  .have e0:(cD t.an==0)=true:=by simp[cD,h4]
   have QV:((bL t.s).toList==s.toList)=r:=by
    rw[<-hr,Yo];simp[ed,h4]
   go_enter func383,ntmps383;go_wp2_with fail;go_quiet(fail);go_wp2;go_ret;exact⟨rfl,_,rfl⟩
  .have e0:(cD t.an==0)=false:=by simp[cD,h4];omega
   have QV:false=r:=by
    rw[<-hr];simp[ed,h4]
   subst QV;go_enter func383,ntmps383;go_wp2_with fail;go_quiet(fail);go_wp2;go_ret;exact⟨rfl,_,rfl⟩
 .have QU:¬(i:Int)<(T.length:Int):=by omega
  have hd:decide ((i:Int)<(T.length:Int))=false:=by simpa using QU
  have hd':decide (i<T.length)=false:=by simpa using hi
  rw[List.drop_eq_nil_of_le (by omega)]at hr;have QV:false=r:=hr;subst QV;go_enter func383,ntmps383;go_wp2_with fail;go_quiet(fail);go_wp2;go_ret;exact⟨rfl,_,rfl⟩
theorem ao.Kv(h:ao (bh b) w w')(i:Nat)(u:aA):ao (bh b) w (w'.setCell (b,i) u):=h.setCell (p:=(b,i)) (.inl (show b=b from rfl)) u
def Kw(b:Nat)(lv:aA)(en:Int)(T:List Tok)(w:ax)(j:Nat)(e:Ending)(w':ax):Prop:=∃v,e=xR v/\dY b lv en T w' j/\ao (bh b) w w'
def Jb(b:Nat)(lv:aA)(en:Int)(T:List Tok)(w:ax)(i:Nat)(s:aY)(h:dY b lv en T w i)(hr:ed (T.drop i) s.data.toList=true):
 xC 386 #[xP b,s] w (Kw b lv en T w (i+1)):=by
 have hcall:=Nw b lv en T w i s h true hr;have hi:i<T.length:=by
  rcases Nat.lt_or_ge i T.length with h|h
  .exact h
  .rw[List.drop_eq_nil_of_le h]at hr;cases hr
 obtain⟨a,cap,rfl,_⟩:=h.cells;have⟨p0,p1,p2,p3⟩:=af h.box;have f1:=aj h.box 1;have Ff:=h.few;have ia:=ag h;have bI:=ag hcall;go_enter func386,ntmps386;go_wp2_with fail;refine(bI.o).mono ?_;rintro e w1⟨rfl,n,rfl⟩;go_wp2_with fail;refine Qae (results_none rfl _ _ _) rfl ?_;refine⟨_,rfl,ia.o.step ?_ ?_ (by omega),?_⟩
 .exact((ao.refl (bh b) w).drewN n).Kv 1 _
 .exact Qca _ _ 1 _ _ _ ia.o.box
 .exact((ao.refl (bh b) w).drewN n).Kv 1 _
def fJ(w:ax):Nat->Prop:=λi=>i<w
def wE(b:Nat)(lv:aA)(en:Int)(T:List Tok)(w:ax)(x:aG)(r:List Tok)(e:Ending)(w':ax):Prop:=
 ∃v j,e=xR v/\cB (fJ w) w' v x/\dY b lv en T w' j/\r=T.drop j/\ao (bh b) w w'
def Jc(b:Nat)(lv:aA)(en:Int)(T:List Tok)(k:Nat):Prop:=∀(least i:Nat)(x:aG)(r:List Tok)(w:ax),1<=least->least<=5->dY b lv en T w i->ju k least (T.drop i)=some (x,r)->
 xC 318 #[xP b,least] w (wE b lv en T w x r)
def FX(b:Nat)(lv:aA)(en:Int)(T:List Tok)(k:Nat):Prop:=∀(i:Nat)(x:aG)(r:List Tok)(w:ax),dY b lv en T w i->jE k (T.drop i)=some (x,r)->
 xC 344 #[xP b] w (wE b lv en T w x r)
def Nx(b:Nat)(lv:aA)(en:Int)(T:List Tok)(k:Nat):Prop:=∀(i:Nat)(nm:List UInt8)(l:List aG)(r:List Tok)(w:ax),0<dM nm->nm.length<=200->dY b lv en T w i->eV k (dM nm) (T.drop i)=some (l,r)->
 xC 385 #[xP b,bL nm] w (wE b lv en T w (.mk 6 0 (bL nm) l) r)
def jP(l:List UInt8):(bL l).size=l.length:=by unfold bL;simp[ByteArray.size]
def lP(l:List UInt8):(bL l).data.toList=l:=by unfold bL;simp
def uB(k n:Int)(s:aY)(hs:s.size<=maxLen):cB M w (.agg #[k,n,s,()]) (aG.mk k n s []):=
 ⟨_,rfl,cO.iff.2 ⟨_,rfl,ab.nil _ _,hs⟩⟩
def qz(T:List Tok):Prop:=∀t∈T,t.s.length<=200/\(t.an=1->t.s=[])/\(t.an≠1->t.n=0)/\(t.an=4->∃c,c∈dW/\t.s=[c])
theorem dY.next {T:List Tok}{wc:ax}(hst:dY b lv en T wc i)(hi:i<T.length)(ho:ao (bh b) w wc):dY b lv en T (wc.setCell (b,1) (xI ((i:Int)+1))) (i+1)/\ao (bh b) w (wc.setCell (b,1) (xI ((i:Int)+1))):=
 ⟨hst.step ((ao.refl (bh b) wc).Kv 1 _) (Qca wc b 1 _ _ _ hst.box) (by omega),ho.Kv 1 _⟩
theorem dY.set {T:List Tok}{wc:ax}(hst:dY b lv en T wc i)(hb:b<w)(hsz:w.heap.size<=wc)(hf:∀bl off,lv.ownBlock=some bl->bl<w.heap.size\/off=0\/True)(p:Addr)(hp:w<=p.block)(hl:∀x,lv.ownBlock=some x->x<w.heap.size)(u:aA):dY b lv en T (wc.setCell p u) i:=by
 refine⟨(Qag _ _ _ _ (by omega)).trans hst.box,?_,hst.few,hst.le,hst.kinds⟩;obtain⟨css,⟨h1,a,cap,rfl,h3,h4,h5⟩,h2,h6⟩:=hst.toks;refine⟨css,⟨h1,a,cap,rfl,h3,h4,λhn=> ?_⟩,h2,λj cs x hc hx=>h6 j cs x hc hx⟩;obtain⟨bl,off,rfl,hF,hbl,hcell⟩:=h5 hn;have:=hl bl rfl;exact⟨bl,off,rfl,hF,by simpa using hbl,λj u hu=>(World.cell?_of_block (w:=wc) (Qag _ _ _ _ (by simp;omega))).trans (hcell j u hu)⟩
def zR {T:List Tok}{wc:ax}(hst:dY b lv en T wc i)(hi:i<T.length)(ho:ao (bh b) w wc)(hb:b<w)(hl:∀x,lv.ownBlock=some x->x<w.heap.size)(v0 v1 v2 v3:aA):
 dY b lv en T (((((wc.setCell (b,1) (xI ((i:Int)+1))).setCell (w,0) v0).setCell (w,1) v1).setCell (w,2) v2).setCell (w,3) v3) (i+1)/\
 ao (bh b) w (((((wc.setCell (b,1) (xI ((i:Int)+1))).setCell (w,0) v0).setCell (w,1) v1).setCell (w,2) v2).setCell (w,3) v3):=by
 have⟨h1,h2⟩:=hst.next hi ho;have hz:=ho.size;refine⟨(((h1.set hb (by simpa using hz) (λ_ _ _=> .inr (.inr trivial)) _ bT hl v0).set hb (by simpa using hz) (λ_ _ _=> .inr (.inr trivial)) _ bT hl v1).set hb (by simpa using hz) (λ_ _ _=> .inr (.inr trivial)) _ bT hl v2).set hb (by simpa using hz) (λ_ _ _=> .inr (.inr trivial)) _ bT hl v3,?_⟩;exact(((h2.setCell (.inr bT) v0).setCell (.inr bT) v1).setCell (.inr bT) v2).setCell (.inr bT) v3
def Two(w:ax)(o0 o1:Obj)(wx:ax):Prop:=wx.heap[w.heap.size]? =some o0/\wx.heap[w.heap.size+1]? =some o1/\wx.heap.size=↑w+2/\aC w wx
def Ny {w W wx:World}{o0 o1:Obj}(h:W.heap[w.heap.size]? =some o0/\W.heap[w.heap.size+1]? =some o1/\W.heap.size=↑w+2/\aC w W)(h1:wx.heap=W.heap)(h2:wx.os=W.os)(h3:wx.tape=W.tape)(h4:wx.output=W.output):Two w o0 o1 wx:=by
 unfold Two;rw[h1];obtain⟨a,b,c,d⟩:=h;exact⟨a,b,c,⟨h2.trans d.os,h3.trans d.tape,h4.trans d.output,by rw[h1];exact d.size,by rw[h1];exact d.block⟩⟩
def FY(b:Nat)(lv:aA)(en:Int)(T:List Tok)(hsh:qz T)(k:Nat)(HC:Nx b lv en T k):FX b lv en T (k+1):=by
 intro i x r w hst hp;have Ff:=hst.few;have ug:=hst.box;have hbl:b<w:=(Qaa.1 ug).1;have⟨p0,p1,p2,p3⟩:=af ug;have f1:=aj ug 1;rcases Nat.lt_or_ge i T.length with hi|hi
 .have⟨t,ht⟩:=eG T i hi;obtain⟨a,cap,rfl,hc⟩:=hst.cells;obtain⟨bl,off,rfl,sX,Fg,q0,q1,q2,q3⟩:=hc t ht;have jr:=Qaf ht;have⟨hts,htk1,htn,_⟩:=hsh t jr;have hk4:=hst.kinds t jr;rw[drop_cons ht]at hp;unfold jE at hp;dsimp only at hp;have QU:(i:Int)<(T.length:Int):=by omega
  have qfn:¬(T.length:Int)<=(i:Int):=by omega
  have hd':decide (T.length<=i)=false:=by simp;omega
  have hd2:decide ((T.length:Int)<=(i:Int))=false:=by simp;omega
  have hi0:(0:Int)<=(i:Int):=Qba _;have qfo:b≠w:=by omega
  have qfb:bl≠w:=by omega
  have qfc:=ag (drop_cons ht);clear hc ht jr;have ia:=ag hst;clear hst;have MF:=ag ug;clear ug;have HP:=ag hp;clear hp;have nN:=ag htk1;clear htk1;have Sx:=ag htn;clear htn;go_enter func344,ntmps344;go_wp2_with fail;go_quiet(fail);go_upto_region 3 with fail;go_cut [3](λs3 wx=>s3=xP [w]/\Two w (xK iE 319) (xK #[cD t.an,t.n,bL t.s,t.at_] 392) wx);case first=>
   go_region_held3(λw'=>w'.cell? (b,0)=some (xL (bl,off) T.length cap)/\w'.cell? (b,1)=some (xI i)/\w'.cell? (bl,off+i*4)=some (xI (cD t.an))/\w'.cell? (bl,off+i*4+1)=some (xI t.n)/\w'.cell? (bl,off+i*4+2)=some (xS (bL t.s))/\w'.cell? (bl,off+i*4+3)=some (xI t.at_))
    (first|go_keep)(first|fail);all_goals(go_wp2_with fail;go_meet;exact⟨rfl,Ny (jZ (w:=w) (o0:=xK iE 319) (o1:=xK #[cD t.an,t.n,bL t.s,t.at_] 392) rfl) rfl rfl rfl rfl⟩)
  case rest=>
   obtain⟨rfl,Qb,hx1,hxs,hxb⟩:=hcut;have IP:=ag (ia.o.ae hxb);clear p0 p1 p2 p3 f1 q0 q1 q2 q3;have⟨p0,p1,p2,p3⟩:=af IP.o.box;have f1:=aj IP.o.box 1;have⟨r0,r1,r2,r3⟩:=af Qb;have⟨g0,g1,g2,g3⟩:=hZ Qb;have⟨x0,x1,x2,x3⟩:=af hx1;have hsx:w.heap.size+1<wc:=by omega
   have n1:b≠[w]:=by omega
   have ui:=ag Qb;clear Qb;have fp:=ag hx1;clear hx1;have CD:=ag hxs;clear hxs;have Zh:=ag hxb;clear hxb;by_cases h1:t.an=1
   .have hp:=HP.o;rw[if_pos h1]at hp;simp only[Qcf,Prod.mk.injEq]at hp;obtain⟨rfl,rfl⟩:=hp;have e1:(cD t.an==1)=true:=by simp[cD,h1]
    have HK:=ag (show cD t.an=1 by simp[cD,h1]);have Sy:=ag (nN.o h1);clear h1 hk4;go_wp2_with fail;refine Qae (v:= .agg #[xI 1,t.n,xS (bL []),()]) (by simp[results,results344,go_sem,r0,r1,r2,r3,HK.o,Sy.o]) rfl ?_;have⟨k1,k2⟩:=zR IP.o hi (ao.az Zh.o) hbl (λx hx=>by cases hx;exact Fg) (cD t.an) t.n (bL t.s) ();exact⟨_,i+1,rfl,uB _ _ _ (by rw[jP];unfold maxLen;simp),k1,rfl,k2⟩
   .by_cases h2:t.an=2
    .have hp:=HP.o;rw[if_neg h1,if_pos h2]at hp;simp only[Qcf,Prod.mk.injEq]at hp;obtain⟨rfl,rfl⟩:=hp;have e1:(cD t.an==1)=false:=by simp[cD,h2]
     have e2:(cD t.an==2)=true:=by simp[cD,h2]
     have HK:=ag (show cD t.an=2 by simp[cD,h2]);have HN0:=ag (Sx.o h1);clear h1 h2 hk4;go_wp2_with fail;refine Qae (v:= .agg #[xI 2,xI 0,bL t.s,()]) (by simp[results,results344,go_sem,r0,r1,r2,r3,HK.o,HN0.o]) rfl ?_;have⟨k1,k2⟩:=zR IP.o hi (ao.az Zh.o) hbl (λx hx=>by cases hx;exact Fg) (cD t.an) t.n (bL t.s) ();exact⟨_,i+1,rfl,uB _ _ _ (by rw[jP];unfold maxLen;omega),k1,rfl,k2⟩
    .by_cases h3:t.an=3
     .have hp:=HP.o;rw[if_neg h1,if_neg h2,if_pos h3]at hp;have e1:(cD t.an==1)=false:=by simp[cD,h3]
      have e2:(cD t.an==2)=false:=by simp[cD,h3]
      have e3:(cD t.an==3)=true:=by simp[cD,h3]
      have⟨m1,m2⟩:=IP.o.next hi (ao.az Zh.o);have zz:=ag m1;have Qc:=ag m2;clear m1 m2 h1 h2 h3 hk4;have TB:Hd (∀r,ed (T.drop (i+1)) [40]=r->xC 383 #[xP b,xS ⟨#[40]⟩] (wc.setCell (b,1) (xI ((i:Int)+1))) λe w'=>e=xR (xB r)/\∃n,w'=(wc.setCell (b,1) (xI ((i:Int)+1))).drewN n):=λr hr=>Nw b _ en T _ (i+1) ⟨#[40]⟩ zz.o r hr;have QW:Hd (∀W,xC 384 #[bL t.s] W (jt (dM t.s) W)):=λW=>by have h:=tt (bL t.s) W;rw[lP]at h;exact h
      have⟨sg,hsg⟩:=jN (ed (T.drop (i+1)) [40]);have bI:=ag (TB.o sg hsg);rw[hsg]at hp;have HSG:=ag hsg;clear hsg;have Xs:=ag hp;clear hp;clear TB;go_wp2_with fail;refine(bI.o).mono ?_;rintro e w5⟨rfl,nn,hw5⟩;have vH:=ag (show dY b (xL (bl,off) T.length cap) en T w5 (i+1)by rw[hw5];exact zz.o.drewN nn);have Cm:=ag (show ao (bh b) w w5 by rw[hw5];exact Qc.o.drewN nn);have Fh:=ag (show dk w5 w (xK iE 319)by rw[hw5];exact(Qag _ _ _ _ (by simp;omega)).trans ui.o);have HY5:=ag (show bW w5 [w] (xK #[cD t.an,t.n,bL t.s,t.at_] 392)by rw[hw5];exact(Qag _ _ _ _ (by simp;omega)).trans fp.o);clear hw5 p0 p1 p2 p3 f1 r0 r1 r2 r3 g0 g1 g2 g3 x0 x1 x2 x3 bI;have⟨p0,p1,p2,p3⟩:=af vH.o.box;have f1:=aj vH.o.box 1;have⟨r0,r1,r2,r3⟩:=af Fh.o;have⟨g0,g1,g2,g3⟩:=hZ Fh.o;have⟨x0,x1,x2,x3⟩:=af HY5.o;have hs5:=Cm.o.size;have hsR:w.heap.size<w5:=(Qaa.1 Fh.o).1;have FLD:Hd (∀W',W'=(((w5.setCell (w,0) (xI 3)).setCell (w,1) (xI 0)).setCell (w,2) (bL t.s)).setCell (w,3) ()->dY b (xL (bl,off) T.length cap) en T W' (i+1)/\ao (bh b) w W'):=λW' h=>by
       rw[h];have hl:∀y,(Value.slice (bl,off) T.length cap).ownBlock=some y->y<w.heap.size:=λy hy=>by cases hy;exact Fg
       have ht:∀(x y:Nat),(Value.slice (bl,off) T.length cap).ownBlock=some x->x<w\/y=0\/True:=λ_ _ _=> .inr (.inr trivial);exact⟨(((vH.o.set hbl hs5 ht _ bT hl _).set hbl (by simpa using hs5) ht _ bT hl _).set hbl (by simpa using hs5) ht _ bT hl _).set hbl (by simpa using hs5) ht _ bT hl _,(((Cm.o.setCell (.inr bT) _).setCell (.inr bT) _).setCell (.inr bT) _).setCell (.inr bT) _⟩
      cases sg
      .have hx:x= .mk 3 0 (bL t.s) []/\r=T.drop (i+1):=by
        have hp:=Xs.o;rw[if_neg (by simp)]at hp;simp only[Qcf,Prod.mk.injEq]at hp;exact⟨hp.1.symm,hp.2.symm⟩
       obtain⟨rfl,rfl⟩:=hx;go_wp2_with fail;refine Qae (v:= .agg #[xI 3,xI 0,bL t.s,()]) (by simp[results,results344,go_sem,r0,r1,r2,r3]) rfl ?_;have⟨k1,k2⟩:=FLD.o _ rfl;exact⟨_,i+1,rfl,uB _ _ _ (by rw[jP];unfold maxLen;omega),k1,rfl,k2⟩
      .rcases Nat.eq_zero_or_pos (dM t.s)with ha|ha
       .have hx:x= .mk 3 0 (bL t.s) []/\r=T.drop (i+1):=by
         have hp:=Xs.o;rw[if_neg (by omega)]at hp;simp only[Qcf,Prod.mk.injEq]at hp;exact⟨hp.1.symm,hp.2.symm⟩
        obtain⟨rfl,rfl⟩:=hx;rw[ha]at QW;clear ha;go_wp2_with fail;refine dw (QW.o _) ?_;go_wp2_with fail;refine Qae (v:= .agg #[xI 3,xI 0,bL t.s,()]) (by simp[results,results344,go_sem,r0,r1,r2,r3]) rfl ?_;have⟨k1,k2⟩:=FLD.o _ rfl;exact⟨_,i+1,rfl,uB _ _ _ (by rw[jP];unfold maxLen;omega),k1,rfl,k2⟩
       .have hp:=Xs.o;rw[if_pos ⟨ha,rfl⟩]at hp;have hi1:i+1<T.length:=by
         rcases Nat.lt_or_ge (i+1) T.length with h|h
         .exact h
         .have hsg:=HSG.o;rw[List.drop_eq_nil_of_le h]at hsg;cases hsg
        obtain⟨l,r',QX,rfl,rfl⟩:∃l r',eV k (dM t.s) (T.drop (i+2))=some (l,r')/\x= .mk 6 0 (bL t.s) l/\r=r':=by
         rw[List.drop_drop,show i+1+1=i+2 from rfl]at hp;cases hq:eV k (dM t.s) (T.drop (i+2))with
         |none=>rw[hq]at hp;cases hp
         |some q=>obtain⟨l,r'⟩:=q;rw[hq]at hp;simp only[Qcf,Prod.mk.injEq]at hp;exact⟨l,r',rfl,hp.1.symm,hp.2.symm⟩
        have haz:(0:Int)<(dM t.s:Int):=by omega
        have⟨m1,m2⟩:=vH.o.next hi1 Cm.o;rw[show((i+1:Nat):Int)+1=(i:Int)+1+1 from by omega]at m1 m2;have hz6:=m2.size;simp at hz6;have hcall:=HC (i+2) t.s l r _ ha hts m1 QX;have yK:=ag hcall;clear hcall;have HM6:=ag m1;clear m1;have QY:=ag m2;clear m2;clear hp QX ha;go_wp2_with fail;refine dw (QW.o _) ?_;go_wp2_with fail;refine(yK.o).mono ?_;rintro e w7⟨v,j,rfl,⟨cs,rfl,hrep⟩,Qd,hrj,ho7⟩;obtain⟨av,rfl,hsl,hss⟩:=cO.iff.1 hrep;obtain⟨ka,kc,rfl,_⟩:=hsl.aq;have TD:Hd (dk w7 w (xK iE 319)):=(ho7.block w (by simp;omega) (by unfold bh;omega)).trans ((Qag _ _ _ _ (by simp;omega)).trans Fh.o);clear p0 p1 p2 p3 f1 r0 r1 r2 r3 g0 g1 g2 g3 x0 x1 x2 x3;have⟨r0,r1,r2,r3⟩:=af TD.o;have⟨g0,g1,g2,g3⟩:=hZ TD.o;have fq:=ag hrep;clear hrep;have qcq:=ag Qd;clear Qd;have HRJ:=ag hrj;clear hrj;have Zi:=ag ho7;clear ho7;have gO:=ag hsl;clear hsl;have q8:=ag hss;clear hss;go_wp2_with fail;refine Qae (v:= .agg #[xI 6,xI 0,bL t.s,xL ka l.length kc]) (by simp[results,results344,go_sem,r0,r1,r2,r3]) rfl ?_;have hl:∀y,(Value.slice (bl,off) T.length cap).ownBlock=some y->y<w.heap.size:=λy hy=>by cases hy;exact Fg
        have ht:∀(x y:Nat),(Value.slice (bl,off) T.length cap).ownBlock=some x->x<w\/y=0\/True:=λ_ _ _=> .inr (.inr trivial);have Zj:=(QY.o.trans Zi.o);have Zk:=Zj.size;refine⟨_,j,rfl,⟨_,rfl,cO.iff.2 ⟨_,rfl,gO.o.ev ?_,q8.o⟩⟩,?_,HRJ.o,?_⟩
        .exact((((Ev.dL w7 (λi h=>by unfold fJ at h⊢;simp;omega)).setCell (.inl (by unfold fJ;simp;omega)) _).setCell (.inl (by unfold fJ;simp;omega)) _).setCell (.inl (by unfold fJ;simp;omega)) _).setCell (.inl (by unfold fJ;simp;omega)) _
        .exact(((qcq.o.set hbl Zk ht _ bT hl _).set hbl (by simpa using Zk) ht _ bT hl _).set hbl (by simpa using Zk) ht _ bT hl _).set hbl (by simpa using Zk) ht _ bT hl _
        .exact(((Zj.setCell (.inr bT) _).setCell (.inr bT) _).setCell (.inr bT) _).setCell (.inr bT) _
     .exfalso;have hp:=HP.o;rw[if_neg h1,if_neg h2,if_neg h3]at hp;cases hp
 .rw[List.drop_eq_nil_of_le hi]at hp;simp[jE]at hp
end Go.Proofs.YtepaofffbkfodaaGreatDoor
