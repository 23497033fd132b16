/- A part of MarkAsks's proof; no condition. -/
import Derived.Test.YtccpcfcochffcaaGreatDoorM02
import Derived.Lib.SmallJoins
set_option linter.all false
set_option maxHeartbeats 8000000
set_option maxRecDepth 100000
namespace Go.Proofs.YtccpcfcochffcaaGreatDoor
open Tryz
open Go.RowKit
variable{k j i b:Nat}{s:aT}{w w':aj}{en:Int}{lv:an}{M:aS}
def G6(s:aT)(w:aj)(c:UInt8)(h:s.data.toList[0]? =some c)(hc:c<128):xC 194 #[xS s] w (gE (xI 1) w):=by
 have h0:0<s.size:=by have:=(Qad.1 h).1;rw[bh]at this;exact this
 have h1:s[0]=c:=by have:=du s 0 h0;rw[h]at this;simpa using this.symm
 have h2:(c.toNat:Int)<128:=by have:=UInt8.lt_iff_toNat_lt.1 hc;simp at this;omega
 have hn:¬s.size=0:=by omega
 go_enter func194,ntmps194;go_wp2;go_ret;exact⟨rfl,rfl⟩
def N9 {l:List UInt8}(h:jK l=true){c:UInt8}(hc:l[k]? =some c):32<=c/\c<127:=by
 unfold jK at h;simp only[Qce,List.all_eq_true,decide_eq_true_eq]at h;exact h.2 c (Qaf hc)
def Cn(s:aT)(w:aj)(h:jK s.data.toList=true):xC 164 #[xS s] w (gE (xB true) w):=by
 have hz:s.size<=60:=by unfold jK at h;simp only[Qce,decide_eq_true_eq]at h;have:=h.1;rw[bh]at this;exact this
 have HT:=af h;go_enter func164,ntmps164;go_wp2;go_loopg [2,3,4]s.size(λg r iv _ wr=>∃k:Nat,k<=s.size/\g=s.size-k/\iv=xI k/\r=xB false/\w=wr);case atStart=>exact⟨0,Qbf _,rfl,rfl,rfl,rfl⟩
 case round=>
  obtain⟨k,hk,rfl,rfl,rfl,rfl⟩:=hrel;by_cases aX:k<s.size
  .obtain⟨c,hc⟩:=fx (s[k]);have hb:=du s k aX;rw[hc]at hb;obtain⟨h1,h2⟩:=N9 HT.o hb;have e1:(32:Int)<=(c.toNat:Int):=by have:=UInt8.le_iff_toNat_le.1 h1;simp at this;omega
   have e2:((c.toNat:Int)==127)=false:=by have:=UInt8.lt_iff_toNat_lt.1 h2;simp at this;simp;omega
   have e3:¬(c.toNat:Int)<32:=by omega
   have HS:=af (show(s.extract k s.size).data.toList[0]? =some c by rw[Lib.extract_data];rw[List.getElem?_take_of_lt (by omega),List.getElem?_drop];simpa using hb);have HC:=af (show c<128 by have:=UInt8.lt_iff_toNat_lt.1 h2;exact UInt8.lt_iff_toNat_lt.2 (by simp at this⊢;omega));have hkz:(k:Int)<s.size:=by omega
   go_wp2_with fail;refine dJ (G6 _ _ c HS.o HC.o) ?_;go_wp2;go_roundg(s.size-(k+1));case measure=>omega
   case rel=>exact⟨k+1,by omega,rfl,by go_num,rfl,rfl⟩
  .go_wp2;go_ret;exact⟨rfl,rfl⟩
def sA(s:aT)(w:aj)(h:jK s.data.toList=true):xC 116 #[.agg #[xI 2,xI 0,xS s,xL none 0 0]] w (cN (xB true) w):=by
 have hz:s.size<=60:=by unfold jK at h;simp only[Qce,decide_eq_true_eq]at h;have:=h.1;rw[bh]at this;exact this
 have HT:=af h;go_enter func116,ntmps116;go_wp2_with fail;refine dJ (Cn _ _ HT.o) ?_;go_wp2;go_ret;exact⟨rfl,bO⟩
def SC {a:Nat}{d:List UInt8}{c:UInt8}(hd:∀j u,d[j]? =some u->s.data.toList[a+j]? =some u)(hc:d[k]? =some c):bL (d.take k)++s.extract (a+k) (a+k+1)=bL (d.take (k+1)):=by
 apply ByteArray.ext;apply Array.toList_inj.1;rw[Joins.data_append,Lib.extract_data];unfold bL;simp only[List.toList_toArray];rw[Qbb,hc];have:=hd k c hc;rw[show a+k+1-(a+k)=1 from by omega];congr 1;have hl:a+k<s.data.toList.length:=(Qad.1 this).1;rw[List.drop_eq_getElem_cons hl];have h2:=(Qad.1 this).2;simp[h2]
def VF(s:aT)(w:aj)(a:Nat)(d:List UInt8)(hs:s.size<=200)(ha:a<s.size)(hd:∀j u,d[j]? =some u->s.data.toList[a+1+j]? =some u/\eX u=true)(hq:s.data.toList[a+1+d.length]? =some 34)(ht:jK d=true):
 xC 225 #[xS s,xI a] w (cN (.tuple #[xS (bL d),xI (a+d.length+2:Nat)]) w):=by
 have hl:a+1+d.length<s.size:=by have:=(Qad.1 hq).1;rw[bh]at this;exact this
 have cw:∀l:List UInt8,(bL l).size=l.length:=λl=>by unfold bL;simp[ByteArray.size]
 have HD:=af hd;have HQ:=af hq;have HT:=af ht;go_enter func225,ntmps225;go_wp2;go_loopg [4,5,6,7]d.length(λg r0 r1 tv iv wr=>∃k:Nat,k<=d.length/\g=d.length-k/\iv=xI (a+1+k:Nat)/\tv=xS (bL (d.take k))/\r0=xS ⟨#[]⟩/\r1=xI 0/\w=wr);case atStart=>exact⟨0,Qbf _,rfl,by go_num,rfl,rfl,rfl,rfl⟩
 case round=>
  obtain⟨k,hk,rfl,rfl,rfl,rfl,rfl,rfl⟩:=hrel;have aX:a+1+k<s.size:=by omega
  obtain⟨c,hc⟩:=fx (s[a+1+k]);have hb:=du s (a+1+k) aX;rw[hc]at hb;have hkz:((a+1+k:Nat):Int)<s.size:=by omega
  have qgc:((a+1+k:Nat):Int)+1<=s.size:=by omega
  have hsz:(bL (d.take k)).size<=200:=by rw[cw];simp;omega
  by_cases NL:k<d.length
  .obtain⟨u,hu⟩:=dQ d k NL;obtain⟨h1,h2⟩:=HD.o k u hu;have huc:u=c:=by rw[hb]at h1;simpa using h1.symm
   rw[huc]at h2 hu;have e1:((c.toNat:Int)==34)=false/\((c.toNat:Int)==92)=false:=by
    unfold eX at h2;simp only[Qce,bne_iff_ne,ne_eq]at h2;constructor
    .simp;intro h;exact h2.1 (UInt8.toNat_inj.1 (by simp;omega))
    .simp;intro h;exact h2.2 (UInt8.toNat_inj.1 (by simp;omega))
   obtain⟨e1,e2⟩:=e1;have mA:=af (SC (s:=s) (a:=a+1) (λj u h=>(HD.o j u h).1) hu);go_wp2;go_roundg(d.length-(k+1));case measure=>omega
   case rel=>exact⟨k+1,by omega,rfl,by go_num,by rw[<-mA.o],rfl,rfl,rfl⟩
  .obtain rfl:k=d.length:=by omega
   have hq:c=34:=by have:=HQ.o;rw[hb]at this;simpa using this
   subst hq;have K4:=af (show jK (bL d).data.toList=true by unfold bL;simpa using HT.o);rw[List.take_length]at hsz⊢;go_wp2_with fail;refine cG (sA _ _ K4.o) λw1 aC=> ?_;have aO:=af aC;go_wp2;go_ret2;exact⟨by simp;omega,aO.o⟩
def D0 {c:UInt8}:(c.toNat:Int)<=255:=by have:=c.toNat_lt;omega
def ny {c:UInt8}:ou c=decide (48<=(c.toNat:Int)/\(c.toNat:Int)<=57):=by
 unfold ou;rw[Bool.eq_iff_iff];simp[UInt8.le_iff_toNat_le];omega
def Oa(s:ByteArray)(w:World)(a:Nat)(c:UInt8)(hs:s.size<=200)(ha:a<s.size)(hc:s[a]=c)(hd:ou c=true)(hn:∀d,s.data.toList[a+1]? =some d->ou d=false):
 Calls prog 214 #[.string s, .int .i64 a] w λe w'=>e= .returned (.tuple #[.agg #[.int .i64 1, .int .i64 ((c.toNat:Int)-48), .string ⟨#[]⟩, .int .i64 a], .int .i64 (a+1:Nat)])/\Below w.heap.size w w':=by
 have B9:(c.toNat:Int)<=255:=D0;rw[ny]at hd;obtain⟨h48,h57⟩:=of_decide_eq_true hd;have HD:=hD hd;clear hd;have HN:=hD hn;clear hn;have haz:(a:Int)<s.size:=by omega
 have z1:IntKind.u8.wrap ((c.toNat:Int)-48)=(c.toNat:Int)-48:=by
  simp[IntKind.wrap,IntKind.bits,IntKind.signed];omega
 have Z1:=hD z1;clear z1;go_enter func214,ntmps214;go_wp2_with fail;refine(kS true _ _ (by omega) B9 HD.out).mono ?_;rintro e w'⟨rfl,rfl⟩;go_wp2_with fail;go_loopg [5,7]1(λg r iv wr=>∃k:Nat,k<=1/\g=1-k/\iv= .int .i64 (a+k:Nat)/\r= .int .i64 0/\((k=0/\wr=(w.alloc (.cells #[.int .i64 0, .int .i64 0, .string ⟨#[]⟩, .int .i64 0] 305)).alloc (.cells #[.int .i64 0, .int .i64 0, .string ⟨#[]⟩, .int .i64 a] 305))\/(k=1/\wr=((w.alloc (.cells #[.int .i64 0, .int .i64 0, .string ⟨#[]⟩, .int .i64 0] 305)).alloc (.cells #[.int .i64 0, .int .i64 ((c.toNat:Int)-48), .string ⟨#[]⟩, .int .i64 a] 305)).drew)));case atStart=>exact⟨0,by omega,rfl,by go_num,rfl, .inl ⟨rfl,rfl⟩⟩
 case round=>
  obtain⟨k,hk,rfl,rfl,rfl,hw⟩:=hrel;rcases hw with⟨rfl,rfl⟩|⟨rfl,rfl⟩
  .rw[Nat.add_zero];go_wp2_with fail;refine(kS true _ _ (by omega) B9 HD.out).mono ?_;rintro e w'⟨rfl,rfl⟩;go_wp2_with fail;have z1:=Z1.out;go_region;clear z1;go_wp2_with fail;go_roundg 0;case measure=>omega
   case rel=>exact⟨1,by omega,rfl,by go_num,rfl, .inr ⟨rfl,rfl⟩⟩
  .by_cases h1:a+1<s.size
   .obtain⟨d,af⟩:∃d,s[a+1]=d:=⟨_,rfl⟩;have hb:=du s (a+1) h1;rw[af]at hb;have Wx:=HN.out d hb;rw[ny]at Wx;have qdh:=hD Wx;clear Wx;have hz:((a+1:Nat):Int)<s.size:=by omega
    clear hb;go_wp2_with fail;refine(kS false _ _ (by omega) D0 qdh.out).mono ?_;rintro e w'⟨rfl,rfl⟩;go_wp2_with fail;refine Qae (v:= .tuple #[.agg #[.int .i64 1, .int .i64 ((c.toNat:Int)-48), .string ⟨#[]⟩, .int .i64 a], .int .i64 (a+1:Nat)]) (by simp[results,results214,go_sem]) rfl ⟨rfl,?_⟩;exact(((Qbg _ _).alloc (Qab _) _).alloc (by simp) _).drew
   .have hz:¬((a+1:Nat):Int)<s.size:=by omega
    go_wp2_with fail;refine Qae (v:= .tuple #[.agg #[.int .i64 1, .int .i64 ((c.toNat:Int)-48), .string ⟨#[]⟩, .int .i64 a], .int .i64 (a+1:Nat)]) (by simp[results,results214,go_sem]) rfl ⟨rfl,?_⟩;exact(((Qbg _ _).alloc (Qab _) _).alloc (by simp) _).drew
def sC {c:UInt8}:qQ c=decide (97<=(c.toNat:Int)/\(c.toNat:Int)<=122):=by
 unfold qQ;rw[Bool.eq_iff_iff];simp[UInt8.le_iff_toNat_le];omega
def wZ {c:UInt8}:de c=bz (c.toNat:Int):=by
 unfold de bz fe;rw[sC,ny,Bool.eq_iff_iff];have:(c==95)=decide ((c.toNat:Int)=95):=by
  rw[Bool.eq_iff_iff];simp;constructor
  .intro h;subst h;rfl
  .intro h;exact UInt8.toNat_inj.1 (by simp;omega)
 rw[this]
def p9:qR s.data.toList=aE s:=by
 unfold qR aE;rw[bh];cases hl:s.data.toList with
 |nil=>simp
 |cons a r=>
  have h1:fe (a.toNat:Int)=qQ a:=by rw[sC];rfl
  have h2:((a::r).all λc=>bz (c.toNat:Int))=(a::r).all de:=by congr 1;funext c;exact wZ.symm
  simp only[h1,h2,Bool.and_assoc]
def Lu(s:aT)(w:aj)(a:Nat)(d:List UInt8)(hs:s.size<=200)(ha:a<s.size)(hc:s[a]=34)(hd:∀j u,d[j]? =some u->s.data.toList[a+1+j]? =some u/\eX u=true)(hq:s.data.toList[a+1+d.length]? =some 34)(ht:jK d=true):
 xC 214 #[xS s,xI a] w (cN (.tuple #[.agg #[xI 2,xI 0,xS (bL d),xI a],xI (a+d.length+2:Nat)]) w):=by
 have haz:(a:Int)<s.size:=by omega
 have bt:=λw=>af (VF s w a d hs ha hd hq ht);clear hd hq ht;go_enter func214,ntmps214;go_wp2_with fail;refine dJ (kS false _ _ (by omega) (by decide) (by decide)) ?_;go_wp2_with fail;refine cG ((bt _).o) λw1 aC=> ?_;have s1:=aC.size;simp at s1;have Dn:=af ((aC.block w.heap.size (by simp;omega)).trans (jM (w:=w) rfl).1);have fI:=af ((aC.block (w.heap.size+1) (by simp)).trans (jM (w:=w) rfl).2.1);have aO:Hd (aq w w1):=(bO.alloc (by simp) _).trans (aC.mono (by simp;omega));obtain⟨p0,p1,p2,p3⟩:=ae Dn.o;obtain⟨q0,q1,q2,q3⟩:=ae fI.o;obtain⟨f0,f1,f2,f3⟩:=ic Dn.o;have g2:=ag fI.o 2;clear aC;go_wp2_with fail;refine Qae (v:= .tuple #[.agg #[xI 2,xI 0,xS (bL d),xI a],xI (a+d.length+2:Nat)]) (by simp[results,results214,go_sem,p0,p1,p2,p3]) rfl ⟨rfl,?_⟩;exact((((aO.o.setCell (by simp) _).setCell (by simp) _).setCell (by simp) _).setCell (by simp) _).setCell (by simp) _
def Lv(s:ByteArray)(w:World)(a n:Nat)(c:UInt8)(hs:s.size<=200)(tN:0<n)(hl:a+n<=s.size)(hc:∀j u,s.data.toList[a+j]? =some u->(j<n->de u=true)/\(j=n->de u=false))(h0:s.data.toList[a]? =some c)(jd:qQ c=true)(hn:qR (s.extract a (a+n)).data.toList=true):
 xC 214 #[.string s, .int .i64 a] w (cN (.tuple #[.agg #[.int .i64 3, .int .i64 0, .string (s.extract a (a+n)), .int .i64 a], .int .i64 (a+n:Nat)]) w):=by
 have ha:a<s.size:=by omega
 have haz:(a:Int)<s.size:=by omega
 have mB:s[a]=c:=by have:=du s a ha;rw[h0]at this;simpa using this.symm
 rw[sC]at jd;obtain⟨h97,qgd⟩:=of_decide_eq_true jd;have B9:(c.toNat:Int)<=255:=D0;have ND:Hd (decide (48<=(c.toNat:Int)/\(c.toNat:Int)<=57)=false):=(show _=_ from decide_eq_false (by omega));have NW:Hd (bz (c.toNat:Int)=true):=(show _=_ by rw[<-wZ];exact(hc 0 c (by simpa using h0)).1 tN);have e34:((c.toNat:Int)==34)=false:=by simp;omega
 rw[p9]at hn;have hsz:(s.extract a (a+n)).size<=200:=by simp;omega
 have HC:=af hc;clear hc;have HN:=af hn;clear hn;clear h0 jd;go_enter func214,ntmps214;go_wp2_with fail;refine(kS false _ _ (by omega) B9 ND.o).mono ?_;rintro e w'⟨rfl,rfl⟩;go_wp2_with fail;refine(sy true _ _ (by omega) B9 NW.o).mono ?_;rintro e w'⟨rfl,rfl⟩;go_wp2;go_loopg [7]n(λg iv wr=>∃k:Nat,k<=n/\g=n-k/\iv= .int .i64 (a+k:Nat)/\wr=(w.alloc (.cells #[.int .i64 0, .int .i64 0, .string ⟨#[]⟩, .int .i64 0] 305)).alloc (.cells #[.int .i64 0, .int .i64 0, .string ⟨#[]⟩, .int .i64 a] 305));case atStart=>exact⟨0,by omega,rfl,by go_num,rfl⟩
 case round=>
  obtain⟨k,hk,rfl,rfl,rfl⟩:=hrel;by_cases aX:a+k<s.size
  .obtain⟨d,af⟩:∃d,s[a+k]=d:=⟨_,rfl⟩;have hb:=du s (a+k) aX;rw[af]at hb;obtain⟨hy,Gi⟩:=HC.o k d hb;have hz:((a+k:Nat):Int)<s.size:=by omega
   have Nn:(d.toNat:Int)<=255:=D0;clear hb;by_cases Wu:k<n
   .have W1:Hd (bz (d.toNat:Int)=true):=(show _=_ by rw[<-wZ];exact hy Wu);clear hy Gi;go_wp2_with fail;refine(sy true _ _ (by omega) Nn W1.o).mono ?_;rintro e w'⟨rfl,rfl⟩;go_wp2;go_roundg(n-(k+1));case measure=>omega
    case rel=>exact⟨k+1,by omega,rfl,by go_num,rfl⟩
   .obtain rfl:k=n:=by omega
    have W1:Hd (bz (d.toNat:Int)=false):=(show _=_ by rw[<-wZ];exact Gi rfl);clear hy Gi;go_wp2_with fail;refine(sy false _ _ (by omega) Nn W1.o).mono ?_;rintro e w'⟨rfl,rfl⟩;have dA:((a+k:Nat):Int)<=s.size:=by omega
    have xJ:(a:Int)<=((a+k:Nat):Int):=by omega
    go_wp2_with fail;refine(eR true _ _ HN.o (by unfold maxLen;omega)).mono ?_;rintro e w'⟨rfl,rfl⟩;go_wp2_with fail;refine Qae (v:= .tuple #[.agg #[.int .i64 3, .int .i64 0, .string (s.extract a (a+k)), .int .i64 a], .int .i64 (a+k:Nat)]) (by simp[results,results214,go_sem]) rfl ⟨rfl,?_⟩;exact bO.alloc (by simp) _
  .obtain rfl:k=n:=by omega
   have hz:¬((a+k:Nat):Int)<s.size:=by omega
   have dA:((a+k:Nat):Int)<=s.size:=by omega
   have xJ:(a:Int)<=((a+k:Nat):Int):=by omega
   go_wp2_with fail;refine(eR true _ _ HN.o (by unfold maxLen;omega)).mono ?_;rintro e w'⟨rfl,rfl⟩;go_wp2_with fail;refine Qae (v:= .tuple #[.agg #[.int .i64 3, .int .i64 0, .string (s.extract a (a+k)), .int .i64 a], .int .i64 (a+k:Nat)]) (by simp[results,results214,go_sem]) rfl ⟨rfl,?_⟩;exact bO.alloc (by simp) _
def D2 {a:Nat}{c:UInt8}(h:s.data.toList[a]? =some c):s.extract a (a+1)=⟨#[c]⟩:=by
 apply ByteArray.ext;apply Array.toList_inj.1;rw[Lib.extract_data];have hl:=(Qad.1 h).1;rw[List.drop_eq_getElem_cons hl,show a+1-a=1 from by omega];simp[(Qad.1 h).2]
def ph {a:Nat}{c:UInt8}(h:s.data.toList[a]? =some c)(x y:UInt8)(hx:c≠x\/s.data.toList[a+1]?≠some y):((s.extract a (a+2)).toList==[x,y])=false:=by
 rw[ByteArray.toList_eq,Lib.extract_data,show a+2-a=2 from by omega,beq_eq_false_iff_ne];intro he;have hl:=(Qad.1 h).1;have h0:(((s.data.toList.drop a).take 2))[0]? =some x:=by rw[he];rfl
 have h1:(((s.data.toList.drop a).take 2))[1]? =some y:=by rw[he];rfl
 rw[List.getElem?_take_of_lt (by omega),List.getElem?_drop]at h0 h1;rcases hx with hx|hx
 .rw[Nat.add_zero,h]at h0;simp at h0;exact hx h0
 .exact hx h1
def Lw(s:aT)(w:aj)(a:Nat)(c:UInt8)(hs:s.size<=200)(ha:a<s.size)(h0:s.data.toList[a]? =some c)(hc:c∈dF)(JI:c=62->s.data.toList[a+1]?≠some 61):
 xC 214 #[xS s,xI a] w (cN (.tuple #[.agg #[xI 0,xI 0,xS ⟨#[c]⟩,xI a],xI (a+1:Nat)]) w):=by
 have haz:(a:Int)<s.size:=by omega
 have qge:((a+1:Nat):Int)<=s.size:=by omega
 have mB:s[a]=c:=by have:=du s a ha;rw[h0]at this;simpa using this.symm
 have hx:=D2 h0;have y1:=ph h0 60 62 (.inl (by rintro rfl;simp[dF]at hc));have y2:=ph h0 60 61 (.inl (by rintro rfl;simp[dF]at hc));have y3:=ph h0 62 61 (by by_cases h:c=62;exact .inr (JI h);exact .inl h);have HB:=λw=>af (nw c hc w);have ND:=af (show decide (48<=(c.toNat:Int)/\(c.toNat:Int)<=57)=false by simp only[dF,Qdf,List.not_mem_nil,or_false]at hc;rcases hc with rfl|rfl|rfl|rfl|rfl|rfl|rfl|rfl|rfl|rfl|rfl<;>decide);have NW:=af (show bz (c.toNat:Int)=false by simp only[dF,Qdf,List.not_mem_nil,or_false]at hc;rcases hc with rfl|rfl|rfl|rfl|rfl|rfl|rfl|rfl|rfl|rfl|rfl<;>decide);have e34:((c.toNat:Int)==34)=false:=by simp only[dF,Qdf,List.not_mem_nil,or_false]at hc;rcases hc with rfl|rfl|rfl|rfl|rfl|rfl|rfl|rfl|rfl|rfl|rfl<;>decide
 have B9:(c.toNat:Int)<=255:=D0;have qdi:0<cj [c]\/c=40\/c=41\/c=44:=by simp only[dF,Qdf,List.not_mem_nil,or_false]at hc;rcases hc with rfl|rfl|rfl|rfl|rfl|rfl|rfl|rfl|rfl|rfl|rfl<;>decide
 clear h0 JI hc;have RW:(((a+1:Nat):Int)<s.size/\((a+2:Nat):Int)<=s.size)\/¬((a+1:Nat):Int)<s.size:=by omega
 rcases qdi with hb|hb
 .have iI:(0:Int)<(cj [c]:Int):=by omega
  generalize cj [c]=b at*;clear hb;rcases RW with⟨h1z,h2z⟩|h1z;all_goals
   go_enter func214,ntmps214;go_wp2_with fail;refine dJ (kS false _ _ (by omega) B9 ND.o) ?_;go_wp2_with fail;refine dJ (sy false _ _ (by omega) B9 NW.o) ?_;go_wp2_with fail;refine dJ ((HB _).o) ?_;go_wp2_with fail;refine Qae (v:= .tuple #[.agg #[xI 0,xI 0,xS ⟨#[c]⟩,xI a],xI (a+1:Nat)]) (by simp[results,results214,go_sem]) rfl ⟨rfl,?_⟩;exact bO.alloc (by simp) _
 .rcases hb with rfl|rfl|rfl<;>rcases RW with⟨h1z,h2z⟩|h1z;all_goals
   go_enter func214,ntmps214;go_wp2_with fail;refine dJ (kS false _ _ (by omega) B9 ND.o) ?_;go_wp2_with fail;refine dJ (sy false _ _ (by omega) B9 NW.o) ?_;go_wp2_with fail;refine dJ ((HB _).o) ?_;rw[show cj _=0 from rfl];go_wp2_with fail;refine Qae (v:= .tuple #[.agg #[xI 0,xI 0,xS _,xI a],xI (a+1:Nat)]) (by simp[results,results214,go_sem]) rfl ⟨rfl,?_⟩;exact bO.alloc (by simp) _
def Co {l:List UInt8}{a:Nat}{x:List UInt8}(h:l.drop a=x):l[a+j]? =x[j]? :=by rw[<-h,List.getElem?_drop]
theorem yd {p:UInt8->Bool}:∀{l:List UInt8}{j:Nat}{u:UInt8},(l.takeWhile p)[j]? =some u->l[j]? =some u/\p u=true
 |[],j,u,h=>by simp at h
 |c::r,j,u,h=>by
  by_cases hc:p c=true
  .rw[List.takeWhile_cons_of_pos hc]at h;cases j with
   |zero=>simp at h;subst h;exact⟨rfl,hc⟩
   |succ j=>simpa using yd (l:=r) (j:=j) (u:=u) (by simpa using h)
  .rw[List.takeWhile_cons_of_neg hc]at h;simp at h
theorem Ob {p:UInt8->Bool}:∀{l:List UInt8}{u:UInt8},l[(l.takeWhile p).length]? =some u->p u=false
 |[],u,h=>by simp at h
 |c::r,u,h=>by
  by_cases hc:p c=true
  .rw[List.takeWhile_cons_of_pos hc]at h;exact Ob (l:=r) (u:=u) (by simpa using h)
  .rw[List.takeWhile_cons_of_neg hc]at h;simp at h;subst h;simpa using hc
theorem xb {p:UInt8->Bool}:∀(l:List UInt8),l.take (l.takeWhile p).length=l.takeWhile p
 |[]=>rfl
 |c::r=>by
  by_cases hc:p c=true
  .rw[List.takeWhile_cons_of_pos hc];simp[xb r]
  .rw[List.takeWhile_cons_of_neg hc];rfl
def b8(k:Nat):Int:=if k=4 then 0 else k
def Oc(s:aT)(w:aj)(a:Nat)(hs:s.size<=200)(kd n:Nat)(str:List UInt8)(size:Nat)(h:sw (s.data.toList.drop a)=some ((kd,n,str),size)):
 (xC 214 #[xS s,xI a] w (cN (.tuple #[.agg #[xI (b8 kd),xI n,xS (bL str),xI a],xI (a+size:Nat)]) w))/\0<size/\a+size<=s.size/\n<=9/\str.length<=200:=by
 cases hl:s.data.toList.drop a with
 |nil=>rw[hl]at h;simp[sw]at h
 |cons c r=>
  rw[hl]at h;have hlen:a+(r.length+1)=s.size:=by
   have h1:(s.data.toList.drop a).length=r.length+1:=by rw[hl];rfl
   rw[List.length_drop,bh]at h1;omega
  have ha:a<s.size:=by omega
  have h0:s.data.toList[a]? =some c:=by have:=Co (j:=0) hl;simpa using this
  have h1:∀j,s.data.toList[a+1+j]? =r[j]? :=λj=>by have:=Co (j:=j+1) hl;rw[Nat.add_right_comm,Nat.add_assoc];simpa using this
  have mB:s[a]=c:=by have:=du s a ha;rw[h0]at this;simpa using this.symm
  unfold sw at h;dsimp only at h;by_cases hd:ou c=true
  .rw[if_pos hd]at h;have hr:su r=false:=by
    cases hq:su r with
    |false=>rfl
    |true=>rw[hq]at h;simp at h
   rw[hr]at h;simp only[Bool.false_eq_true,if_false,Qcf,Prod.mk.injEq]at h;obtain⟨⟨rfl,rfl,rfl⟩,rfl⟩:=h;have af:=hd;rw[ny]at af;obtain⟨e1,e2⟩:=of_decide_eq_true af;refine⟨?_,by omega,by omega,by omega,by simp⟩;have bA:=Oa s w a c hs ha mB hd (λd hd'=>by
    have h2:=h1 0;rw[Nat.add_zero,hd']at h2;cases r with
    |nil=>simp at h2
    |cons x y=>simp at h2;subst h2;exact hr);rw[show((c.toNat-48:Nat):Int)=(c.toNat:Int)-48 from by omega];exact bA
  .rw[if_neg hd]at h;by_cases jd:qQ c=true
   .rw[if_pos jd]at h;by_cases hn:qR ((c::r).takeWhile de)=true
    .rw[if_pos hn]at h;simp only[Qcf,Prod.mk.injEq]at h;obtain⟨⟨rfl,rfl,rfl⟩,rfl⟩:=h;have hw:de c=true:=by unfold de;rw[jd];rfl
     have wQ:0<((c::r).takeWhile de).length:=by rw[List.takeWhile_cons_of_pos hw];simp
     have hle:((c::r).takeWhile de).length<=(c::r).length:=(List.takeWhile_prefix de).length_le;have qdj:((c::r).takeWhile de).length<=r.length+1:=by simpa using hle
     have TR:(s.extract a (a+((c::r).takeWhile de).length)).data.toList=(c::r).takeWhile de:=by
      rw[Lib.extract_data,hl,show a+((c::r).takeWhile de).length-a=((c::r).takeWhile de).length from by omega,xb]
     have bA:=Lv s w a ((c::r).takeWhile de).length c hs wQ (by omega) (λj u hu=>by
      rw[Co hl]at hu;constructor
      .intro hj;obtain⟨v,hv⟩:∃v,((c::r).takeWhile de)[j]? =some v:=⟨_,Qac hj⟩;obtain⟨h3,h4⟩:=yd hv;rw[hu]at h3;cases h3;exact h4
      .intro hj;subst hj;exact Ob hu) h0 jd (by rw[TR];exact hn);rw[ff TR]at bA;exact⟨bA,wQ,by omega,by omega,by omega⟩
    .rw[if_neg hn]at h;cases h
   .rw[if_neg jd]at h;by_cases wR:c=34
    .rw[if_pos wR]at h;subst wR;have hq:r[(r.takeWhile eX).length]? =some 34/\jK (r.takeWhile eX)=true/\kd=2/\n=0/\str=r.takeWhile eX/\size=(r.takeWhile eX).length+2:=by
      split at h
      .rename_i x hx;split at h
       .simp only[Qcf,Prod.mk.injEq]at h;obtain⟨⟨rfl,rfl,rfl⟩,rfl⟩:=h;refine⟨?_,by assumption,rfl,rfl,rfl,rfl⟩;have h5:=congrArg (λl=>l[0]?) hx;simp only[List.getElem?_drop,Nat.add_zero]at h5;simpa using h5
       .cases h
      .cases h
     obtain⟨hq,ht,rfl,rfl,rfl,rfl⟩:=hq;have aX:=(Qad.1 hq).1;have bA:=Lu s w a (r.takeWhile eX) hs ha mB (λj u hu=>by
      obtain⟨h3,h4⟩:=yd hu;exact⟨(h1 j).trans h3,h4⟩) ((h1 _).trans hq) ht;exact⟨bA,by omega,by omega,by omega,by omega⟩
    .rw[if_neg wR]at h;have tY:c∈dF/\(c=62->r.head?≠some 61)/\kd=4/\n=0/\str=[c]/\size=1:=by
      split at h
      .rename_i hm;simp only[Qcf,Prod.mk.injEq]at h;obtain⟨⟨rfl,rfl,rfl⟩,rfl⟩:=h;have RX:=List.contains_iff_mem.1 hm;refine⟨?_,?_,rfl,rfl,rfl,rfl⟩
       .simp only[dF,Qdf,List.not_mem_nil,or_false]at RX⊢;rcases RX with h|h|h|h|h|h|h|h|h|h<;>simp[h]
       .rintro rfl;simp at RX
      .split at h
       .rename_i hm;simp only[Qcf,Prod.mk.injEq]at h;obtain⟨⟨rfl,rfl,rfl⟩,rfl⟩:=h;exact⟨by rw[hm.1];simp[dF],λ_=>hm.2,rfl,rfl,rfl,rfl⟩
       .cases h
     obtain⟨hm,JI,rfl,rfl,rfl,rfl⟩:=tY;have bA:=Lw s w a c hs ha h0 hm (λhc=>by
      have h3:=JI hc;have h4:=h1 0;rw[Nat.add_zero]at h4;rw[h4];cases r with
      |nil=>simp
      |cons x y=>simpa using h3);exact⟨bA,by omega,by omega,by omega,by simp⟩
structure ye where
 kind:Int
 n:Int
 s:aT
 at_:Int
instance:aA ye where
 size:=4
 rep:=λ_ _ cs x=>cs=[xI x.kind,xI x.n,xS x.s,xI x.at_]/\x.s.size<=200
 len:=λh=>by rw[h.1];rfl
 flat:=λh u hu=>by rw[h.1]at hu;simp at hu;rcases hu with rfl|rfl|rfl|rfl<;>rfl
 ev:=λh _=>h
def mI(t:Tok):ye:=⟨b8 t.kind,t.n,bL t.s,t.at_⟩
def aN(b:Nat):Nat->Prop:=λi=>i=b
structure dG(b:Nat)(lv:an)(en:Int)(T:List Tok)(w:aj)(i:Nat):Prop where
 box:cI w b (xK #[lv,xI i,xI en,xI (-1)] 303)
 toks:ab (aN b) w lv (T.map mI)
 few:T.length<=200
 le:i<=T.length
 kinds:∀t∈T,1<=t.kind/\t.kind<=4
theorem dG.step {T:List Tok}(h:dG b lv en T w i)(ho:ai (aN b) w w')(hb:w'.heap[b]? =some (xK #[lv,xI j,xI en,xI (-1)] 303))(hj:j<=T.length):dG b lv en T w' j:=
 ⟨hb,h.toks.ev ⟨ho,λ_ h=> .inl h⟩,h.few,hj,h.kinds⟩
theorem dG.below {T:List Tok}(h:dG b lv en T w i)(hb:aq w w'):dG b lv en T w' i:=
 h.step (ai.ao hb) ((hb.block b (Qaa.1 h.box).1).trans h.box) h.le
theorem dG.drewN {T:List Tok}(h:dG b lv en T w i)(n:Nat):dG b lv en T (w.drewN n) i:=⟨h.box,h.toks,h.few,h.le,h.kinds⟩
theorem dG.cells {T:List Tok}(h:dG b lv en T w i):∃a cap,lv=xL a T.length cap/\(∀t,T[i]? =some t->∃bl off,a=some ⟨bl,off,none⟩/\bl≠b/\bl<w.heap.size/\aU w bl (off+i*4) (xI (b8 t.kind))/\aU w bl (off+i*4+1) (xI t.n)/\aU w bl (off+i*4+2) (xS (bL t.s))/\aU w bl (off+i*4+3) (xI t.at_)):=by
 obtain⟨a,cap,hv,_,_,hc⟩:=h.toks.open_;rw[Qdc]at hv hc;refine⟨a,cap,hv,λt ht=> ?_⟩;have hl:=(Qad.1 ht).1;obtain⟨bl,off,ha,hM,cw,aG⟩:=hc (by omega);obtain⟨cs,⟨rfl,_⟩,bD⟩:=aG i (mI t) (by rw[List.getElem?_map,ht];rfl);exact⟨bl,off,ha,hM,cw,bD 0 _ rfl,bD 1 _ rfl,bD 2 _ rfl,bD 3 _ rfl⟩
def drop_cons {T:List Tok}{t:Tok}(h:T[i]? =some t):T.drop i=t::T.drop (i+1):=by
 obtain⟨hl,rfl⟩:=Qad.1 h;exact List.drop_eq_getElem_cons hl
def Zt {a:List UInt8}{b:aT}:((bL a).toList==b.toList)=(a==b.data.toList):=by rw[ByteArray.toList_eq,ByteArray.toList_eq];rfl
def Od(b:Nat)(lv:an)(en:Int)(T:List Tok)(w:aj)(i:Nat)(s:aT)(h:dG b lv en T w i)(r:Bool)(hr:dL (T.drop i) s.data.toList=r):
 xC 258 #[xP b,xS s] w λe w'=>e=xR (xB r)/\∃n,w'=w.drewN n:=by
 obtain⟨a,cap,rfl,hc⟩:=h.cells;obtain⟨p0,p1,p2,p3⟩:=ae h.box;have hle:=h.le;have Gj:=h.few;have hk:=h.kinds;by_cases hi:i<T.length
 .obtain⟨t,ht⟩:=dQ T i hi;obtain⟨bl,off,rfl,GM,cw,q0,q1,q2,q3⟩:=hc t ht;rw[drop_cons ht]at hr;have ni:=hk t (Qaf ht);have US:(i:Int)<(T.length:Int):=by omega
  have dz:(0:Int)<=(i:Int):=Qba _;by_cases h4:t.kind=4
  .have e0:(b8 t.kind==0)=true:=by simp[b8,h4]
   have GN:((bL t.s).toList==s.toList)=r:=by
    rw[<-hr,Zt];simp[dL,h4]
   go_enter func258,ntmps258;go_wp2_with fail;go_quiet(fail);go_wp2;go_ret;exact⟨rfl,_,rfl⟩
  .have e0:(b8 t.kind==0)=false:=by simp[b8,h4];omega
   have GN:false=r:=by
    rw[<-hr];simp[dL,h4]
   subst GN;go_enter func258,ntmps258;go_wp2_with fail;go_quiet(fail);go_wp2;go_ret;exact⟨rfl,_,rfl⟩
 .have US:¬(i:Int)<(T.length:Int):=by omega
  have hd:decide ((i:Int)<(T.length:Int))=false:=by simpa using US
  have hd':decide (i<T.length)=false:=by simpa using hi
  rw[List.drop_eq_nil_of_le (by omega)]at hr;have GN:false=r:=hr;subst GN;go_enter func258,ntmps258;go_wp2_with fail;go_quiet(fail);go_wp2;go_ret;exact⟨rfl,_,rfl⟩
theorem ai.Lx(h:ai (aN b) w w')(i:Nat)(u:an):ai (aN b) w (w'.setCell ⟨b,i,none⟩ u):=h.setCell (p:=⟨b,i,none⟩) (.inl (show b=b from rfl)) u
def Ly(b:Nat)(lv:an)(en:Int)(T:List Tok)(w:aj)(j:Nat)(e:Ending)(w':aj):Prop:=∃v,e=xR v/\dG b lv en T w' j/\ai (aN b) w w'
def Kd(b:Nat)(lv:an)(en:Int)(T:List Tok)(w:aj)(i:Nat)(s:aT)(h:dG b lv en T w i)(hr:dL (T.drop i) s.data.toList=true):
 xC 261 #[xP b,xS s] w (Ly b lv en T w (i+1)):=by
 have bA:=Od b lv en T w i s h true hr;have hi:i<T.length:=by
  rcases Nat.lt_or_ge i T.length with h|h
  .exact h
  .rw[List.drop_eq_nil_of_le h]at hr;cases hr
 obtain⟨a,cap,rfl,_⟩:=h.cells;obtain⟨p0,p1,p2,p3⟩:=ae h.box;have f1:=ag h.box 1;have Gj:=h.few;have fu:=af h;have bt:=af bA;go_enter func261,ntmps261;go_wp2_with fail;refine(bt.o).mono ?_;rintro e w1⟨rfl,n,rfl⟩;go_wp2_with fail;refine Qae (results_none rfl _ _ _) rfl ?_;refine⟨_,rfl,fu.o.step ?_ ?_ (by omega),?_⟩
 .exact((ai.refl (aN b) w).drewN n).Lx 1 _
 .exact Qca _ _ 1 _ _ _ fu.o.box
 .exact((ai.refl (aN b) w).drewN n).Lx 1 _
def fp(w:aj):Nat->Prop:=λi=>i<w.heap.size
def yf(b:Nat)(lv:an)(en:Int)(T:List Tok)(w:aj)(x:ax)(r:List Tok)(e:Ending)(w':aj):Prop:=
 ∃v j,e=xR v/\bS (fp w) w' v x/\dG b lv en T w' j/\r=T.drop j/\ai (aN b) w w'
def Ke(b:Nat)(lv:an)(en:Int)(T:List Tok)(k:Nat):Prop:=∀(least i:Nat)(x:ax)(r:List Tok)(w:aj),1<=least->least<=5->dG b lv en T w i->ji k least (T.drop i)=some (x,r)->
 xC 215 #[xP b,xI least] w (yf b lv en T w x r)
def G7(b:Nat)(lv:an)(en:Int)(T:List Tok)(k:Nat):Prop:=∀(i:Nat)(x:ax)(r:List Tok)(w:aj),dG b lv en T w i->jr k (T.drop i)=some (x,r)->
 xC 228 #[xP b] w (yf b lv en T w x r)
def Oe(b:Nat)(lv:an)(en:Int)(T:List Tok)(k:Nat):Prop:=∀(i:Nat)(nm:List UInt8)(l:List ax)(r:List Tok)(w:aj),0<dq nm->nm.length<=200->dG b lv en T w i->eO k (dq nm) (T.drop i)=some (l,r)->
 xC 260 #[xP b,xS (bL nm)] w (yf b lv en T w (.mk 6 0 (bL nm) l) r)
def jF(l:List UInt8):(bL l).size=l.length:=by unfold bL;simp[ByteArray.size]
def lU(l:List UInt8):(bL l).data.toList=l:=by unfold bL;simp
def vz(k n:Int)(s:aT)(hs:s.size<=maxLen):bS M w (.agg #[xI k,xI n,xS s,xL none 0 0]) (ax.mk k n s []):=
 ⟨_,rfl,cC.iff.2 ⟨_,rfl,ab.nil _ _,hs⟩⟩
def qS(T:List Tok):Prop:=∀t∈T,t.s.length<=200/\(t.kind=1->t.s=[])/\(t.kind≠1->t.n=0)/\(t.kind=4->∃c,c∈dF/\t.s=[c])
theorem dG.next {T:List Tok}{wc:aj}(cm:dG b lv en T wc i)(hi:i<T.length)(ho:ai (aN b) w wc):dG b lv en T (wc.setCell ⟨b,1,none⟩ (xI ((i:Int)+1))) (i+1)/\ai (aN b) w (wc.setCell ⟨b,1,none⟩ (xI ((i:Int)+1))):=
 ⟨cm.step ((ai.refl (aN b) wc).Lx 1 _) (Qca wc b 1 _ _ _ cm.box) (by omega),ho.Lx 1 _⟩
theorem dG.set {T:List Tok}{wc:aj}(cm:dG b lv en T wc i)(hb:b<w.heap.size)(hsz:w.heap.size<=wc.heap.size)(hf:∀bl off,lv.ownBlock=some bl->bl<w.heap.size\/off=0\/True)(p:Addr)(hp:w.heap.size<=p.block)(hl:∀x,lv.ownBlock=some x->x<w.heap.size)(u:an):dG b lv en T (wc.setCell p u) i:=by
 refine⟨(Qag _ _ _ _ (by omega)).trans cm.box,?_,cm.few,cm.le,cm.kinds⟩;obtain⟨css,⟨h1,a,cap,rfl,h3,h4,h5⟩,h2,h6⟩:=cm.toks;refine⟨css,⟨h1,a,cap,rfl,h3,h4,λhn=> ?_⟩,h2,λj cs x hc hx=>h6 j cs x hc hx⟩;obtain⟨bl,off,rfl,hF,cw,aG⟩:=h5 hn;have:=hl bl rfl;exact⟨bl,off,rfl,hF,by simpa using cw,λj u hu=>(World.cell?_of_block (w:=wc) (Qag _ _ _ _ (by simp;omega))).trans (aG j u hu)⟩
def Be {T:List Tok}{wc:aj}(cm:dG b lv en T wc i)(hi:i<T.length)(ho:ai (aN b) w wc)(hb:b<w.heap.size)(hl:∀x,lv.ownBlock=some x->x<w.heap.size)(v0 v1 v2 v3:an):
 dG b lv en T (((((wc.setCell ⟨b,1,none⟩ (xI ((i:Int)+1))).setCell ⟨w.heap.size,0,none⟩ v0).setCell ⟨w.heap.size,1,none⟩ v1).setCell ⟨w.heap.size,2,none⟩ v2).setCell ⟨w.heap.size,3,none⟩ v3) (i+1)/\
 ai (aN b) w (((((wc.setCell ⟨b,1,none⟩ (xI ((i:Int)+1))).setCell ⟨w.heap.size,0,none⟩ v0).setCell ⟨w.heap.size,1,none⟩ v1).setCell ⟨w.heap.size,2,none⟩ v2).setCell ⟨w.heap.size,3,none⟩ v3):=by
 obtain⟨h1,h2⟩:=cm.next hi ho;have hz:=ho.size;refine⟨(((h1.set hb (by simpa using hz) (λ_ _ _=> .inr (.inr trivial)) _ bq hl v0).set hb (by simpa using hz) (λ_ _ _=> .inr (.inr trivial)) _ bq hl v1).set hb (by simpa using hz) (λ_ _ _=> .inr (.inr trivial)) _ bq hl v2).set hb (by simpa using hz) (λ_ _ _=> .inr (.inr trivial)) _ bq hl v3,?_⟩;exact(((h2.setCell (.inr bq) v0).setCell (.inr bq) v1).setCell (.inr bq) v2).setCell (.inr bq) v3
def wG(w:aj)(o0 o1:Obj)(wx:aj):Prop:=wx.heap[w.heap.size]? =some o0/\wx.heap[w.heap.size+1]? =some o1/\wx.heap.size=w.heap.size+2/\aq w wx
def Of {w W wx:World}{o0 o1:Obj}(h:W.heap[w.heap.size]? =some o0/\W.heap[w.heap.size+1]? =some o1/\W.heap.size=w.heap.size+2/\aq w W)(h1:wx.heap=W.heap)(h2:wx.os=W.os)(h3:wx.tape=W.tape)(h4:wx.output=W.output):wG w o0 o1 wx:=by
 unfold wG;rw[h1];obtain⟨a,b,c,d⟩:=h;exact⟨a,b,c,⟨h2.trans d.os,h3.trans d.tape,h4.trans d.output,by rw[h1];exact d.size,by rw[h1];exact d.block⟩⟩
def G8(b:Nat)(lv:an)(en:Int)(T:List Tok)(oO:qS T)(k:Nat)(HC:Oe b lv en T k):G7 b lv en T (k+1):=by
 intro i x r w cm hp;have Gj:=cm.few;have vg:=cm.box;have cw:b<w.heap.size:=(Qaa.1 vg).1;obtain⟨p0,p1,p2,p3⟩:=ae vg;have f1:=ag vg 1;rcases Nat.lt_or_ge i T.length with hi|hi
 .obtain⟨t,ht⟩:=dQ T i hi;obtain⟨a,cap,rfl,hc⟩:=cm.cells;obtain⟨bl,off,rfl,GM,Gk,q0,q1,q2,q3⟩:=hc t ht;have fG:=Qaf ht;obtain⟨qa,QE,htn,_⟩:=oO t fG;have ni:=cm.kinds t fG;rw[drop_cons ht]at hp;unfold jr at hp;dsimp only at hp;have US:(i:Int)<(T.length:Int):=by omega
  have qgf:¬(T.length:Int)<=(i:Int):=by omega
  have hd':decide (T.length<=i)=false:=by simp;omega
  have Ys:decide ((T.length:Int)<=(i:Int))=false:=by simp;omega
  have dz:(0:Int)<=(i:Int):=Qba _;have qgg:b≠w.heap.size:=by omega
  have qfz:bl≠w.heap.size:=by omega
  have qf0:=af (drop_cons ht);clear hc ht fG;have fu:=af cm;clear cm;have Nl:=af vg;clear vg;have HP:=af hp;clear hp;have oR:=af QE;clear QE;have Wy:=af htn;clear htn;go_enter func228,ntmps228;go_wp2_with fail;go_quiet(fail);go_upto_region 3 with fail;go_cut [3](λs3 wx=>s3=xP (w.heap.size+1)/\wG w (xK iN 287) (xK #[xI (b8 t.kind),xI t.n,xS (bL t.s),xI t.at_] 305) wx);case first=>
   go_region_held3(λw'=>w'.cell? ⟨b,0,none⟩=some (xL (some ⟨bl,off,none⟩) T.length cap)/\w'.cell? ⟨b,1,none⟩=some (xI i)/\w'.cell? ⟨bl,off+i*4,none⟩=some (xI (b8 t.kind))/\w'.cell? ⟨bl,off+i*4+1,none⟩=some (xI t.n)/\w'.cell? ⟨bl,off+i*4+2,none⟩=some (xS (bL t.s))/\w'.cell? ⟨bl,off+i*4+3,none⟩=some (xI t.at_))
    (first|go_keep)(first|fail);all_goals(go_wp2_with fail;go_meet;exact⟨rfl,Of (jM (w:=w) (o0:=xK iN 287) (o1:=xK #[xI (b8 t.kind),xI t.n,xS (bL t.s),xI t.at_] 305) rfl) rfl rfl rfl rfl⟩)
  case rest=>
   obtain⟨rfl,QF,rZ,iO,Dp⟩:=hcut;have QG:=af (fu.o.below Dp);clear p0 p1 p2 p3 f1 q0 q1 q2 q3;obtain⟨p0,p1,p2,p3⟩:=ae QG.o.box;have f1:=ag QG.o.box 1;obtain⟨r0,r1,r2,r3⟩:=ae QF;obtain⟨g0,g1,g2,g3⟩:=ic QF;obtain⟨x0,x1,x2,x3⟩:=ae rZ;have hsx:w.heap.size+1<wc.heap.size:=by omega
   have n1:b≠w.heap.size+1:=by omega
   have Dn:=af QF;clear QF;have fI:=af rZ;clear rZ;have tM:=af iO;clear iO;have HXB:=af Dp;clear Dp;by_cases h1:t.kind=1
   .have hp:=HP.o;rw[if_pos h1]at hp;simp only[Qcf,Prod.mk.injEq]at hp;obtain⟨rfl,rfl⟩:=hp;have e1:(b8 t.kind==1)=true:=by simp[b8,h1]
    have HK:=af (show b8 t.kind=1 by simp[b8,h1]);have HS0:=af (oR.o h1);clear h1 ni;go_wp2_with fail;refine Qae (v:= .agg #[xI 1,xI t.n,xS (bL []),xL none 0 0]) (by simp[results,results228,go_sem,r0,r1,r2,r3,HK.o,HS0.o]) rfl ?_;obtain⟨k1,k2⟩:=Be QG.o hi (ai.ao HXB.o) cw (λx hx=>by cases hx;exact Gk) (xI (b8 t.kind)) (xI t.n) (xS (bL t.s)) (xL none 0 0);exact⟨_,i+1,rfl,vz _ _ _ (by rw[jF];unfold maxLen;simp),k1,rfl,k2⟩
   .by_cases h2:t.kind=2
    .have hp:=HP.o;rw[if_neg h1,if_pos h2]at hp;simp only[Qcf,Prod.mk.injEq]at hp;obtain⟨rfl,rfl⟩:=hp;have e1:(b8 t.kind==1)=false:=by simp[b8,h2]
     have e2:(b8 t.kind==2)=true:=by simp[b8,h2]
     have HK:=af (show b8 t.kind=2 by simp[b8,h2]);have HN0:=af (Wy.o h1);clear h1 h2 ni;go_wp2_with fail;refine Qae (v:= .agg #[xI 2,xI 0,xS (bL t.s),xL none 0 0]) (by simp[results,results228,go_sem,r0,r1,r2,r3,HK.o,HN0.o]) rfl ?_;obtain⟨k1,k2⟩:=Be QG.o hi (ai.ao HXB.o) cw (λx hx=>by cases hx;exact Gk) (xI (b8 t.kind)) (xI t.n) (xS (bL t.s)) (xL none 0 0);exact⟨_,i+1,rfl,vz _ _ _ (by rw[jF];unfold maxLen;omega),k1,rfl,k2⟩
    .by_cases h3:t.kind=3
     .have hp:=HP.o;rw[if_neg h1,if_neg h2,if_pos h3]at hp;have e1:(b8 t.kind==1)=false:=by simp[b8,h3]
      have e2:(b8 t.kind==2)=false:=by simp[b8,h3]
      have e3:(b8 t.kind==3)=true:=by simp[b8,h3]
      obtain⟨m1,m2⟩:=QG.o.next hi (ai.ao HXB.o);have NM:=af m1;have TS:=af m2;clear m1 m2 h1 h2 h3 ni;have QC:Hd (∀r,dL (T.drop (i+1)) [40]=r->xC 258 #[xP b,xS ⟨#[40]⟩] (wc.setCell ⟨b,1,none⟩ (xI ((i:Int)+1))) λe w'=>e=xR (xB r)/\∃n,w'=(wc.setCell ⟨b,1,none⟩ (xI ((i:Int)+1))).drewN n):=λr hr=>Od b _ en T _ (i+1) ⟨#[40]⟩ NM.o r hr;have Yv:Hd (∀W,xC 259 #[xS (bL t.s)] W (gE (xI (dq t.s)) W)):=λW=>by have h:=ux (bL t.s) W;rw[lU]at h;exact h
      obtain⟨sg,tY⟩:=fx (dL (T.drop (i+1)) [40]);have bt:=af (QC.o sg tY);rw[tY]at hp;have HSG:=af tY;clear tY;have JJ:=af hp;clear hp;clear QC;go_wp2_with fail;refine(bt.o).mono ?_;rintro e w5⟨rfl,nn,TT⟩;have wS:=af (show dG b (xL (some ⟨bl,off,none⟩) T.length cap) en T w5 (i+1)by rw[TT];exact NM.o.drewN nn);have Ca:=af (show ai (aN b) w w5 by rw[TT];exact TS.o.drewN nn);have GO:=af (show dY w5 w (xK iN 287)by rw[TT];exact(Qag _ _ _ _ (by simp;omega)).trans Dn.o);have HY5:=af (show cI w5 (w.heap.size+1) (xK #[xI (b8 t.kind),xI t.n,xS (bL t.s),xI t.at_] 305)by rw[TT];exact(Qag _ _ _ _ (by simp;omega)).trans fI.o);clear TT p0 p1 p2 p3 f1 r0 r1 r2 r3 g0 g1 g2 g3 x0 x1 x2 x3 bt;obtain⟨p0,p1,p2,p3⟩:=ae wS.o.box;have f1:=ag wS.o.box 1;obtain⟨r0,r1,r2,r3⟩:=ae GO.o;obtain⟨g0,g1,g2,g3⟩:=ic GO.o;obtain⟨x0,x1,x2,x3⟩:=ae HY5.o;have Gl:=Ca.o.size;have hsR:w.heap.size<w5.heap.size:=(Qaa.1 GO.o).1;have FLD:Hd (∀W',W'=(((w5.setCell ⟨w.heap.size,0,none⟩ (xI 3)).setCell ⟨w.heap.size,1,none⟩ (xI 0)).setCell ⟨w.heap.size,2,none⟩ (xS (bL t.s))).setCell ⟨w.heap.size,3,none⟩ (xL none 0 0)->dG b (xL (some ⟨bl,off,none⟩) T.length cap) en T W' (i+1)/\ai (aN b) w W'):=λW' h=>by
       rw[h];have hl:∀y,(Value.slice (some ⟨bl,off,none⟩) T.length cap).ownBlock=some y->y<w.heap.size:=λy hy=>by cases hy;exact Gk
       have ht:∀(x y:Nat),(Value.slice (some ⟨bl,off,none⟩) T.length cap).ownBlock=some x->x<w.heap.size\/y=0\/True:=λ_ _ _=> .inr (.inr trivial);exact⟨(((wS.o.set cw Gl ht _ bq hl _).set cw (by simpa using Gl) ht _ bq hl _).set cw (by simpa using Gl) ht _ bq hl _).set cw (by simpa using Gl) ht _ bq hl _,(((Ca.o.setCell (.inr bq) _).setCell (.inr bq) _).setCell (.inr bq) _).setCell (.inr bq) _⟩
      cases sg
      .have hx:x= .mk 3 0 (bL t.s) []/\r=T.drop (i+1):=by
        have hp:=JJ.o;rw[if_neg (by simp)]at hp;simp only[Qcf,Prod.mk.injEq]at hp;exact⟨hp.1.symm,hp.2.symm⟩
       obtain⟨rfl,rfl⟩:=hx;go_wp2_with fail;refine Qae (v:= .agg #[xI 3,xI 0,xS (bL t.s),xL none 0 0]) (by simp[results,results228,go_sem,r0,r1,r2,r3]) rfl ?_;obtain⟨k1,k2⟩:=FLD.o _ rfl;exact⟨_,i+1,rfl,vz _ _ _ (by rw[jF];unfold maxLen;omega),k1,rfl,k2⟩
      .rcases Nat.eq_zero_or_pos (dq t.s)with ha|ha
       .have hx:x= .mk 3 0 (bL t.s) []/\r=T.drop (i+1):=by
         have hp:=JJ.o;rw[if_neg (by omega)]at hp;simp only[Qcf,Prod.mk.injEq]at hp;exact⟨hp.1.symm,hp.2.symm⟩
        obtain⟨rfl,rfl⟩:=hx;rw[ha]at Yv;clear ha;go_wp2_with fail;refine dJ (Yv.o _) ?_;go_wp2_with fail;refine Qae (v:= .agg #[xI 3,xI 0,xS (bL t.s),xL none 0 0]) (by simp[results,results228,go_sem,r0,r1,r2,r3]) rfl ?_;obtain⟨k1,k2⟩:=FLD.o _ rfl;exact⟨_,i+1,rfl,vz _ _ _ (by rw[jF];unfold maxLen;omega),k1,rfl,k2⟩
       .have hp:=JJ.o;rw[if_pos ⟨ha,rfl⟩]at hp;have TU:i+1<T.length:=by
         rcases Nat.lt_or_ge (i+1) T.length with h|h
         .exact h
         .have tY:=HSG.o;rw[List.drop_eq_nil_of_le h]at tY;cases tY
        obtain⟨l,r',RY,rfl,rfl⟩:∃l r',eO k (dq t.s) (T.drop (i+2))=some (l,r')/\x= .mk 6 0 (bL t.s) l/\r=r':=by
         rw[List.drop_drop,show i+1+1=i+2 from rfl]at hp;cases hq:eO k (dq t.s) (T.drop (i+2))with
         |none=>rw[hq]at hp;cases hp
         |some q=>obtain⟨l,r'⟩:=q;rw[hq]at hp;simp only[Qcf,Prod.mk.injEq]at hp;exact⟨l,r',rfl,hp.1.symm,hp.2.symm⟩
        have haz:(0:Int)<(dq t.s:Int):=by omega
        obtain⟨m1,m2⟩:=wS.o.next TU Ca.o;rw[show((i+1:Nat):Int)+1=(i:Int)+1+1 from by omega]at m1 m2;have hz6:=m2.size;simp at hz6;have bA:=HC (i+2) t.s l r _ ha qa m1 RY;have zW:=af bA;clear bA;have HM6:=af m1;clear m1;have UT:=af m2;clear m2;clear hp RY ha;go_wp2_with fail;refine dJ (Yv.o _) ?_;go_wp2_with fail;refine(zW.o).mono ?_;rintro e w7⟨v,j,rfl,⟨cs,rfl,bU⟩,QH,hrj,QI⟩;obtain⟨av,rfl,bo,j6⟩:=cC.iff.1 bU;obtain⟨ka,kc,rfl,_⟩:=bo.open_;have Yw:Hd (dY w7 w (xK iN 287)):=(QI.block w.heap.size (by simp;omega) (by unfold aN;omega)).trans ((Qag _ _ _ _ (by simp;omega)).trans GO.o);clear p0 p1 p2 p3 f1 r0 r1 r2 r3 g0 g1 g2 g3 x0 x1 x2 x3;obtain⟨r0,r1,r2,r3⟩:=ae Yw.o;obtain⟨g0,g1,g2,g3⟩:=ic Yw.o;have fH:=af bU;clear bU;have qdk:=af QH;clear QH;have HRJ:=af hrj;clear hrj;have HO7:=af QI;clear QI;have eE:=af bo;clear bo;have wB:=af j6;clear j6;go_wp2_with fail;refine Qae (v:= .agg #[xI 6,xI 0,xS (bL t.s),xL ka l.length kc]) (by simp[results,results228,go_sem,r0,r1,r2,r3]) rfl ?_;have hl:∀y,(Value.slice (some ⟨bl,off,none⟩) T.length cap).ownBlock=some y->y<w.heap.size:=λy hy=>by cases hy;exact Gk
        have ht:∀(x y:Nat),(Value.slice (some ⟨bl,off,none⟩) T.length cap).ownBlock=some x->x<w.heap.size\/y=0\/True:=λ_ _ _=> .inr (.inr trivial);have ho8:=(UT.o.trans HO7.o);have hs8:=ho8.size;refine⟨_,j,rfl,⟨_,rfl,cC.iff.2 ⟨_,rfl,eE.o.ev ?_,wB.o⟩⟩,?_,HRJ.o,?_⟩
        .exact((((Ev.eG w7 (λi h=>by unfold fp at h⊢;simp;omega)).setCell (.inl (by unfold fp;simp;omega)) _).setCell (.inl (by unfold fp;simp;omega)) _).setCell (.inl (by unfold fp;simp;omega)) _).setCell (.inl (by unfold fp;simp;omega)) _
        .exact(((qdk.o.set cw hs8 ht _ bq hl _).set cw (by simpa using hs8) ht _ bq hl _).set cw (by simpa using hs8) ht _ bq hl _).set cw (by simpa using hs8) ht _ bq hl _
        .exact(((ho8.setCell (.inr bq) _).setCell (.inr bq) _).setCell (.inr bq) _).setCell (.inr bq) _
     .exfalso;have hp:=HP.o;rw[if_neg h1,if_neg h2,if_neg h3]at hp;cases hp
 .rw[List.drop_eq_nil_of_le hi]at hp;simp[jr]at hp
end Go.Proofs.YtccpcfcochffcaaGreatDoor
