/- A part of OpReads's proof; no condition. -/
import Derived.Test.YtepaofffbkfodaaGreatDoorM01
import Derived.Lib.SmallJoins
set_option linter.all false
set_option maxHeartbeats 8000000
set_option maxRecDepth 100000
namespace Go.Proofs.YtepaofffbkfodaaGreatDoor
open Tryz
open Go.RowKit
variable{k j i b:Nat}{s:aM}{w w':aj}{en:Int}{lv:an}{M:aN}
def Gq(s:aM)(w:aj)(c:UInt8)(h:s.data.toList[0]? =some c)(hc:c<128):xC 405 #[xS s] w (ji (xI 1) w):=by
 have h0:0<s.size:=by have:=(Qad.1 h).1;rw[bq]at this;exact this
 have h1:s[0]=c:=by have:=dk s 0 h0;rw[h]at this;simpa using this.symm
 have h2:(c.toNat:Int)<128:=by have:=UInt8.lt_iff_toNat_lt.1 hc;simp at this;omega
 have hn:¬s.size=0:=by omega
 go_enter func405,ntmps405;go_wp2;go_ret;exact⟨rfl,rfl⟩
def N7 {l:List UInt8}(h:jP l=true){c:UInt8}(hc:l[k]? =some c):32<=c/\c<127:=by
 unfold jP at h;simp only[Qce,List.all_eq_true,decide_eq_true_eq]at h;exact h.2 c (Qaf hc)
def Bu(s:aM)(w:aj)(h:jP s.data.toList=true):xC 401 #[xS s] w (ji (xB true) w):=by
 have hz:s.size<=60:=by unfold jP at h;simp only[Qce,decide_eq_true_eq]at h;have:=h.1;rw[bq]at this;exact this
 have HT:=af h;go_enter func401,ntmps401;go_wp2;go_loopg [2,3,4]s.size(λg r iv _ wr=>∃k:Nat,k<=s.size/\g=s.size-k/\iv=xI k/\r=xB false/\w=wr);case atStart=>exact⟨0,Qbf _,rfl,rfl,rfl,rfl⟩
 case round=>
  obtain⟨k,hk,rfl,rfl,rfl,rfl⟩:=hrel;by_cases bu:k<s.size
  .obtain⟨c,hc⟩:=jO (s[k]);have hb:=dk s k bu;rw[hc]at hb;obtain⟨h1,h2⟩:=N7 HT.o hb;have e1:(32:Int)<=(c.toNat:Int):=by have:=UInt8.le_iff_toNat_le.1 h1;simp at this;omega
   have e2:((c.toNat:Int)==127)=false:=by have:=UInt8.lt_iff_toNat_lt.1 h2;simp at this;simp;omega
   have e3:¬(c.toNat:Int)<32:=by omega
   have HS:=af (show(s.extract k s.size).data.toList[0]? =some c by rw[Lib.extract_data];rw[List.getElem?_take_of_lt (by omega),List.getElem?_drop];simpa using hb);have HC:=af (show c<128 by have:=UInt8.lt_iff_toNat_lt.1 h2;exact UInt8.lt_iff_toNat_lt.2 (by simp at this⊢;omega));have hkz:(k:Int)<s.size:=by omega
   go_wp2_with fail;refine cT (Gq _ _ c HS.o HC.o) ?_;go_wp2;go_roundg(s.size-(k+1));case measure=>omega
   case rel=>exact⟨k+1,by omega,rfl,by go_num,rfl,rfl⟩
  .go_wp2;go_ret;exact⟨rfl,rfl⟩
def rN(s:aM)(w:aj)(h:jP s.data.toList=true):xC 382 #[.agg #[xI 2,xI 0,xS s,xL none 0 0]] w (cr (xB true) w):=by
 have hz:s.size<=60:=by unfold jP at h;simp only[Qce,decide_eq_true_eq]at h;have:=h.1;rw[bq]at this;exact this
 have HT:=af h;go_enter func382,ntmps382;go_wp2_with fail;refine cT (Bu _ _ HT.o) ?_;go_wp2;go_ret;exact⟨rfl,bM⟩
def R8 {a:Nat}{d:List UInt8}{c:UInt8}(hd:∀j u,d[j]? =some u->s.data.toList[a+j]? =some u)(hc:d[k]? =some c):bL (d.take k)++s.extract (a+k) (a+k+1)=bL (d.take (k+1)):=by
 apply ByteArray.ext;apply Array.toList_inj.1;rw[Joins.data_append,Lib.extract_data];unfold bL;simp only[List.toList_toArray];rw[Qbb,hc];have:=hd k c hc;rw[show a+k+1-(a+k)=1 from by omega];congr 1;have hl:a+k<s.data.toList.length:=(Qad.1 this).1;rw[List.drop_eq_getElem_cons hl];have h2:=(Qad.1 this).2;simp[h2]
def U7(s:aM)(w:aj)(a:Nat)(d:List UInt8)(hs:s.size<=200)(ha:a<s.size)(hd:∀j u,d[j]? =some u->s.data.toList[a+1+j]? =some u/\eY u=true)(hq:s.data.toList[a+1+d.length]? =some 34)(ht:jP d=true):
 xC 341 #[xS s,xI a] w (cr (.tuple #[xS (bL d),xI (a+d.length+2:Nat)]) w):=by
 have hl:a+1+d.length<s.size:=by have:=(Qad.1 hq).1;rw[bq]at this;exact this
 have cR:∀l:List UInt8,(bL l).size=l.length:=λl=>by unfold bL;simp[ByteArray.size]
 have HD:=af hd;have HQ:=af hq;have HT:=af ht;go_enter func341,ntmps341;go_wp2;go_loopg [4,5,6,7]d.length(λg r0 r1 tv iv wr=>∃k:Nat,k<=d.length/\g=d.length-k/\iv=xI (a+1+k:Nat)/\tv=xS (bL (d.take k))/\r0=xS ⟨#[]⟩/\r1=xI 0/\w=wr);case atStart=>exact⟨0,Qbf _,rfl,by go_num,rfl,rfl,rfl,rfl⟩
 case round=>
  obtain⟨k,hk,rfl,rfl,rfl,rfl,rfl,rfl⟩:=hrel;have bu:a+1+k<s.size:=by omega
  obtain⟨c,hc⟩:=jO (s[a+1+k]);have hb:=dk s (a+1+k) bu;rw[hc]at hb;have hkz:((a+1+k:Nat):Int)<s.size:=by omega
  have qgm:((a+1+k:Nat):Int)+1<=s.size:=by omega
  have hsz:(bL (d.take k)).size<=200:=by rw[cR];simp;omega
  by_cases NM:k<d.length
  .obtain⟨u,hu⟩:=eB d k NM;obtain⟨h1,h2⟩:=HD.o k u hu;have huc:u=c:=by rw[hb]at h1;simpa using h1.symm
   rw[huc]at h2 hu;have e1:((c.toNat:Int)==34)=false/\((c.toNat:Int)==92)=false:=by
    unfold eY at h2;simp only[Qce,bne_iff_ne,ne_eq]at h2;constructor
    .simp;intro h;exact h2.1 (UInt8.toNat_inj.1 (by simp;omega))
    .simp;intro h;exact h2.2 (UInt8.toNat_inj.1 (by simp;omega))
   obtain⟨e1,e2⟩:=e1;have pH:=af (R8 (s:=s) (a:=a+1) (λj u h=>(HD.o j u h).1) hu);go_wp2;go_roundg(d.length-(k+1));case measure=>omega
   case rel=>exact⟨k+1,by omega,rfl,by go_num,by rw[<-pH.o],rfl,rfl,rfl⟩
  .obtain rfl:k=d.length:=by omega
   have hq:c=34:=by have:=HQ.o;rw[hb]at this;simpa using this
   subst hq;have Qz:=af (show jP (bL d).data.toList=true by unfold bL;simpa using HT.o);rw[List.take_length]at hsz⊢;go_wp2_with fail;refine bY (rN _ _ Qz.o) λw1 aF=> ?_;have aY:=af aF;go_wp2;go_ret2;exact⟨by simp;omega,aY.o⟩
def C7 {c:UInt8}:(c.toNat:Int)<=255:=by have:=c.toNat_lt;omega
def ni {c:UInt8}:nO c=decide (48<=(c.toNat:Int)/\(c.toNat:Int)<=57):=by
 unfold nO;rw[Bool.eq_iff_iff];simp[UInt8.le_iff_toNat_le];omega
def N8(s:ByteArray)(w:World)(a:Nat)(c:UInt8)(hs:s.size<=200)(ha:a<s.size)(hc:s[a]=c)(hd:nO c=true)(hn:∀d,s.data.toList[a+1]? =some d->nO d=false):
 Calls prog 317 #[.string s, .int .i64 a] w λe w'=>e= .returned (.tuple #[.agg #[.int .i64 1, .int .i64 ((c.toNat:Int)-48), .string ⟨#[]⟩, .int .i64 a], .int .i64 (a+1:Nat)])/\Below w.heap.size w w':=by
 have Fm:(c.toNat:Int)<=255:=C7;rw[ni]at hd;obtain⟨h48,h57⟩:=of_decide_eq_true hd;have HD:=hD hd;clear hd;have HN:=hD hn;clear hn;have haz:(a:Int)<s.size:=by omega
 have z1:IntKind.u8.wrap ((c.toNat:Int)-48)=(c.toNat:Int)-48:=by
  simp[IntKind.wrap,IntKind.bits,IntKind.signed];omega
 have Z1:=hD z1;clear z1;go_enter func317,ntmps317;go_wp2_with fail;refine(kN true _ _ (by omega) Fm HD.out).mono ?_;rintro e w'⟨rfl,rfl⟩;go_wp2_with fail;go_loopg [5,7]1(λg r iv wr=>∃k:Nat,k<=1/\g=1-k/\iv= .int .i64 (a+k:Nat)/\r= .int .i64 0/\((k=0/\wr=(w.alloc (.cells #[.int .i64 0, .int .i64 0, .string ⟨#[]⟩, .int .i64 0] 392)).alloc (.cells #[.int .i64 0, .int .i64 0, .string ⟨#[]⟩, .int .i64 a] 392))\/(k=1/\wr=((w.alloc (.cells #[.int .i64 0, .int .i64 0, .string ⟨#[]⟩, .int .i64 0] 392)).alloc (.cells #[.int .i64 0, .int .i64 ((c.toNat:Int)-48), .string ⟨#[]⟩, .int .i64 a] 392)).drew)));case atStart=>exact⟨0,by omega,rfl,by go_num,rfl, .inl ⟨rfl,rfl⟩⟩
 case round=>
  obtain⟨k,hk,rfl,rfl,rfl,hw⟩:=hrel;rcases hw with⟨rfl,rfl⟩|⟨rfl,rfl⟩
  .rw[Nat.add_zero];go_wp2_with fail;refine(kN true _ _ (by omega) Fm HD.out).mono ?_;rintro e w'⟨rfl,rfl⟩;go_wp2_with fail;have z1:=Z1.out;go_region;clear z1;go_wp2_with fail;go_roundg 0;case measure=>omega
   case rel=>exact⟨1,by omega,rfl,by go_num,rfl, .inr ⟨rfl,rfl⟩⟩
  .by_cases h1:a+1<s.size
   .obtain⟨d,af⟩:∃d,s[a+1]=d:=⟨_,rfl⟩;have hb:=dk s (a+1) h1;rw[af]at hb;have Wh:=HN.out d hb;rw[ni]at Wh;have qda:=hD Wh;clear Wh;have hz:((a+1:Nat):Int)<s.size:=by omega
    clear hb;go_wp2_with fail;refine(kN false _ _ (by omega) C7 qda.out).mono ?_;rintro e w'⟨rfl,rfl⟩;go_wp2_with fail;refine Qae (v:= .tuple #[.agg #[.int .i64 1, .int .i64 ((c.toNat:Int)-48), .string ⟨#[]⟩, .int .i64 a], .int .i64 (a+1:Nat)]) (by simp[results,results317,go_sem]) rfl ⟨rfl,?_⟩;exact(((Qbg _ _).alloc (Qab _) _).alloc (by simp) _).drew
   .have hz:¬((a+1:Nat):Int)<s.size:=by omega
    go_wp2_with fail;refine Qae (v:= .tuple #[.agg #[.int .i64 1, .int .i64 ((c.toNat:Int)-48), .string ⟨#[]⟩, .int .i64 a], .int .i64 (a+1:Nat)]) (by simp[results,results317,go_sem]) rfl ⟨rfl,?_⟩;exact(((Qbg _ _).alloc (Qab _) _).alloc (by simp) _).drew
def rP {c:UInt8}:qJ c=decide (97<=(c.toNat:Int)/\(c.toNat:Int)<=122):=by
 unfold qJ;rw[Bool.eq_iff_iff];simp[UInt8.le_iff_toNat_le];omega
def vU {c:UInt8}:dm c=bA (c.toNat:Int):=by
 unfold dm bA eu;rw[rP,ni,Bool.eq_iff_iff];have:(c==95)=decide ((c.toNat:Int)=95):=by
  rw[Bool.eq_iff_iff];simp;constructor
  .intro h;subst h;rfl
  .intro h;exact UInt8.toNat_inj.1 (by simp;omega)
 rw[this]
def pO:qK s.data.toList=aB s:=by
 unfold qK aB;rw[bq];cases hl:s.data.toList with
 |nil=>simp
 |cons a r=>
  have h1:eu (a.toNat:Int)=qJ a:=by rw[rP];rfl
  have h2:((a::r).all λc=>bA (c.toNat:Int))=(a::r).all dm:=by congr 1;funext c;exact vU.symm
  simp only[h1,h2,Bool.and_assoc]
def Lc(s:aM)(w:aj)(a:Nat)(d:List UInt8)(hs:s.size<=200)(ha:a<s.size)(hc:s[a]=34)(hd:∀j u,d[j]? =some u->s.data.toList[a+1+j]? =some u/\eY u=true)(hq:s.data.toList[a+1+d.length]? =some 34)(ht:jP d=true):
 xC 317 #[xS s,xI a] w (cr (.tuple #[.agg #[xI 2,xI 0,xS (bL d),xI a],xI (a+d.length+2:Nat)]) w):=by
 have haz:(a:Int)<s.size:=by omega
 have br:=λw=>af (U7 s w a d hs ha hd hq ht);clear hd hq ht;go_enter func317,ntmps317;go_wp2_with fail;refine cT (kN false _ _ (by omega) (by decide) (by decide)) ?_;go_wp2_with fail;refine bY ((br _).o) λw1 aF=> ?_;have s1:=aF.size;simp at s1;have uB:=af ((aF.block w.heap.size (by simp;omega)).trans (jR (w:=w) rfl).1);have fL:=af ((aF.block (w.heap.size+1) (by simp)).trans (jR (w:=w) rfl).2.1);have aY:Hd (aq w w1):=(bM.alloc (by simp) _).trans (aF.mono (by simp;omega));obtain⟨p0,p1,p2,p3⟩:=ae uB.o;obtain⟨q0,q1,q2,q3⟩:=ae fL.o;obtain⟨f0,f1,f2,f3⟩:=iK uB.o;have g2:=ag fL.o 2;clear aF;go_wp2_with fail;refine Qae (v:= .tuple #[.agg #[xI 2,xI 0,xS (bL d),xI a],xI (a+d.length+2:Nat)]) (by simp[results,results317,go_sem,p0,p1,p2,p3]) rfl ⟨rfl,?_⟩;exact((((aY.o.setCell (by simp) _).setCell (by simp) _).setCell (by simp) _).setCell (by simp) _).setCell (by simp) _
def Ld(s:ByteArray)(w:World)(a n:Nat)(c:UInt8)(hs:s.size<=200)(yJ:0<n)(hl:a+n<=s.size)(hc:∀j u,s.data.toList[a+j]? =some u->(j<n->dm u=true)/\(j=n->dm u=false))(h0:s.data.toList[a]? =some c)(ik:qJ c=true)(hn:qK (s.extract a (a+n)).data.toList=true):
 xC 317 #[.string s, .int .i64 a] w (cr (.tuple #[.agg #[.int .i64 3, .int .i64 0, .string (s.extract a (a+n)), .int .i64 a], .int .i64 (a+n:Nat)]) w):=by
 have ha:a<s.size:=by omega
 have haz:(a:Int)<s.size:=by omega
 have l9:s[a]=c:=by have:=dk s a ha;rw[h0]at this;simpa using this.symm
 rw[rP]at ik;obtain⟨h97,qgn⟩:=of_decide_eq_true ik;have Fm:(c.toNat:Int)<=255:=C7;have ND:Hd (decide (48<=(c.toNat:Int)/\(c.toNat:Int)<=57)=false):=(show _=_ from decide_eq_false (by omega));have NW:Hd (bA (c.toNat:Int)=true):=(show _=_ by rw[<-vU];exact(hc 0 c (by simpa using h0)).1 yJ);have e34:((c.toNat:Int)==34)=false:=by simp;omega
 rw[pO]at hn;have hsz:(s.extract a (a+n)).size<=200:=by simp;omega
 have HC:=af hc;clear hc;have HN:=af hn;clear hn;clear h0 ik;go_enter func317,ntmps317;go_wp2_with fail;refine(kN false _ _ (by omega) Fm ND.o).mono ?_;rintro e w'⟨rfl,rfl⟩;go_wp2_with fail;refine(rM true _ _ (by omega) Fm NW.o).mono ?_;rintro e w'⟨rfl,rfl⟩;go_wp2;go_loopg [7]n(λg iv wr=>∃k:Nat,k<=n/\g=n-k/\iv= .int .i64 (a+k:Nat)/\wr=(w.alloc (.cells #[.int .i64 0, .int .i64 0, .string ⟨#[]⟩, .int .i64 0] 392)).alloc (.cells #[.int .i64 0, .int .i64 0, .string ⟨#[]⟩, .int .i64 a] 392));case atStart=>exact⟨0,by omega,rfl,by go_num,rfl⟩
 case round=>
  obtain⟨k,hk,rfl,rfl,rfl⟩:=hrel;by_cases bu:a+k<s.size
  .obtain⟨d,af⟩:∃d,s[a+k]=d:=⟨_,rfl⟩;have hb:=dk s (a+k) bu;rw[af]at hb;obtain⟨hy,Bi⟩:=HC.o k d hb;have hz:((a+k:Nat):Int)<s.size:=by omega
   have FX:(d.toNat:Int)<=255:=C7;clear hb;by_cases Nc:k<n
   .have W1:Hd (bA (d.toNat:Int)=true):=(show _=_ by rw[<-vU];exact hy Nc);clear hy Bi;go_wp2_with fail;refine(rM true _ _ (by omega) FX W1.o).mono ?_;rintro e w'⟨rfl,rfl⟩;go_wp2;go_roundg(n-(k+1));case measure=>omega
    case rel=>exact⟨k+1,by omega,rfl,by go_num,rfl⟩
   .obtain rfl:k=n:=by omega
    have W1:Hd (bA (d.toNat:Int)=false):=(show _=_ by rw[<-vU];exact Bi rfl);clear hy Bi;go_wp2_with fail;refine(rM false _ _ (by omega) FX W1.o).mono ?_;rintro e w'⟨rfl,rfl⟩;have er:((a+k:Nat):Int)<=s.size:=by omega
    have yK:(a:Int)<=((a+k:Nat):Int):=by omega
    go_wp2_with fail;refine(fY true _ _ HN.o (by unfold maxLen;omega)).mono ?_;rintro e w'⟨rfl,rfl⟩;go_wp2_with fail;refine Qae (v:= .tuple #[.agg #[.int .i64 3, .int .i64 0, .string (s.extract a (a+k)), .int .i64 a], .int .i64 (a+k:Nat)]) (by simp[results,results317,go_sem]) rfl ⟨rfl,?_⟩;exact bM.alloc (by simp) _
  .obtain rfl:k=n:=by omega
   have hz:¬((a+k:Nat):Int)<s.size:=by omega
   have er:((a+k:Nat):Int)<=s.size:=by omega
   have yK:(a:Int)<=((a+k:Nat):Int):=by omega
   go_wp2_with fail;refine(fY true _ _ HN.o (by unfold maxLen;omega)).mono ?_;rintro e w'⟨rfl,rfl⟩;go_wp2_with fail;refine Qae (v:= .tuple #[.agg #[.int .i64 3, .int .i64 0, .string (s.extract a (a+k)), .int .i64 a], .int .i64 (a+k:Nat)]) (by simp[results,results317,go_sem]) rfl ⟨rfl,?_⟩;exact bM.alloc (by simp) _
def C9 {a:Nat}{c:UInt8}(h:s.data.toList[a]? =some c):s.extract a (a+1)=⟨#[c]⟩:=by
 apply ByteArray.ext;apply Array.toList_inj.1;rw[Lib.extract_data];have hl:=(Qad.1 h).1;rw[List.drop_eq_getElem_cons hl,show a+1-a=1 from by omega];simp[(Qad.1 h).2]
def oI {a:Nat}{c:UInt8}(h:s.data.toList[a]? =some c)(x y:UInt8)(hx:c≠x\/s.data.toList[a+1]?≠some y):((s.extract a (a+2)).toList==[x,y])=false:=by
 rw[ByteArray.toList_eq,Lib.extract_data,show a+2-a=2 from by omega,beq_eq_false_iff_ne];intro he;have hl:=(Qad.1 h).1;have h0:(((s.data.toList.drop a).take 2))[0]? =some x:=by rw[he];rfl
 have h1:(((s.data.toList.drop a).take 2))[1]? =some y:=by rw[he];rfl
 rw[List.getElem?_take_of_lt (by omega),List.getElem?_drop]at h0 h1;rcases hx with hx|hx
 .rw[Nat.add_zero,h]at h0;simp at h0;exact hx h0
 .exact hx h1
def Le(s:aM)(w:aj)(a:Nat)(c:UInt8)(hs:s.size<=200)(ha:a<s.size)(h0:s.data.toList[a]? =some c)(hc:c∈dP)(Ji:c=62->s.data.toList[a+1]?≠some 61):
 xC 317 #[xS s,xI a] w (cr (.tuple #[.agg #[xI 0,xI 0,xS ⟨#[c]⟩,xI a],xI (a+1:Nat)]) w):=by
 have haz:(a:Int)<s.size:=by omega
 have qgo:((a+1:Nat):Int)<=s.size:=by omega
 have l9:s[a]=c:=by have:=dk s a ha;rw[h0]at this;simpa using this.symm
 have hx:=C9 h0;have y1:=oI h0 60 62 (.inl (by rintro rfl;simp[dP]at hc));have y2:=oI h0 60 61 (.inl (by rintro rfl;simp[dP]at hc));have y3:=oI h0 62 61 (by by_cases h:c=62;exact .inr (Ji h);exact .inl h);have HB:=λw=>af (nh c hc w);have ND:=af (show decide (48<=(c.toNat:Int)/\(c.toNat:Int)<=57)=false by simp only[dP,Qdf,List.not_mem_nil,or_false]at hc;rcases hc with rfl|rfl|rfl|rfl|rfl|rfl|rfl|rfl|rfl|rfl|rfl<;>decide);have NW:=af (show bA (c.toNat:Int)=false by simp only[dP,Qdf,List.not_mem_nil,or_false]at hc;rcases hc with rfl|rfl|rfl|rfl|rfl|rfl|rfl|rfl|rfl|rfl|rfl<;>decide);have e34:((c.toNat:Int)==34)=false:=by simp only[dP,Qdf,List.not_mem_nil,or_false]at hc;rcases hc with rfl|rfl|rfl|rfl|rfl|rfl|rfl|rfl|rfl|rfl|rfl<;>decide
 have Fm:(c.toNat:Int)<=255:=C7;have qdb:0<cB [c]\/c=40\/c=41\/c=44:=by simp only[dP,Qdf,List.not_mem_nil,or_false]at hc;rcases hc with rfl|rfl|rfl|rfl|rfl|rfl|rfl|rfl|rfl|rfl|rfl<;>decide
 clear h0 Ji hc;have ZZ:(((a+1:Nat):Int)<s.size/\((a+2:Nat):Int)<=s.size)\/¬((a+1:Nat):Int)<s.size:=by omega
 rcases qdb with hb|hb
 .have l6:(0:Int)<(cB [c]:Int):=by omega
  generalize cB [c]=b at*;clear hb;rcases ZZ with⟨h1z,h2z⟩|h1z;all_goals
   go_enter func317,ntmps317;go_wp2_with fail;refine cT (kN false _ _ (by omega) Fm ND.o) ?_;go_wp2_with fail;refine cT (rM false _ _ (by omega) Fm NW.o) ?_;go_wp2_with fail;refine cT ((HB _).o) ?_;go_wp2_with fail;refine Qae (v:= .tuple #[.agg #[xI 0,xI 0,xS ⟨#[c]⟩,xI a],xI (a+1:Nat)]) (by simp[results,results317,go_sem]) rfl ⟨rfl,?_⟩;exact bM.alloc (by simp) _
 .rcases hb with rfl|rfl|rfl<;>rcases ZZ with⟨h1z,h2z⟩|h1z;all_goals
   go_enter func317,ntmps317;go_wp2_with fail;refine cT (kN false _ _ (by omega) Fm ND.o) ?_;go_wp2_with fail;refine cT (rM false _ _ (by omega) Fm NW.o) ?_;go_wp2_with fail;refine cT ((HB _).o) ?_;rw[show cB _=0 from rfl];go_wp2_with fail;refine Qae (v:= .tuple #[.agg #[xI 0,xI 0,xS _,xI a],xI (a+1:Nat)]) (by simp[results,results317,go_sem]) rfl ⟨rfl,?_⟩;exact bM.alloc (by simp) _
def Bv {l:List UInt8}{a:Nat}{x:List UInt8}(h:l.drop a=x):l[a+j]? =x[j]? :=by rw[<-h,List.getElem?_drop]
theorem wK {p:UInt8->Bool}:∀{l:List UInt8}{j:Nat}{u:UInt8},(l.takeWhile p)[j]? =some u->l[j]? =some u/\p u=true
 |[],j,u,h=>by simp at h
 |c::r,j,u,h=>by
  by_cases hc:p c=true
  .rw[List.takeWhile_cons_of_pos hc]at h;cases j with
   |zero=>simp at h;subst h;exact⟨rfl,hc⟩
   |succ j=>simpa using wK (l:=r) (j:=j) (u:=u) (by simpa using h)
  .rw[List.takeWhile_cons_of_neg hc]at h;simp at h
theorem N9 {p:UInt8->Bool}:∀{l:List UInt8}{u:UInt8},l[(l.takeWhile p).length]? =some u->p u=false
 |[],u,h=>by simp at h
 |c::r,u,h=>by
  by_cases hc:p c=true
  .rw[List.takeWhile_cons_of_pos hc]at h;exact N9 (l:=r) (u:=u) (by simpa using h)
  .rw[List.takeWhile_cons_of_neg hc]at h;simp at h;subst h;simpa using hc
theorem vV {p:UInt8->Bool}:∀(l:List UInt8),l.take (l.takeWhile p).length=l.takeWhile p
 |[]=>rfl
 |c::r=>by
  by_cases hc:p c=true
  .rw[List.takeWhile_cons_of_pos hc];simp[vV r]
  .rw[List.takeWhile_cons_of_neg hc];rfl
def cz(k:Nat):Int:=if k=4 then 0 else k
def Oa(s:aM)(w:aj)(a:Nat)(hs:s.size<=200)(kd n:Nat)(str:List UInt8)(size:Nat)(h:rK (s.data.toList.drop a)=some ((kd,n,str),size)):
 (xC 317 #[xS s,xI a] w (cr (.tuple #[.agg #[xI (cz kd),xI n,xS (bL str),xI a],xI (a+size:Nat)]) w))/\0<size/\a+size<=s.size/\n<=9/\str.length<=200:=by
 cases hl:s.data.toList.drop a with
 |nil=>rw[hl]at h;simp[rK]at h
 |cons c r=>
  rw[hl]at h;have hlen:a+(r.length+1)=s.size:=by
   have h1:(s.data.toList.drop a).length=r.length+1:=by rw[hl];rfl
   rw[List.length_drop,bq]at h1;omega
  have ha:a<s.size:=by omega
  have h0:s.data.toList[a]? =some c:=by have:=Bv (j:=0) hl;simpa using this
  have h1:∀j,s.data.toList[a+1+j]? =r[j]? :=λj=>by have:=Bv (j:=j+1) hl;rw[Nat.add_right_comm,Nat.add_assoc];simpa using this
  have l9:s[a]=c:=by have:=dk s a ha;rw[h0]at this;simpa using this.symm
  unfold rK at h;dsimp only at h;by_cases hd:nO c=true
  .rw[if_pos hd]at h;have hr:rJ r=false:=by
    cases hq:rJ r with
    |false=>rfl
    |true=>rw[hq]at h;simp at h
   rw[hr]at h;simp only[Bool.false_eq_true,if_false,Qcf,Prod.mk.injEq]at h;obtain⟨⟨rfl,rfl,rfl⟩,rfl⟩:=h;have af:=hd;rw[ni]at af;obtain⟨e1,e2⟩:=of_decide_eq_true af;refine⟨?_,by omega,by omega,by omega,by simp⟩;have bK:=N8 s w a c hs ha l9 hd (λd Z0=>by
    have h2:=h1 0;rw[Nat.add_zero,Z0]at h2;cases r with
    |nil=>simp at h2
    |cons x y=>simp at h2;subst h2;exact hr);rw[show((c.toNat-48:Nat):Int)=(c.toNat:Int)-48 from by omega];exact bK
  .rw[if_neg hd]at h;by_cases ik:qJ c=true
   .rw[if_pos ik]at h;by_cases hn:qK ((c::r).takeWhile dm)=true
    .rw[if_pos hn]at h;simp only[Qcf,Prod.mk.injEq]at h;obtain⟨⟨rfl,rfl,rfl⟩,rfl⟩:=h;have hw:dm c=true:=by unfold dm;rw[ik];rfl
     have vI:0<((c::r).takeWhile dm).length:=by rw[List.takeWhile_cons_of_pos hw];simp
     have hle:((c::r).takeWhile dm).length<=(c::r).length:=(List.takeWhile_prefix dm).length_le;have Z2:((c::r).takeWhile dm).length<=r.length+1:=by simpa using hle
     have Ta:(s.extract a (a+((c::r).takeWhile dm).length)).data.toList=(c::r).takeWhile dm:=by
      rw[Lib.extract_data,hl,show a+((c::r).takeWhile dm).length-a=((c::r).takeWhile dm).length from by omega,vV]
     have bK:=Ld s w a ((c::r).takeWhile dm).length c hs vI (by omega) (λj u hu=>by
      rw[Bv hl]at hu;constructor
      .intro hj;obtain⟨v,hv⟩:∃v,((c::r).takeWhile dm)[j]? =some v:=⟨_,Qac hj⟩;obtain⟨h3,h4⟩:=wK hv;rw[hu]at h3;cases h3;exact h4
      .intro hj;subst hj;exact N9 hu) h0 ik (by rw[Ta];exact hn);rw[fg Ta]at bK;exact⟨bK,vI,by omega,by omega,by omega⟩
    .rw[if_neg hn]at h;cases h
   .rw[if_neg ik]at h;by_cases Cu:c=34
    .rw[if_pos Cu]at h;subst Cu;have hq:r[(r.takeWhile eY).length]? =some 34/\jP (r.takeWhile eY)=true/\kd=2/\n=0/\str=r.takeWhile eY/\size=(r.takeWhile eY).length+2:=by
      split at h
      .rename_i x hx;split at h
       .simp only[Qcf,Prod.mk.injEq]at h;obtain⟨⟨rfl,rfl,rfl⟩,rfl⟩:=h;refine⟨?_,by assumption,rfl,rfl,rfl,rfl⟩;have h5:=congrArg (λl=>l[0]?) hx;simp only[List.getElem?_drop,Nat.add_zero]at h5;simpa using h5
       .cases h
      .cases h
     obtain⟨hq,ht,rfl,rfl,rfl,rfl⟩:=hq;have bu:=(Qad.1 hq).1;have bK:=Lc s w a (r.takeWhile eY) hs ha l9 (λj u hu=>by
      obtain⟨h3,h4⟩:=wK hu;exact⟨(h1 j).trans h3,h4⟩) ((h1 _).trans hq) ht;exact⟨bK,by omega,by omega,by omega,by omega⟩
    .rw[if_neg Cu]at h;have yL:c∈dP/\(c=62->r.head?≠some 61)/\kd=4/\n=0/\str=[c]/\size=1:=by
      split at h
      .rename_i hm;simp only[Qcf,Prod.mk.injEq]at h;obtain⟨⟨rfl,rfl,rfl⟩,rfl⟩:=h;have Tc:=List.contains_iff_mem.1 hm;refine⟨?_,?_,rfl,rfl,rfl,rfl⟩
       .simp only[dP,Qdf,List.not_mem_nil,or_false]at Tc⊢;rcases Tc with h|h|h|h|h|h|h|h|h|h<;>simp[h]
       .rintro rfl;simp at Tc
      .split at h
       .rename_i hm;simp only[Qcf,Prod.mk.injEq]at h;obtain⟨⟨rfl,rfl,rfl⟩,rfl⟩:=h;exact⟨by rw[hm.1];simp[dP],λ_=>hm.2,rfl,rfl,rfl,rfl⟩
       .cases h
     obtain⟨hm,Ji,rfl,rfl,rfl,rfl⟩:=yL;have bK:=Le s w a c hs ha h0 hm (λhc=>by
      have h3:=Ji hc;have h4:=h1 0;rw[Nat.add_zero]at h4;rw[h4];cases r with
      |nil=>simp
      |cons x y=>simpa using h3);exact⟨bK,by omega,by omega,by omega,by simp⟩
structure wL where
 kind:Int
 n:Int
 s:aM
 at_:Int
instance:au wL where
 size:=4
 rep:=λ_ _ cs x=>cs=[xI x.kind,xI x.n,xS x.s,xI x.at_]/\x.s.size<=200
 len:=λh=>by rw[h.1];rfl
 flat:=λh u hu=>by rw[h.1]at hu;simp at hu;rcases hu with rfl|rfl|rfl|rfl<;>rfl
 ev:=λh _=>h
def mm(t:Tok):wL:=⟨cz t.kind,t.n,bL t.s,t.at_⟩
def aO(b:Nat):Nat->Prop:=λi=>i=b
structure dR(b:Nat)(lv:an)(en:Int)(T:List Tok)(w:aj)(i:Nat):Prop where
 box:bR w b (xK #[lv,xI i,xI en,xI (-1)] 390)
 toks:ab (aO b) w lv (T.map mm)
 few:T.length<=200
 le:i<=T.length
 kinds:∀t∈T,1<=t.kind/\t.kind<=4
theorem dR.step {T:List Tok}(h:dR b lv en T w i)(ho:ai (aO b) w w')(hb:w'.heap[b]? =some (xK #[lv,xI j,xI en,xI (-1)] 390))(hj:j<=T.length):dR b lv en T w' j:=
 ⟨hb,h.toks.ev ⟨ho,λ_ h=> .inl h⟩,h.few,hj,h.kinds⟩
theorem dR.below {T:List Tok}(h:dR b lv en T w i)(hb:aq w w'):dR b lv en T w' i:=
 h.step (ai.ao hb) ((hb.block b (Qaa.1 h.box).1).trans h.box) h.le
theorem dR.drewN {T:List Tok}(h:dR b lv en T w i)(n:Nat):dR b lv en T (w.drewN n) i:=⟨h.box,h.toks,h.few,h.le,h.kinds⟩
theorem dR.cells {T:List Tok}(h:dR b lv en T w i):∃a cap,lv=xL a T.length cap/\(∀t,T[i]? =some t->∃bl off,a=some ⟨bl,off,none⟩/\bl≠b/\bl<w.heap.size/\bt w bl (off+i*4) (xI (cz t.kind))/\bt w bl (off+i*4+1) (xI t.n)/\bt w bl (off+i*4+2) (xS (bL t.s))/\bt w bl (off+i*4+3) (xI t.at_)):=by
 obtain⟨a,cap,hv,_,_,hc⟩:=h.toks.open_;rw[Qdc]at hv hc;refine⟨a,cap,hv,λt ht=> ?_⟩;have hl:=(Qad.1 ht).1;obtain⟨bl,off,ha,hM,cR,aL⟩:=hc (by omega);obtain⟨cs,⟨rfl,_⟩,bJ⟩:=aL i (mm t) (by rw[List.getElem?_map,ht];rfl);exact⟨bl,off,ha,hM,cR,bJ 0 _ rfl,bJ 1 _ rfl,bJ 2 _ rfl,bJ 3 _ rfl⟩
def drop_cons {T:List Tok}{t:Tok}(h:T[i]? =some t):T.drop i=t::T.drop (i+1):=by
 obtain⟨hl,rfl⟩:=Qad.1 h;exact List.drop_eq_getElem_cons hl
def Zb {a:List UInt8}{b:aM}:((bL a).toList==b.toList)=(a==b.data.toList):=by rw[ByteArray.toList_eq,ByteArray.toList_eq];rfl
def Ob(b:Nat)(lv:an)(en:Int)(T:List Tok)(w:aj)(i:Nat)(s:aM)(h:dR b lv en T w i)(r:Bool)(hr:dT (T.drop i) s.data.toList=r):
 xC 383 #[xP b,xS s] w λe w'=>e=xR (xB r)/\∃n,w'=w.drewN n:=by
 obtain⟨a,cap,rfl,hc⟩:=h.cells;obtain⟨p0,p1,p2,p3⟩:=ae h.box;have hle:=h.le;have Fp:=h.few;have hk:=h.kinds;by_cases hi:i<T.length
 .obtain⟨t,ht⟩:=eB T i hi;obtain⟨bl,off,rfl,y9,cR,q0,q1,q2,q3⟩:=hc t ht;rw[drop_cons ht]at hr;have oy:=hk t (Qaf ht);have RB:(i:Int)<(T.length:Int):=by omega
  have ed:(0:Int)<=(i:Int):=Qba _;by_cases h4:t.kind=4
  .have e0:(cz t.kind==0)=true:=by simp[cz,h4]
   have Up:((bL t.s).toList==s.toList)=r:=by
    rw[<-hr,Zb];simp[dT,h4]
   go_enter func383,ntmps383;go_wp2_with fail;go_quiet(fail);go_wp2;go_ret;exact⟨rfl,_,rfl⟩
  .have e0:(cz t.kind==0)=false:=by simp[cz,h4];omega
   have Up:false=r:=by
    rw[<-hr];simp[dT,h4]
   subst Up;go_enter func383,ntmps383;go_wp2_with fail;go_quiet(fail);go_wp2;go_ret;exact⟨rfl,_,rfl⟩
 .have RB:¬(i:Int)<(T.length:Int):=by omega
  have hd:decide ((i:Int)<(T.length:Int))=false:=by simpa using RB
  have Z0:decide (i<T.length)=false:=by simpa using hi
  rw[List.drop_eq_nil_of_le (by omega)]at hr;have Up:false=r:=hr;subst Up;go_enter func383,ntmps383;go_wp2_with fail;go_quiet(fail);go_wp2;go_ret;exact⟨rfl,_,rfl⟩
theorem ai.Lf(h:ai (aO b) w w')(i:Nat)(u:an):ai (aO b) w (w'.setCell ⟨b,i,none⟩ u):=h.setCell (p:=⟨b,i,none⟩) (.inl (show b=b from rfl)) u
def Lg(b:Nat)(lv:an)(en:Int)(T:List Tok)(w:aj)(j:Nat)(e:Ending)(w':aj):Prop:=∃v,e=xR v/\dR b lv en T w' j/\ai (aO b) w w'
def JG(b:Nat)(lv:an)(en:Int)(T:List Tok)(w:aj)(i:Nat)(s:aM)(h:dR b lv en T w i)(hr:dT (T.drop i) s.data.toList=true):
 xC 386 #[xP b,xS s] w (Lg b lv en T w (i+1)):=by
 have bK:=Ob b lv en T w i s h true hr;have hi:i<T.length:=by
  rcases Nat.lt_or_ge i T.length with h|h
  .exact h
  .rw[List.drop_eq_nil_of_le h]at hr;cases hr
 obtain⟨a,cap,rfl,_⟩:=h.cells;obtain⟨p0,p1,p2,p3⟩:=ae h.box;have f1:=ag h.box 1;have Fp:=h.few;have gM:=af h;have br:=af bK;go_enter func386,ntmps386;go_wp2_with fail;refine(br.o).mono ?_;rintro e w1⟨rfl,n,rfl⟩;go_wp2_with fail;refine Qae (results_none rfl _ _ _) rfl ?_;refine⟨_,rfl,gM.o.step ?_ ?_ (by omega),?_⟩
 .exact((ai.refl (aO b) w).drewN n).Lf 1 _
 .exact Qca _ _ 1 _ _ _ gM.o.box
 .exact((ai.refl (aO b) w).drewN n).Lf 1 _
def fy(w:aj):Nat->Prop:=λi=>i<w.heap.size
def wM(b:Nat)(lv:an)(en:Int)(T:List Tok)(w:aj)(x:aw)(r:List Tok)(e:Ending)(w':aj):Prop:=
 ∃v j,e=xR v/\ct (fy w) w' v x/\dR b lv en T w' j/\r=T.drop j/\ai (aO b) w w'
def JH(b:Nat)(lv:an)(en:Int)(T:List Tok)(k:Nat):Prop:=∀(least i:Nat)(x:aw)(r:List Tok)(w:aj),1<=least->least<=5->dR b lv en T w i->jb k least (T.drop i)=some (x,r)->
 xC 318 #[xP b,xI least] w (wM b lv en T w x r)
def Gr(b:Nat)(lv:an)(en:Int)(T:List Tok)(k:Nat):Prop:=∀(i:Nat)(x:aw)(r:List Tok)(w:aj),dR b lv en T w i->jm k (T.drop i)=some (x,r)->
 xC 344 #[xP b] w (wM b lv en T w x r)
def Oc(b:Nat)(lv:an)(en:Int)(T:List Tok)(k:Nat):Prop:=∀(i:Nat)(nm:List UInt8)(l:List aw)(r:List Tok)(w:aj),0<dB nm->nm.length<=200->dR b lv en T w i->eM k (dB nm) (T.drop i)=some (l,r)->
 xC 385 #[xP b,xS (bL nm)] w (wM b lv en T w (.mk 6 0 (bL nm) l) r)
def jG(l:List UInt8):(bL l).size=l.length:=by unfold bL;simp[ByteArray.size]
def lz(l:List UInt8):(bL l).data.toList=l:=by unfold bL;simp
def uM(k n:Int)(s:aM)(hs:s.size<=maxLen):ct M w (.agg #[xI k,xI n,xS s,xL none 0 0]) (aw.mk k n s []):=
 ⟨_,rfl,cH.iff.2 ⟨_,rfl,ab.nil _ _,hs⟩⟩
def qL(T:List Tok):Prop:=∀t∈T,t.s.length<=200/\(t.kind=1->t.s=[])/\(t.kind≠1->t.n=0)/\(t.kind=4->∃c,c∈dP/\t.s=[c])
theorem dR.next {T:List Tok}{wc:aj}(fJ:dR b lv en T wc i)(hi:i<T.length)(ho:ai (aO b) w wc):dR b lv en T (wc.setCell ⟨b,1,none⟩ (xI ((i:Int)+1))) (i+1)/\ai (aO b) w (wc.setCell ⟨b,1,none⟩ (xI ((i:Int)+1))):=
 ⟨fJ.step ((ai.refl (aO b) wc).Lf 1 _) (Qca wc b 1 _ _ _ fJ.box) (by omega),ho.Lf 1 _⟩
theorem dR.set {T:List Tok}{wc:aj}(fJ:dR b lv en T wc i)(hb:b<w.heap.size)(hsz:w.heap.size<=wc.heap.size)(hf:∀bl off,lv.ownBlock=some bl->bl<w.heap.size\/off=0\/True)(p:Addr)(hp:w.heap.size<=p.block)(hl:∀x,lv.ownBlock=some x->x<w.heap.size)(u:an):dR b lv en T (wc.setCell p u) i:=by
 refine⟨(Qag _ _ _ _ (by omega)).trans fJ.box,?_,fJ.few,fJ.le,fJ.kinds⟩;obtain⟨css,⟨h1,a,cap,rfl,h3,h4,h5⟩,h2,h6⟩:=fJ.toks;refine⟨css,⟨h1,a,cap,rfl,h3,h4,λhn=> ?_⟩,h2,λj cs x hc hx=>h6 j cs x hc hx⟩;obtain⟨bl,off,rfl,hF,cR,aL⟩:=h5 hn;have:=hl bl rfl;exact⟨bl,off,rfl,hF,by simpa using cR,λj u hu=>(World.cell?_of_block (w:=wc) (Qag _ _ _ _ (by simp;omega))).trans (aL j u hu)⟩
def Af {T:List Tok}{wc:aj}(fJ:dR b lv en T wc i)(hi:i<T.length)(ho:ai (aO b) w wc)(hb:b<w.heap.size)(hl:∀x,lv.ownBlock=some x->x<w.heap.size)(v0 v1 v2 v3:an):
 dR b lv en T (((((wc.setCell ⟨b,1,none⟩ (xI ((i:Int)+1))).setCell ⟨w.heap.size,0,none⟩ v0).setCell ⟨w.heap.size,1,none⟩ v1).setCell ⟨w.heap.size,2,none⟩ v2).setCell ⟨w.heap.size,3,none⟩ v3) (i+1)/\
 ai (aO b) w (((((wc.setCell ⟨b,1,none⟩ (xI ((i:Int)+1))).setCell ⟨w.heap.size,0,none⟩ v0).setCell ⟨w.heap.size,1,none⟩ v1).setCell ⟨w.heap.size,2,none⟩ v2).setCell ⟨w.heap.size,3,none⟩ v3):=by
 obtain⟨h1,h2⟩:=fJ.next hi ho;have hz:=ho.size;refine⟨(((h1.set hb (by simpa using hz) (λ_ _ _=> .inr (.inr trivial)) _ bN hl v0).set hb (by simpa using hz) (λ_ _ _=> .inr (.inr trivial)) _ bN hl v1).set hb (by simpa using hz) (λ_ _ _=> .inr (.inr trivial)) _ bN hl v2).set hb (by simpa using hz) (λ_ _ _=> .inr (.inr trivial)) _ bN hl v3,?_⟩;exact(((h2.setCell (.inr bN) v0).setCell (.inr bN) v1).setCell (.inr bN) v2).setCell (.inr bN) v3
def Two(w:aj)(o0 o1:Obj)(wx:aj):Prop:=wx.heap[w.heap.size]? =some o0/\wx.heap[w.heap.size+1]? =some o1/\wx.heap.size=w.heap.size+2/\aq w wx
def Od {w W wx:World}{o0 o1:Obj}(h:W.heap[w.heap.size]? =some o0/\W.heap[w.heap.size+1]? =some o1/\W.heap.size=w.heap.size+2/\aq w W)(h1:wx.heap=W.heap)(h2:wx.os=W.os)(h3:wx.tape=W.tape)(h4:wx.output=W.output):Two w o0 o1 wx:=by
 unfold Two;rw[h1];obtain⟨a,b,c,d⟩:=h;exact⟨a,b,c,⟨h2.trans d.os,h3.trans d.tape,h4.trans d.output,by rw[h1];exact d.size,by rw[h1];exact d.block⟩⟩
def Gs(b:Nat)(lv:an)(en:Int)(T:List Tok)(nX:qL T)(k:Nat)(HC:Oc b lv en T k):Gr b lv en T (k+1):=by
 intro i x r w fJ hp;have Fp:=fJ.few;have uz:=fJ.box;have cR:b<w.heap.size:=(Qaa.1 uz).1;obtain⟨p0,p1,p2,p3⟩:=ae uz;have f1:=ag uz 1;rcases Nat.lt_or_ge i T.length with hi|hi
 .obtain⟨t,ht⟩:=eB T i hi;obtain⟨a,cap,rfl,hc⟩:=fJ.cells;obtain⟨bl,off,rfl,y9,Fq,q0,q1,q2,q3⟩:=hc t ht;have jZ:=Qaf ht;obtain⟨vJ,QA,Z3,_⟩:=nX t jZ;have oy:=fJ.kinds t jZ;rw[drop_cons ht]at hp;unfold jm at hp;dsimp only at hp;have RB:(i:Int)<(T.length:Int):=by omega
  have qgp:¬(T.length:Int)<=(i:Int):=by omega
  have Z0:decide (T.length<=i)=false:=by simp;omega
  have Yc:decide ((T.length:Int)<=(i:Int))=false:=by simp;omega
  have ed:(0:Int)<=(i:Int):=Qba _;have qgq:b≠w.heap.size:=by omega
  have qgc:bl≠w.heap.size:=by omega
  have qgd:=af (drop_cons ht);clear hc ht jZ;have gM:=af fJ;clear fJ;have Nb:=af uz;clear uz;have HP:=af hp;clear hp;have nG:=af QA;clear QA;have Wi:=af Z3;clear Z3;go_enter func344,ntmps344;go_wp2_with fail;go_quiet(fail);go_upto_region 3 with fail;go_cut [3](λs3 wx=>s3=xP (w.heap.size+1)/\Two w (xK iH 319) (xK #[xI (cz t.kind),xI t.n,xS (bL t.s),xI t.at_] 392) wx);case first=>
   go_region_held3(λw'=>w'.cell? ⟨b,0,none⟩=some (xL (some ⟨bl,off,none⟩) T.length cap)/\w'.cell? ⟨b,1,none⟩=some (xI i)/\w'.cell? ⟨bl,off+i*4,none⟩=some (xI (cz t.kind))/\w'.cell? ⟨bl,off+i*4+1,none⟩=some (xI t.n)/\w'.cell? ⟨bl,off+i*4+2,none⟩=some (xS (bL t.s))/\w'.cell? ⟨bl,off+i*4+3,none⟩=some (xI t.at_))
    (first|go_keep)(first|fail);all_goals(go_wp2_with fail;go_meet;exact⟨rfl,Od (jR (w:=w) (o0:=xK iH 319) (o1:=xK #[xI (cz t.kind),xI t.n,xS (bL t.s),xI t.at_] 392) rfl) rfl rfl rfl rfl⟩)
  case rest=>
   obtain⟨rfl,QB,RA,mX,FY⟩:=hcut;have Jj:=af (gM.o.below FY);clear p0 p1 p2 p3 f1 q0 q1 q2 q3;obtain⟨p0,p1,p2,p3⟩:=ae Jj.o.box;have f1:=ag Jj.o.box 1;obtain⟨r0,r1,r2,r3⟩:=ae QB;obtain⟨g0,g1,g2,g3⟩:=iK QB;obtain⟨x0,x1,x2,x3⟩:=ae RA;have hsx:w.heap.size+1<wc.heap.size:=by omega
   have n1:b≠w.heap.size+1:=by omega
   have uB:=af QB;clear QB;have fL:=af RA;clear RA;have CK:=af mX;clear mX;have HXB:=af FY;clear FY;by_cases h1:t.kind=1
   .have hp:=HP.o;rw[if_pos h1]at hp;simp only[Qcf,Prod.mk.injEq]at hp;obtain⟨rfl,rfl⟩:=hp;have e1:(cz t.kind==1)=true:=by simp[cz,h1]
    have HK:=af (show cz t.kind=1 by simp[cz,h1]);have Uq:=af (nG.o h1);clear h1 oy;go_wp2_with fail;refine Qae (v:= .agg #[xI 1,xI t.n,xS (bL []),xL none 0 0]) (by simp[results,results344,go_sem,r0,r1,r2,r3,HK.o,Uq.o]) rfl ?_;obtain⟨k1,k2⟩:=Af Jj.o hi (ai.ao HXB.o) cR (λx hx=>by cases hx;exact Fq) (xI (cz t.kind)) (xI t.n) (xS (bL t.s)) (xL none 0 0);exact⟨_,i+1,rfl,uM _ _ _ (by rw[jG];unfold maxLen;simp),k1,rfl,k2⟩
   .by_cases h2:t.kind=2
    .have hp:=HP.o;rw[if_neg h1,if_pos h2]at hp;simp only[Qcf,Prod.mk.injEq]at hp;obtain⟨rfl,rfl⟩:=hp;have e1:(cz t.kind==1)=false:=by simp[cz,h2]
     have e2:(cz t.kind==2)=true:=by simp[cz,h2]
     have HK:=af (show cz t.kind=2 by simp[cz,h2]);have HN0:=af (Wi.o h1);clear h1 h2 oy;go_wp2_with fail;refine Qae (v:= .agg #[xI 2,xI 0,xS (bL t.s),xL none 0 0]) (by simp[results,results344,go_sem,r0,r1,r2,r3,HK.o,HN0.o]) rfl ?_;obtain⟨k1,k2⟩:=Af Jj.o hi (ai.ao HXB.o) cR (λx hx=>by cases hx;exact Fq) (xI (cz t.kind)) (xI t.n) (xS (bL t.s)) (xL none 0 0);exact⟨_,i+1,rfl,uM _ _ _ (by rw[jG];unfold maxLen;omega),k1,rfl,k2⟩
    .by_cases h3:t.kind=3
     .have hp:=HP.o;rw[if_neg h1,if_neg h2,if_pos h3]at hp;have e1:(cz t.kind==1)=false:=by simp[cz,h3]
      have e2:(cz t.kind==2)=false:=by simp[cz,h3]
      have e3:(cz t.kind==3)=true:=by simp[cz,h3]
      obtain⟨m1,m2⟩:=Jj.o.next hi (ai.ao HXB.o);have zJ:=af m1;have Jk:=af m2;clear m1 m2 h1 h2 h3 oy;have Un:Hd (∀r,dT (T.drop (i+1)) [40]=r->xC 383 #[xP b,xS ⟨#[40]⟩] (wc.setCell ⟨b,1,none⟩ (xI ((i:Int)+1))) λe w'=>e=xR (xB r)/\∃n,w'=(wc.setCell ⟨b,1,none⟩ (xI ((i:Int)+1))).drewN n):=λr hr=>Ob b _ en T _ (i+1) ⟨#[40]⟩ zJ.o r hr;have RD:Hd (∀W,xC 384 #[xS (bL t.s)] W (ji (xI (dB t.s)) W)):=λW=>by have h:=tP (bL t.s) W;rw[lz]at h;exact h
      obtain⟨sg,yL⟩:=jO (dT (T.drop (i+1)) [40]);have br:=af (Un.o sg yL);rw[yL]at hp;have HSG:=af yL;clear yL;have Ye:=af hp;clear hp;clear Un;go_wp2_with fail;refine(br.o).mono ?_;rintro e w5⟨rfl,nn,Td⟩;have vK:=af (show dR b (xL (some ⟨bl,off,none⟩) T.length cap) en T w5 (i+1)by rw[Td];exact zJ.o.drewN nn);have Kx:=af (show ai (aO b) w w5 by rw[Td];exact Jk.o.drewN nn);have Kz:=af (show di w5 w (xK iH 319)by rw[Td];exact(Qag _ _ _ _ (by simp;omega)).trans uB.o);have HY5:=af (show bR w5 (w.heap.size+1) (xK #[xI (cz t.kind),xI t.n,xS (bL t.s),xI t.at_] 392)by rw[Td];exact(Qag _ _ _ _ (by simp;omega)).trans fL.o);clear Td p0 p1 p2 p3 f1 r0 r1 r2 r3 g0 g1 g2 g3 x0 x1 x2 x3 br;obtain⟨p0,p1,p2,p3⟩:=ae vK.o.box;have f1:=ag vK.o.box 1;obtain⟨r0,r1,r2,r3⟩:=ae Kz.o;obtain⟨g0,g1,g2,g3⟩:=iK Kz.o;obtain⟨x0,x1,x2,x3⟩:=ae HY5.o;have Fs:=Kx.o.size;have hsR:w.heap.size<w5.heap.size:=(Qaa.1 Kz.o).1;have FLD:Hd (∀W',W'=(((w5.setCell ⟨w.heap.size,0,none⟩ (xI 3)).setCell ⟨w.heap.size,1,none⟩ (xI 0)).setCell ⟨w.heap.size,2,none⟩ (xS (bL t.s))).setCell ⟨w.heap.size,3,none⟩ (xL none 0 0)->dR b (xL (some ⟨bl,off,none⟩) T.length cap) en T W' (i+1)/\ai (aO b) w W'):=λW' h=>by
       rw[h];have hl:∀y,(Value.slice (some ⟨bl,off,none⟩) T.length cap).ownBlock=some y->y<w.heap.size:=λy hy=>by cases hy;exact Fq
       have ht:∀(x y:Nat),(Value.slice (some ⟨bl,off,none⟩) T.length cap).ownBlock=some x->x<w.heap.size\/y=0\/True:=λ_ _ _=> .inr (.inr trivial);exact⟨(((vK.o.set cR Fs ht _ bN hl _).set cR (by simpa using Fs) ht _ bN hl _).set cR (by simpa using Fs) ht _ bN hl _).set cR (by simpa using Fs) ht _ bN hl _,(((Kx.o.setCell (.inr bN) _).setCell (.inr bN) _).setCell (.inr bN) _).setCell (.inr bN) _⟩
      cases sg
      .have hx:x= .mk 3 0 (bL t.s) []/\r=T.drop (i+1):=by
        have hp:=Ye.o;rw[if_neg (by simp)]at hp;simp only[Qcf,Prod.mk.injEq]at hp;exact⟨hp.1.symm,hp.2.symm⟩
       obtain⟨rfl,rfl⟩:=hx;go_wp2_with fail;refine Qae (v:= .agg #[xI 3,xI 0,xS (bL t.s),xL none 0 0]) (by simp[results,results344,go_sem,r0,r1,r2,r3]) rfl ?_;obtain⟨k1,k2⟩:=FLD.o _ rfl;exact⟨_,i+1,rfl,uM _ _ _ (by rw[jG];unfold maxLen;omega),k1,rfl,k2⟩
      .rcases Nat.eq_zero_or_pos (dB t.s)with ha|ha
       .have hx:x= .mk 3 0 (bL t.s) []/\r=T.drop (i+1):=by
         have hp:=Ye.o;rw[if_neg (by omega)]at hp;simp only[Qcf,Prod.mk.injEq]at hp;exact⟨hp.1.symm,hp.2.symm⟩
        obtain⟨rfl,rfl⟩:=hx;rw[ha]at RD;clear ha;go_wp2_with fail;refine cT (RD.o _) ?_;go_wp2_with fail;refine Qae (v:= .agg #[xI 3,xI 0,xS (bL t.s),xL none 0 0]) (by simp[results,results344,go_sem,r0,r1,r2,r3]) rfl ?_;obtain⟨k1,k2⟩:=FLD.o _ rfl;exact⟨_,i+1,rfl,uM _ _ _ (by rw[jG];unfold maxLen;omega),k1,rfl,k2⟩
       .have hp:=Ye.o;rw[if_pos ⟨ha,rfl⟩]at hp;have NN:i+1<T.length:=by
         rcases Nat.lt_or_ge (i+1) T.length with h|h
         .exact h
         .have yL:=HSG.o;rw[List.drop_eq_nil_of_le h]at yL;cases yL
        obtain⟨l,r',tD,rfl,rfl⟩:∃l r',eM k (dB t.s) (T.drop (i+2))=some (l,r')/\x= .mk 6 0 (bL t.s) l/\r=r':=by
         rw[List.drop_drop,show i+1+1=i+2 from rfl]at hp;cases hq:eM k (dB t.s) (T.drop (i+2))with
         |none=>rw[hq]at hp;cases hp
         |some q=>obtain⟨l,r'⟩:=q;rw[hq]at hp;simp only[Qcf,Prod.mk.injEq]at hp;exact⟨l,r',rfl,hp.1.symm,hp.2.symm⟩
        have haz:(0:Int)<(dB t.s:Int):=by omega
        obtain⟨m1,m2⟩:=vK.o.next NN Kx.o;rw[show((i+1:Nat):Int)+1=(i:Int)+1+1 from by omega]at m1 m2;have hz6:=m2.size;simp at hz6;have bK:=HC (i+2) t.s l r _ ha vJ m1 tD;have yM:=af bK;clear bK;have HM6:=af m1;clear m1;have RE:=af m2;clear m2;clear hp tD ha;go_wp2_with fail;refine cT (RD.o _) ?_;go_wp2_with fail;refine(yM.o).mono ?_;rintro e w7⟨v,j,rfl,⟨cs,rfl,bV⟩,QC,hrj,Jl⟩;obtain⟨av,rfl,bI,ke⟩:=cH.iff.1 bV;obtain⟨ka,kc,rfl,_⟩:=bI.open_;have Ur:Hd (di w7 w (xK iH 319)):=(Jl.block w.heap.size (by simp;omega) (by unfold aO;omega)).trans ((Qag _ _ _ _ (by simp;omega)).trans Kz.o);clear p0 p1 p2 p3 f1 r0 r1 r2 r3 g0 g1 g2 g3 x0 x1 x2 x3;obtain⟨r0,r1,r2,r3⟩:=ae Ur.o;obtain⟨g0,g1,g2,g3⟩:=iK Ur.o;have eX:=af bV;clear bV;have qdc:=af QC;clear QC;have HRJ:=af hrj;clear hrj;have HO7:=af Jl;clear Jl;have gp:=af bI;clear bI;have rB:=af ke;clear ke;go_wp2_with fail;refine Qae (v:= .agg #[xI 6,xI 0,xS (bL t.s),xL ka l.length kc]) (by simp[results,results344,go_sem,r0,r1,r2,r3]) rfl ?_;have hl:∀y,(Value.slice (some ⟨bl,off,none⟩) T.length cap).ownBlock=some y->y<w.heap.size:=λy hy=>by cases hy;exact Fq
        have ht:∀(x y:Nat),(Value.slice (some ⟨bl,off,none⟩) T.length cap).ownBlock=some x->x<w.heap.size\/y=0\/True:=λ_ _ _=> .inr (.inr trivial);have ho8:=(RE.o.trans HO7.o);have Z4:=ho8.size;refine⟨_,j,rfl,⟨_,rfl,cH.iff.2 ⟨_,rfl,gp.o.ev ?_,rB.o⟩⟩,?_,HRJ.o,?_⟩
        .exact((((Ev.dD w7 (λi h=>by unfold fy at h⊢;simp;omega)).setCell (.inl (by unfold fy;simp;omega)) _).setCell (.inl (by unfold fy;simp;omega)) _).setCell (.inl (by unfold fy;simp;omega)) _).setCell (.inl (by unfold fy;simp;omega)) _
        .exact(((qdc.o.set cR Z4 ht _ bN hl _).set cR (by simpa using Z4) ht _ bN hl _).set cR (by simpa using Z4) ht _ bN hl _).set cR (by simpa using Z4) ht _ bN hl _
        .exact(((ho8.setCell (.inr bN) _).setCell (.inr bN) _).setCell (.inr bN) _).setCell (.inr bN) _
     .exfalso;have hp:=HP.o;rw[if_neg h1,if_neg h2,if_neg h3]at hp;cases hp
 .rw[List.drop_eq_nil_of_le hi]at hp;simp[jm]at hp
end Go.Proofs.YtepaofffbkfodaaGreatDoor
