/- A part of the proof; no condition. -/
import Derived.Test.YtpjdjlnknfmfkaaGreatDoorM01
import Derived.Lib.SmallJoins
set_option linter.all false
set_option maxHeartbeats 8000000
set_option maxRecDepth 100000
namespace Go.Proofs.YtpjdjlnknfmfkaaGreatDoor
open Tryz
open Go.RowKit
variable{k j i b:Nat}{s:bS}{w w':bq}{en:Int}{lv:bt}{M:bY}
def Gz(s:bS)(w:bq)(c:UInt8)(h:s.data.toList[0]? =some c)(hc:c<128):xC 440 #[s] w (j7 (xI 1) w):=by
 have h0:0<s.size:=by have:=(ag.1 h).1;rw[cH]at this;exact this
 have h1:s[0]=c:=by have:=dY s 0 h0;rw[h]at this;simpa using this.symm
 have h2:(c.toNat:Int)<128:=by have:=UInt8.lt_iff_toNat_lt.1 hc;simp at this;omega
 have hn:¬s.size=0:=by omega
 delta xC;go_in;go_wp2;go_ret;exact⟨rfl,rfl⟩
def N5 {l:List UInt8}(h:kO l=true){c:UInt8}(hc:l[k]? =some c):32<=c/\c<127:=by
 unfold kO at h;simp only[aF,List.all_eq_true,decide_eq_true_eq]at h;exact h.2 c (ai hc)
def BN(s:bS)(w:bq)(h:kO s.data.toList=true):xC 436 #[s] w (j7 true w):=by
 have hz:s.size<=60:=by unfold kO at h;simp only[aF,decide_eq_true_eq]at h;have:=h.1;rw[cH]at this;exact this
 have HT:=aV h;delta xC;go_in;go_wp2;go_loopg [2,3,4]s.size(λg r iv _ wr=>∃k:Nat,k<=s.size/\g=s.size-k/\iv=xI k/\r=xB false/\w=wr);exact⟨0,ax _,rfl,rfl,rfl,rfl⟩;obtain⟨k,hk,rfl,rfl,rfl,rfl⟩:=hrel;by_cases cE:k<s.size
 .have⟨c,hc⟩:=js (s[k]);have hb:=dY s k cE;rw[hc]at hb;have⟨h1,h2⟩:=N5 HT.o hb;have e1:(32:Int)<=(c.toNat:Int):=by have:=UInt8.le_iff_toNat_le.1 h1;simp at this;omega
  have e2:((c.toNat:Int)==127)=false:=by have:=UInt8.lt_iff_toNat_lt.1 h2;simp at this;simp;omega
  have e3:¬(c.toNat:Int)<32:=by omega
  have HS:=aV (show(s.extract k s.size).data.toList[0]? =some c by rw[Lib.extract_data];rw[List.getElem?_take_of_lt (by omega),List.getElem?_drop];simpa using hb);have HC:=aV (show c<128 by have:=UInt8.lt_iff_toNat_lt.1 h2;exact UInt8.lt_iff_toNat_lt.2 (by simp at this⊢;omega));have hkz:(k:Int)<s.size:=by omega
  go_wp2_with fail;refine ey (Gz _ _ c HS.o HC.o) ?_;go_wp2;go_roundg(s.size-(k+1));exact⟨k+1,by omega,rfl,by go_num,rfl,rfl⟩;omega
 go_wp2;go_ret;exact⟨rfl,rfl⟩
def si(s:bS)(w:bq)(h:kO s.data.toList=true):xC 417 #[.agg #[xI 2,xI 0,s,()]] w (di true w):=by
 have hz:s.size<=60:=by unfold kO at h;simp only[aF,decide_eq_true_eq]at h;have:=h.1;rw[cH]at this;exact this
 have HT:=aV h;delta xC;go_in;go_wp2_with fail;refine ey (BN _ _ HT.o) ?_;go_wp2;go_ret;exact⟨rfl,cU⟩
def Sc {a:Nat}{d:List UInt8}{c:UInt8}(hd:∀j u,d[j]? =some u->s.data.toList[a+j]? =some u)(hc:d[k]? =some c):bL (d.take k)++s.extract (a+k) (a+k+1)=bL (d.take (k+1)):=by
 apply ByteArray.ext;apply Array.toList_inj.1;rw[Joins.data_append,Lib.extract_data];unfold bL;simp only[List.toList_toArray];rw[ao,hc];have:=hd k c hc;rw[show a+k+1-(a+k)=1 from by omega];congr 1;have hl:a+k<s.data.toList.length:=(ag.1 this).1;rw[List.drop_eq_getElem_cons hl];have h2:=(ag.1 this).2;simp[h2]
def Vb(s:bS)(w:bq)(a:Nat)(d:List UInt8)(hs:s.size<=200)(ha:a<s.size)(hd:∀j u,d[j]? =some u->s.data.toList[a+1+j]? =some u/\gu u=true)(hq:s.data.toList[a+1+d.length]? =some 34)(ht:kO d=true):
 xC 376 #[s,a] w (di (.tuple #[bL d,(a+d.length+2:Nat)]) w):=by
 have hl:a+1+d.length<s.size:=by have:=(ag.1 hq).1;rw[cH]at this;exact this
 have hbl:∀l:List UInt8,(bL l).size=l.length:=λl=>by unfold bL;simp[ByteArray.size]
 have HD:=aV hd;have HQ:=aV hq;have HT:=aV ht;delta xC;go_in;go_wp2;go_loopg [4,5,6,7]d.length(λg r0 r1 tv iv wr=>∃k:Nat,k<=d.length/\g=d.length-k/\iv=xI (a+1+k:Nat)/\tv=xS (bL (d.take k))/\r0= ""/\r1=xI 0/\w=wr);exact⟨0,ax _,rfl,by go_num,rfl,rfl,rfl,rfl⟩;obtain⟨k,hk,rfl,rfl,rfl,rfl,rfl,rfl⟩:=hrel;have cE:a+1+k<s.size:=by omega
 have⟨c,hc⟩:=js (s[a+1+k]);have hb:=dY s (a+1+k) cE;rw[hc]at hb;have hkz:((a+1+k:Nat):Int)<s.size:=by omega
 have qf4:((a+1+k:Nat):Int)+1<=s.size:=by omega
 have hsz:(bL (d.take k)).size<=200:=by rw[hbl];simp;omega
 by_cases hkd:k<d.length
 .have⟨u,hu⟩:=fg d k hkd;have⟨h1,h2⟩:=HD.o k u hu;have huc:u=c:=by rw[hb]at h1;simpa using h1.symm
  rw[huc]at h2 hu;have e1:((c.toNat:Int)==34)=false/\((c.toNat:Int)==92)=false:=by
   unfold gu at h2;simp only[aF,bne_iff_ne,ne_eq]at h2;constructor
   .simp;intro h;exact h2.1 (UInt8.toNat_inj.1 (by simp;omega))
   simp;intro h;exact h2.2 (UInt8.toNat_inj.1 (by simp;omega))
  obtain⟨e1,e2⟩:=e1;have po:=aV (Sc (s:=s) (a:=a+1) (λj u h=>(HD.o j u h).1) hu);go_wp2;go_roundg(d.length-(k+1));exact⟨k+1,by omega,rfl,by go_num,by rw[<-po.o],rfl,rfl,rfl⟩;omega
 obtain rfl:k=d.length:=by omega
 have hq:c=34:=by have:=HQ.o;rw[hb]at this;simpa using this
 subst hq;have QI:=aV (show kO (bL d).data.toList=true by unfold bL;simpa using HT.o);rw[List.take_length]at hsz⊢;go_wp2_with fail;refine dx (si _ _ QI.o) λw1 hb1=> ?_;have cu:=aV hb1;go_wp2;go_ret2;exact⟨by simp;omega,cu.o⟩
def Dg {c:UInt8}:(c.toNat:Int)<=255:=by have:=c.toNat_lt;omega
def ot {c:UInt8}:oV c=decide (48<=(c.toNat:Int)/\(c.toNat:Int)<=57):=by
 unfold oV;rw[Bool.eq_iff_iff];simp[UInt8.le_iff_toNat_le];omega
def N6(s:ByteArray)(w:World)(a:Nat)(c:UInt8)(hs:s.size<=200)(ha:a<s.size)(hc:s[a]=c)(hd:oV c=true)(hn:∀d,s.data.toList[a+1]? =some d->oV d=false):
 Calls prog 352 #[.string s, .int .i64 a] w λe w'=>e= .returned (.tuple #[.agg #[.int .i64 1, .int .i64 ((c.toNat:Int)-48), .string (), .int .i64 a], .int .i64 (a+1:Nat)])/\Below w w w':=by
 have FL:(c.toNat:Int)<=255:=Dg;rw[ot]at hd;have⟨h48,h57⟩:=of_decide_eq_true hd;have HD:=hD hd;clear hd;have HN:=hD hn;clear hn;have haz:(a:Int)<s.size:=by omega
 have z1:IntKind.u8.wrap ((c.toNat:Int)-48)=(c.toNat:Int)-48:=by
  simp[IntKind.wrap,IntKind.bits,IntKind.signed];omega
 have Z1:=hD z1;clear z1;go_enter func352,ntmps352;go_wp2_with fail;refine(lW true _ _ (by omega) FL HD.out).mono ?_;rintro e w'⟨rfl,rfl⟩;go_wp2_with fail;go_loopg [5,7]1(λg r iv wr=>∃k:Nat,k<=1/\g=1-k/\iv= .int .i64 (a+k:Nat)/\r= .int .i64 0/\((k=0/\wr=(w.alloc (.cells #[.int .i64 0, .int .i64 0, .string (), .int .i64 0] 430)).alloc (.cells #[.int .i64 0, .int .i64 0, .string (), .int .i64 a] 430))\/(k=1/\wr=((w.alloc (.cells #[.int .i64 0, .int .i64 0, .string (), .int .i64 0] 430)).alloc (.cells #[.int .i64 0, .int .i64 ((c.toNat:Int)-48), .string (), .int .i64 a] 430)).drew)));exact⟨0,by omega,rfl,by go_num,rfl, .inl ⟨rfl,rfl⟩⟩;obtain⟨k,hk,rfl,rfl,rfl,hw⟩:=hrel;rcases hw with⟨rfl,rfl⟩|⟨rfl,rfl⟩
 .rw[Nat.add_zero];go_wp2_with fail;refine(lW true _ _ (by omega) FL HD.out).mono ?_;rintro e w'⟨rfl,rfl⟩;go_wp2_with fail;have z1:=Z1.out;go_region;clear z1;go_wp2_with fail;go_roundg 0;exact⟨1,by omega,rfl,by go_num,rfl, .inr ⟨rfl,rfl⟩⟩;omega
 by_cases h1:a+1<s.size
 .obtain⟨d,aV⟩:∃d,s[a+1]=d:=⟨_,rfl⟩;have hb:=dY s (a+1) h1;rw[aV]at hb;have Wn:=HN.out d hb;rw[ot]at Wn;have qc8:=hD Wn;clear Wn;have hz:((a+1:Nat):Int)<s.size:=by omega
  clear hb;go_wp2_with fail;refine(lW false _ _ (by omega) Dg qc8.out).mono ?_;rintro e w'⟨rfl,rfl⟩;go_wp2_with fail;refine ah (v:= .tuple #[.agg #[.int .i64 1, .int .i64 ((c.toNat:Int)-48), .string (), .int .i64 a], .int .i64 (a+1:Nat)]) (by simp[results,results352,go_sem]) rfl ⟨rfl,?_⟩;exact(((ay _ _).alloc (ae _) _).alloc (by simp) _).drew
 have hz:¬((a+1:Nat):Int)<s.size:=by omega
 go_wp2_with fail;refine ah (v:= .tuple #[.agg #[.int .i64 1, .int .i64 ((c.toNat:Int)-48), .string (), .int .i64 a], .int .i64 (a+1:Nat)]) (by simp[results,results352,go_sem]) rfl ⟨rfl,?_⟩;exact(((ay _ _).alloc (ae _) _).alloc (by simp) _).drew
def sq {c:UInt8}:rj c=decide (97<=(c.toNat:Int)/\(c.toNat:Int)<=122):=by
 unfold rj;rw[Bool.eq_iff_iff];simp[UInt8.le_iff_toNat_le];omega
def wh {c:UInt8}:er c=cG (c.toNat:Int):=by
 unfold er cG eP;rw[sq,ot,Bool.eq_iff_iff];have:(c==95)=decide ((c.toNat:Int)=95):=by
  rw[Bool.eq_iff_iff];simp;constructor
  .intro h;subst h;rfl
  intro h;exact UInt8.toNat_inj.1 (by simp;omega)
 rw[this]
def qs:rq s.data.toList=bF s:=by
 unfold rq bF;rw[cH];cases hl:s.data.toList with
 |nil=>simp
 |cons a r=>
  have h1:eP (a.toNat:Int)=rj a:=by rw[sq];rfl
  have h2:((a::r).all λc=>cG (c.toNat:Int))=(a::r).all er:=by congr 1;funext c;exact wh.symm
  simp only[h1,h2,Bool.and_assoc]
def K9(s:bS)(w:bq)(a:Nat)(d:List UInt8)(hs:s.size<=200)(ha:a<s.size)(hc:s[a]=34)(hd:∀j u,d[j]? =some u->s.data.toList[a+1+j]? =some u/\gu u=true)(hq:s.data.toList[a+1+d.length]? =some 34)(ht:kO d=true):
 xC 352 #[s,a] w (di (.tuple #[.agg #[xI 2,xI 0,bL d,a],(a+d.length+2:Nat)]) w):=by
 have haz:(a:Int)<s.size:=by omega
 have cI:=λw=>aV (Vb s w a d hs ha hd hq ht);clear hd hq ht;delta xC;go_in;go_wp2_with fail;refine ey (lW false _ _ (by omega) (by decide) (by decide)) ?_;go_wp2_with fail;refine dx ((cI _).o) λw1 hb1=> ?_;have s1:=hb1.size;simp at s1;have uO:=aV ((hb1.block w (by simp;omega)).trans (kQ (w:=w) rfl).1);have gy:=aV ((hb1.block [w] (by simp)).trans (kQ (w:=w) rfl).2.1);have cu:Hd (bC w w1):=(cU.alloc (by simp) _).trans (hb1.mono (by simp;omega));have⟨p0,p1,p2,p3⟩:=aU uO.o;have⟨q0,q1,q2,q3⟩:=aU gy.o;have⟨f0,f1,f2,f3⟩:=iS uO.o;have g2:=aY gy.o 2;clear hb1;go_wp2_with fail;refine ah (v:= .tuple #[.agg #[xI 2,xI 0,bL d,a],(a+d.length+2:Nat)]) (by simp[results,results352,go_sem,p0,p1,p2,p3]) rfl ⟨rfl,?_⟩;exact((((cu.o.setCell (by simp) _).setCell (by simp) _).setCell (by simp) _).setCell (by simp) _).setCell (by simp) _
def La(s:ByteArray)(w:World)(a n:Nat)(c:UInt8)(hs:s.size<=200)(wK:0<n)(hl:a+n<=s.size)(hc:∀j u,s.data.toList[a+j]? =some u->(j<n->er u=true)/\(j=n->er u=false))(h0:s.data.toList[a]? =some c)(jE:rj c=true)(hn:rq (s.extract a (a+n)).data.toList=true):
 xC 352 #[.string s, .int .i64 a] w (di (.tuple #[.agg #[.int .i64 3, .int .i64 0, .string (s.extract a (a+n)), .int .i64 a], .int .i64 (a+n:Nat)]) w):=by
 have ha:a<s.size:=by omega
 have haz:(a:Int)<s.size:=by omega
 have hca:s[a]=c:=by have:=dY s a ha;rw[h0]at this;simpa using this.symm
 rw[sq]at jE;have⟨h97,h122⟩:=of_decide_eq_true jE;have FL:(c.toNat:Int)<=255:=Dg;have ND:Hd (decide (48<=(c.toNat:Int)/\(c.toNat:Int)<=57)=false):=(show _=_ from decide_eq_false (by omega));have NW:Hd (cG (c.toNat:Int)=true):=(show _=_ by rw[<-wh];exact(hc 0 c (by simpa using h0)).1 wK);have e34:((c.toNat:Int)==34)=false:=by simp;omega
 rw[qs]at hn;have hsz:(s.extract a (a+n)).size<=200:=by simp;omega
 have HC:=aV hc;clear hc;have HN:=aV hn;clear hn;clear h0 jE;delta xC;go_in;go_wp2_with fail;refine(lW false _ _ (by omega) FL ND.o).mono ?_;rintro e w'⟨rfl,rfl⟩;go_wp2_with fail;refine(sf true _ _ (by omega) FL NW.o).mono ?_;rintro e w'⟨rfl,rfl⟩;go_wp2;go_loopg [7]n(λg iv wr=>∃k:Nat,k<=n/\g=n-k/\iv= .int .i64 (a+k:Nat)/\wr=(w.alloc (.cells #[.int .i64 0, .int .i64 0, .string (), .int .i64 0] 430)).alloc (.cells #[.int .i64 0, .int .i64 0, .string (), .int .i64 a] 430));exact⟨0,by omega,rfl,by go_num,rfl⟩;obtain⟨k,hk,rfl,rfl,rfl⟩:=hrel;by_cases cE:a+k<s.size
 .obtain⟨d,aV⟩:∃d,s[a+k]=d:=⟨_,rfl⟩;have hb:=dY s (a+k) cE;rw[aV]at hb;have⟨hy,hno⟩:=HC.o k d hb;have hz:((a+k:Nat):Int)<s.size:=by omega
  have Jp:(d.toNat:Int)<=255:=Dg;clear hb;by_cases QH:k<n
  .have W1:Hd (cG (d.toNat:Int)=true):=(show _=_ by rw[<-wh];exact hy QH);clear hy hno;go_wp2_with fail;refine(sf true _ _ (by omega) Jp W1.o).mono ?_;rintro e w'⟨rfl,rfl⟩;go_wp2;go_roundg(n-(k+1));exact⟨k+1,by omega,rfl,by go_num,rfl⟩;omega
  obtain rfl:k=n:=by omega
  have W1:Hd (cG (d.toNat:Int)=false):=(show _=_ by rw[<-wh];exact hno rfl);clear hy hno;go_wp2_with fail;refine(sf false _ _ (by omega) Jp W1.o).mono ?_;rintro e w'⟨rfl,rfl⟩;have hz2:((a+k:Nat):Int)<=s.size:=by omega
  have wL:(a:Int)<=((a+k:Nat):Int):=by omega
  go_wp2_with fail;refine(iB true _ _ HN.o (by unfold maxLen;omega)).mono ?_;rintro e w'⟨rfl,rfl⟩;go_wp2_with fail;refine ah (v:= .tuple #[.agg #[.int .i64 3, .int .i64 0, .string (s.extract a (a+k)), .int .i64 a], .int .i64 (a+k:Nat)]) (by simp[results,results352,go_sem]) rfl ⟨rfl,?_⟩;exact cU.alloc (by simp) _
 obtain rfl:k=n:=by omega
 have hz:¬((a+k:Nat):Int)<s.size:=by omega
 have hz2:((a+k:Nat):Int)<=s.size:=by omega
 have wL:(a:Int)<=((a+k:Nat):Int):=by omega
 go_wp2_with fail;refine(iB true _ _ HN.o (by unfold maxLen;omega)).mono ?_;rintro e w'⟨rfl,rfl⟩;go_wp2_with fail;refine ah (v:= .tuple #[.agg #[.int .i64 3, .int .i64 0, .string (s.extract a (a+k)), .int .i64 a], .int .i64 (a+k:Nat)]) (by simp[results,results352,go_sem]) rfl ⟨rfl,?_⟩;exact cU.alloc (by simp) _
def Di {a:Nat}{c:UInt8}(h:s.data.toList[a]? =some c):s.extract a (a+1)=⟨#[c]⟩:=by
 apply ByteArray.ext;apply Array.toList_inj.1;rw[Lib.extract_data];have hl:=(ag.1 h).1;rw[List.drop_eq_getElem_cons hl,show a+1-a=1 from by omega];simp[(ag.1 h).2]
def pF {a:Nat}{c:UInt8}(h:s.data.toList[a]? =some c)(x y:UInt8)(hx:c≠x\/s.data.toList[a+1]?≠some y):((s.extract a (a+2)).toList==[x,y])=false:=by
 rw[ByteArray.toList_eq,Lib.extract_data,show a+2-a=2 from by omega,beq_eq_false_iff_ne];intro he;have hl:=(ag.1 h).1;have h0:(((s.data.toList.drop a).take 2))[0]? =some x:=by rw[he];rfl
 have h1:(((s.data.toList.drop a).take 2))[1]? =some y:=by rw[he];rfl
 rw[List.getElem?_take_of_lt (by omega),List.getElem?_drop]at h0 h1;rcases hx with hx|hx
 .rw[Nat.add_zero,h]at h0;simp at h0;exact hx h0
 exact hx h1
def Lb(s:bS)(w:bq)(a:Nat)(c:UInt8)(hs:s.size<=200)(ha:a<s.size)(h0:s.data.toList[a]? =some c)(hc:c∈eQ)(Jq:c=62->s.data.toList[a+1]?≠some 61):
 xC 352 #[s,a] w (di (.tuple #[.agg #[xI 0,xI 0,xS ⟨#[c]⟩,a],(a+1:Nat)]) w):=by
 have haz:(a:Int)<s.size:=by omega
 have qf5:((a+1:Nat):Int)<=s.size:=by omega
 have hca:s[a]=c:=by have:=dY s a ha;rw[h0]at this;simpa using this.symm
 have hx:=Di h0;have y1:=pF h0 60 62 (.inl (by rintro rfl;simp[eQ]at hc));have y2:=pF h0 60 61 (.inl (by rintro rfl;simp[eQ]at hc));have y3:=pF h0 62 61 (by by_cases h:c=62;exact .inr (Jq h);exact .inl h);have HB:=λw=>aV (oq c hc w);have ND:=aV (show decide (48<=(c.toNat:Int)/\(c.toNat:Int)<=57)=false by simp only[eQ,aO,List.not_mem_nil,or_false]at hc;rcases hc with rfl|rfl|rfl|rfl|rfl|rfl|rfl|rfl|rfl|rfl|rfl<;>decide);have NW:=aV (show cG (c.toNat:Int)=false by simp only[eQ,aO,List.not_mem_nil,or_false]at hc;rcases hc with rfl|rfl|rfl|rfl|rfl|rfl|rfl|rfl|rfl|rfl|rfl<;>decide);have e34:((c.toNat:Int)==34)=false:=by simp only[eQ,aO,List.not_mem_nil,or_false]at hc;rcases hc with rfl|rfl|rfl|rfl|rfl|rfl|rfl|rfl|rfl|rfl|rfl<;>decide
 have FL:(c.toNat:Int)<=255:=Dg;have qc9:0<dy [c]\/c=40\/c=41\/c=44:=by simp only[eQ,aO,List.not_mem_nil,or_false]at hc;rcases hc with rfl|rfl|rfl|rfl|rfl|rfl|rfl|rfl|rfl|rfl|rfl<;>decide
 clear h0 Jq hc;have ZP:(((a+1:Nat):Int)<s.size/\((a+2:Nat):Int)<=s.size)\/¬((a+1:Nat):Int)<s.size:=by omega
 rcases qc9 with hb|hb
 .have hb':(0:Int)<(dy [c]:Int):=by omega
  generalize dy [c]=b at*;clear hb;rcases ZP with⟨h1z,h2z⟩|h1z;all_goals
   go_enter func352,ntmps352;go_wp2_with fail;refine ey (lW false _ _ (by omega) FL ND.o) ?_;go_wp2_with fail;refine ey (sf false _ _ (by omega) FL NW.o) ?_;go_wp2_with fail;refine ey ((HB _).o) ?_;go_wp2_with fail;refine ah (v:= .tuple #[.agg #[xI 0,xI 0,xS ⟨#[c]⟩,a],(a+1:Nat)]) (by simp[results,results352,go_sem]) rfl ⟨rfl,?_⟩;exact cU.alloc (by simp) _
 rcases hb with rfl|rfl|rfl<;>rcases ZP with⟨h1z,h2z⟩|h1z;all_goals
  go_enter func352,ntmps352;go_wp2_with fail;refine ey (lW false _ _ (by omega) FL ND.o) ?_;go_wp2_with fail;refine ey (sf false _ _ (by omega) FL NW.o) ?_;go_wp2_with fail;refine ey ((HB _).o) ?_;rw[show dy _=0 from rfl];go_wp2_with fail;refine ah (v:= .tuple #[.agg #[xI 0,xI 0,xS _,a],(a+1:Nat)]) (by simp[results,results352,go_sem]) rfl ⟨rfl,?_⟩;exact cU.alloc (by simp) _
def BO {l:List UInt8}{a:Nat}{x:List UInt8}(h:l.drop a=x):l[a+j]? =x[j]? :=by rw[<-h,List.getElem?_drop]
theorem wZ {p:UInt8->Bool}:∀{l:List UInt8}{j:Nat}{u:UInt8},(l.takeWhile p)[j]? =some u->l[j]? =some u/\p u=true
 |[],j,u,h=>by simp at h
 |c::r,j,u,h=>by
  by_cases hc:p c=true
  .rw[List.takeWhile_cons_of_pos hc]at h;cases j with
   |zero=>simp at h;subst h;exact⟨rfl,hc⟩
   |succ j=>simpa using wZ (l:=r) (j:=j) (u:=u) (by simpa using h)
  rw[List.takeWhile_cons_of_neg hc]at h;simp at h
theorem N7 {p:UInt8->Bool}:∀{l:List UInt8}{u:UInt8},l[(l.takeWhile p).length]? =some u->p u=false
 |[],u,h=>by simp at h
 |c::r,u,h=>by
  by_cases hc:p c=true
  .rw[List.takeWhile_cons_of_pos hc]at h;exact N7 (l:=r) (u:=u) (by simpa using h)
  rw[List.takeWhile_cons_of_neg hc]at h;simp at h;subst h;simpa using hc
theorem wi {p:UInt8->Bool}:∀(l:List UInt8),l.take (l.takeWhile p).length=l.takeWhile p
 |[]=>rfl
 |c::r=>by
  by_cases hc:p c=true
  .rw[List.takeWhile_cons_of_pos hc];simp[wi r]
  rw[List.takeWhile_cons_of_neg hc];rfl
def dt(k:Nat):Int:=if k=4 then 0 else k
def N8(s:bS)(w:bq)(a:Nat)(hs:s.size<=200)(kd n:Nat)(str:List UInt8)(size:Nat)(h:sd (s.data.toList.drop a)=some ((kd,n,str),size)):
 (xC 352 #[s,a] w (di (.tuple #[.agg #[dt kd,n,bL str,a],(a+size:Nat)]) w))/\0<size/\a+size<=s.size/\n<=9/\str.length<=200:=by
 cases hl:s.data.toList.drop a with
 |nil=>rw[hl]at h;simp[sd]at h
 |cons c r=>
  rw[hl]at h;have hlen:a+(r.length+1)=s.size:=by
   have h1:(s.data.toList.drop a).length=r.length+1:=by rw[hl];rfl
   rw[List.length_drop,cH]at h1;omega
  have ha:a<s.size:=by omega
  have h0:s.data.toList[a]? =some c:=by have:=BO (j:=0) hl;simpa using this
  have h1:∀j,s.data.toList[a+1+j]? =r[j]? :=λj=>by have:=BO (j:=j+1) hl;rw[Nat.add_right_comm,Nat.add_assoc];simpa using this
  have hca:s[a]=c:=by have:=dY s a ha;rw[h0]at this;simpa using this.symm
  unfold sd at h;dsimp only at h;by_cases hd:oV c=true
  .rw[if_pos hd]at h;have hr:r9 r=false:=by
    cases hq:r9 r with
    |false=>rfl
    |true=>rw[hq]at h;simp at h
   rw[hr]at h;simp only[Bool.false_eq_true,if_false,aG,Prod.mk.injEq]at h;obtain⟨⟨rfl,rfl,rfl⟩,rfl⟩:=h;have aV:=hd;rw[ot]at aV;have⟨e1,e2⟩:=of_decide_eq_true aV;refine⟨?_,by omega,by omega,by omega,by simp⟩;have hcall:=N6 s w a c hs ha hca hd (λd hd'=>by
    have h2:=h1 0;rw[Nat.add_zero,hd']at h2;cases r with
    |nil=>simp at h2
    |cons x y=>simp at h2;subst h2;exact hr);rw[show((c.toNat-48:Nat):Int)=(c.toNat:Int)-48 from by omega];exact hcall
  rw[if_neg hd]at h;by_cases jE:rj c=true
  .rw[if_pos jE]at h;by_cases hn:rq ((c::r).takeWhile er)=true
   .rw[if_pos hn]at h;simp only[aG,Prod.mk.injEq]at h;obtain⟨⟨rfl,rfl,rfl⟩,rfl⟩:=h;have hw:er c=true:=by unfold er;rw[jE];rfl
    have tN:0<((c::r).takeWhile er).length:=by rw[List.takeWhile_cons_of_pos hw];simp
    have hle:((c::r).takeWhile er).length<=(c::r).length:=(List.takeWhile_prefix er).length_le;have qda:((c::r).takeWhile er).length<=r.length+1:=by simpa using hle
    have Tl:(s.extract a (a+((c::r).takeWhile er).length)).data.toList=(c::r).takeWhile er:=by
     rw[Lib.extract_data,hl,show a+((c::r).takeWhile er).length-a=((c::r).takeWhile er).length from by omega,wi]
    have hcall:=La s w a ((c::r).takeWhile er).length c hs tN (by omega) (λj u hu=>by
     rw[BO hl]at hu;constructor
     .intro hj;obtain⟨v,hv⟩:∃v,((c::r).takeWhile er)[j]? =some v:=⟨_,af hj⟩;have⟨h3,h4⟩:=wZ hv;rw[hu]at h3;cases h3;exact h4
     intro hj;subst hj;exact N7 hu) h0 jE (by rw[Tl];exact hn);rw[gD Tl]at hcall;exact⟨hcall,tN,by omega,by omega,by omega⟩
   rw[if_neg hn]at h;cases h
  rw[if_neg jE]at h;by_cases CM:c=34
  .rw[if_pos CM]at h;subst CM;have hq:r[(r.takeWhile gu).length]? =some 34/\kO (r.takeWhile gu)=true/\kd=2/\n=0/\str=r.takeWhile gu/\size=(r.takeWhile gu).length+2:=by
    split at h
    .rename_i x hx;split at h
     .simp only[aG,Prod.mk.injEq]at h;obtain⟨⟨rfl,rfl,rfl⟩,rfl⟩:=h;refine⟨?_,by assumption,rfl,rfl,rfl,rfl⟩;have h5:=congrArg (λl=>l[0]?) hx;simp only[List.getElem?_drop,Nat.add_zero]at h5;simpa using h5
     cases h
    cases h
   obtain⟨hq,ht,rfl,rfl,rfl,rfl⟩:=hq;have cE:=(ag.1 hq).1;have hcall:=K9 s w a (r.takeWhile gu) hs ha hca (λj u hu=>by
    have⟨h3,h4⟩:=wZ hu;exact⟨(h1 j).trans h3,h4⟩) ((h1 _).trans hq) ht;exact⟨hcall,by omega,by omega,by omega,by omega⟩
  rw[if_neg CM]at h;have hsg:c∈eQ/\(c=62->r.head?≠some 61)/\kd=4/\n=0/\str=[c]/\size=1:=by
   split at h
   .rename_i hm;simp only[aG,Prod.mk.injEq]at h;obtain⟨⟨rfl,rfl,rfl⟩,rfl⟩:=h;have Tm:=List.contains_iff_mem.1 hm;refine⟨?_,?_,rfl,rfl,rfl,rfl⟩
    .simp only[eQ,aO,List.not_mem_nil,or_false]at Tm⊢;rcases Tm with h|h|h|h|h|h|h|h|h|h<;>simp[h]
    rintro rfl;simp at Tm
   split at h
   .rename_i hm;simp only[aG,Prod.mk.injEq]at h;obtain⟨⟨rfl,rfl,rfl⟩,rfl⟩:=h;exact⟨by rw[hm.1];simp[eQ],λ_=>hm.2,rfl,rfl,rfl,rfl⟩
   cases h
  obtain⟨hm,Jq,rfl,rfl,rfl,rfl⟩:=hsg;have hcall:=Lb s w a c hs ha h0 hm (λhc=>by
   have h3:=Jq hc;have h4:=h1 0;rw[Nat.add_zero]at h4;rw[h4];cases r with
   |nil=>simp
   |cons x y=>simpa using h3);exact⟨hcall,by omega,by omega,by omega,by simp⟩
structure xb where
 bg:Int
 n:Int
 s:bS
 at_:Int
instance:bD xb where
 size:=4
 rep:=λ_ _ cs x=>cs=[xI x.bg,xI x.n,xS x.s,xI x.at_]/\x.s.size<=200
 len:=λh=>by rw[h.1];rfl
 flat:=λh u hu=>by rw[h.1]at hu;simp at hu;rcases hu with rfl|rfl|rfl|rfl<;>rfl
 ev:=λh _=>h
def nv(t:Tok):xb:=⟨dt t.bg,t.n,bL t.s,t.at_⟩
def cg(b:Nat):Nat->Prop:=λi=>i=b
structure eR(b:Nat)(lv:bt)(en:Int)(T:List Tok)(w:bq)(i:Nat):Prop where
 box:cX w b (xK #[lv,i,en,xI (-1)] 428)
 toks:aS (cg b) w lv (T.map nv)
 few:T.length<=200
 le:i<=T.length
 kinds:∀t∈T,1<=t.bg/\t.bg<=4
def eR.step {T:List Tok}(h:eR b lv en T w i)(ho:bh (cg b) w w')(hb:w'.heap[b]? =some (xK #[lv,j,en,xI (-1)] 428))(hj:j<=T.length):eR b lv en T w' j:=
 ⟨hb,h.toks.ev ⟨ho,λ_ h=> .inl h⟩,h.few,hj,h.kinds⟩
def eR.aT {T:List Tok}(h:eR b lv en T w i)(hb:bC w w'):eR b lv en T w' i:=
 h.step (bh.bA hb) ((hb.block b (ab.1 h.box).1).trans h.box) h.le
def eR.drewN {T:List Tok}(h:eR b lv en T w i)(n:Nat):eR b lv en T (w.drewN n) i:=⟨h.box,h.toks,h.few,h.le,h.kinds⟩
def eR.cells {T:List Tok}(h:eR b lv en T w i):∃a cap,lv=xL a T.length cap/\(∀t,T[i]? =some t->∃bl off,a=some ⟨bl,off,none⟩/\bl≠b/\bl<w.heap.size/\cC w bl (off+i*4) (xI (dt t.bg))/\cC w bl (off+i*4+1) (xI t.n)/\cC w bl (off+i*4+2) (xS (bL t.s))/\cC w bl (off+i*4+3) (xI t.at_)):=by
 have⟨a,cap,hv,_,_,hc⟩:=h.toks.bj;rw[aL]at hv hc;refine⟨a,cap,hv,λt ht=> ?_⟩;have hl:=(ag.1 ht).1;have⟨bl,off,ha,hM,hbl,hcell⟩:=hc (by omega);obtain⟨cs,⟨rfl,_⟩,hcs⟩:=hcell i (nv t) (by rw[List.getElem?_map,ht];rfl);exact⟨bl,off,ha,hM,hbl,hcs 0 _ rfl,hcs 1 _ rfl,hcs 2 _ rfl,hcs 3 _ rfl⟩
def drop_cons {T:List Tok}{t:Tok}(h:T[i]? =some t):T.drop i=t::T.drop (i+1):=by
 obtain⟨hl,rfl⟩:=ag.1 h;exact List.drop_eq_getElem_cons hl
def Y1 {a:List UInt8}{b:bS}:((bL a).toList==b.toList)=(a==b.data.toList):=by rw[ByteArray.toList_eq,ByteArray.toList_eq];rfl
def N9(b:Nat)(lv:bt)(en:Int)(T:List Tok)(w:bq)(i:Nat)(s:bS)(h:eR b lv en T w i)(r:Bool)(hr:eU (T.drop i) s.data.toList=r):
 xC 418 #[xP b,s] w λe w'=>e=xR r/\∃n,w'=w.drewN n:=by
 obtain⟨a,cap,rfl,hc⟩:=h.cells;have⟨p0,p1,p2,p3⟩:=aU h.box;have hle:=h.le;have FN:=h.few;have hk:=h.kinds;by_cases hi:i<T.length
 .have⟨t,ht⟩:=fg T i hi;obtain⟨bl,off,rfl,wI,hbl,q0,q1,q2,q3⟩:=hc t ht;rw[drop_cons ht]at hr;have hk4:=hk t (ai ht);have RM:(i:Int)<(T.length:Int):=by omega
  have hi0:(0:Int)<=(i:Int):=an _;by_cases h4:t.bg=4
  .have e0:(dt t.bg==0)=true:=by simp[dt,h4]
   have NP:((bL t.s).toList==s.toList)=r:=by
    rw[<-hr,Y1];simp[eU,h4]
   go_enter func418,ntmps418;go_wp2_with fail;go_quiet(fail);go_wp2;go_ret;exact⟨rfl,_,rfl⟩
  have e0:(dt t.bg==0)=false:=by simp[dt,h4];omega
  have NP:false=r:=by
   rw[<-hr];simp[eU,h4]
  subst NP;go_enter func418,ntmps418;go_wp2_with fail;go_quiet(fail);go_wp2;go_ret;exact⟨rfl,_,rfl⟩
 have RM:¬(i:Int)<(T.length:Int):=by omega
 have hd:decide ((i:Int)<(T.length:Int))=false:=by simpa using RM
 have hd':decide (i<T.length)=false:=by simpa using hi
 rw[List.drop_eq_nil_of_le (by omega)]at hr;have NP:false=r:=hr;subst NP;go_enter func418,ntmps418;go_wp2_with fail;go_quiet(fail);go_wp2;go_ret;exact⟨rfl,_,rfl⟩
def bh.Lc(h:bh (cg b) w w')(i:Nat)(u:bt):bh (cg b) w (w'.setCell (b,i) u):=h.setCell (p:=(b,i)) (.inl (show b=b from rfl)) u
def Ld(b:Nat)(lv:bt)(en:Int)(T:List Tok)(w:bq)(j:Nat)(e:Ending)(w':bq):Prop:=∃v,e=xR v/\eR b lv en T w' j/\bh (cg b) w w'
def JS(b:Nat)(lv:bt)(en:Int)(T:List Tok)(w:bq)(i:Nat)(s:bS)(h:eR b lv en T w i)(hr:eU (T.drop i) s.data.toList=true):
 xC 421 #[xP b,s] w (Ld b lv en T w (i+1)):=by
 have hcall:=N9 b lv en T w i s h true hr;have hi:i<T.length:=by
  rcases Nat.lt_or_ge i T.length with h|h
  .exact h
  rw[List.drop_eq_nil_of_le h]at hr;cases hr
 obtain⟨a,cap,rfl,_⟩:=h.cells;have⟨p0,p1,p2,p3⟩:=aU h.box;have f1:=aY h.box 1;have FN:=h.few;have iG:=aV h;have cI:=aV hcall;delta xC;go_in;go_wp2_with fail;refine(cI.o).mono ?_;rintro e w1⟨rfl,n,rfl⟩;go_wp2_with fail;refine ah (results_none rfl _ _ _) rfl ?_;refine⟨_,rfl,iG.o.step ?_ ?_ (by omega),?_⟩
 .exact((bh.refl (cg b) w).drewN n).Lc 1 _
 .exact aA _ _ 1 _ _ _ iG.o.box
 exact((bh.refl (cg b) w).drewN n).Lc 1 _
def gO(w:bq):Nat->Prop:=λi=>i<w
def xd(b:Nat)(lv:bt)(en:Int)(T:List Tok)(w:bq)(x:bG)(r:List Tok)(e:Ending)(w':bq):Prop:=
 ∃v j,e=xR v/\dq (gO w) w' v x/\eR b lv en T w' j/\r=T.drop j/\bh (cg b) w w'
def JT(b:Nat)(lv:bt)(en:Int)(T:List Tok)(k:Nat):Prop:=∀(least i:Nat)(x:bG)(r:List Tok)(w:bq),1<=least->least<=5->eR b lv en T w i->ke k least (T.drop i)=some (x,r)->
 xC 353 #[xP b,least] w (xd b lv en T w x r)
def GA(b:Nat)(lv:bt)(en:Int)(T:List Tok)(k:Nat):Prop:=∀(i:Nat)(x:bG)(r:List Tok)(w:bq),eR b lv en T w i->kx k (T.drop i)=some (x,r)->
 xC 379 #[xP b] w (xd b lv en T w x r)
def Oa(b:Nat)(lv:bt)(en:Int)(T:List Tok)(k:Nat):Prop:=∀(i:Nat)(nm:List UInt8)(l:List bG)(r:List Tok)(w:bq),0<eG nm->nm.length<=200->eR b lv en T w i->fS k (eG nm) (T.drop i)=some (l,r)->
 xC 420 #[xP b,bL nm] w (xd b lv en T w (.mk 6 0 (bL nm) l) r)
def kH(l:List UInt8):(bL l).size=l.length:=by unfold bL;simp[ByteArray.size]
def mG(l:List UInt8):(bL l).data.toList=l:=by unfold bL;simp
def uW(k n:Int)(s:bS)(hs:s.size<=maxLen):dq M w (.agg #[k,n,s,()]) (bG.mk k n s []):=
 ⟨_,rfl,dF.iff.2 ⟨_,rfl,aS.nil _ _,hs⟩⟩
def rr(T:List Tok):Prop:=∀t∈T,t.s.length<=200/\(t.bg=1->t.s=[])/\(t.bg≠1->t.n=0)/\(t.bg=4->∃c,c∈eQ/\t.s=[c])
def eR.next {T:List Tok}{wc:bq}(hst:eR b lv en T wc i)(hi:i<T.length)(ho:bh (cg b) w wc):eR b lv en T (wc.setCell (b,1) (xI ((i:Int)+1))) (i+1)/\bh (cg b) w (wc.setCell (b,1) (xI ((i:Int)+1))):=
 ⟨hst.step ((bh.refl (cg b) wc).Lc 1 _) (aA wc b 1 _ _ _ hst.box) (by omega),ho.Lc 1 _⟩
def eR.set {T:List Tok}{wc:bq}(hst:eR b lv en T wc i)(hb:b<w)(hsz:w.heap.size<=wc)(hf:∀bl off,lv.ownBlock=some bl->bl<w.heap.size\/off=0\/True)(p:Addr)(hp:w<=p.block)(hl:∀x,lv.ownBlock=some x->x<w.heap.size)(u:bt):eR b lv en T (wc.setCell p u) i:=by
 refine⟨(aj _ _ _ _ (by omega)).trans hst.box,?_,hst.few,hst.le,hst.kinds⟩;obtain⟨css,⟨h1,a,cap,rfl,h3,h4,h5⟩,h2,h6⟩:=hst.toks;refine⟨css,⟨h1,a,cap,rfl,h3,h4,λhn=> ?_⟩,h2,λj cs x hc hx=>h6 j cs x hc hx⟩;obtain⟨bl,off,rfl,hF,hbl,hcell⟩:=h5 hn;have:=hl bl rfl;exact⟨bl,off,rfl,hF,by simpa using hbl,λj u hu=>(World.cell?_of_block (w:=wc) (aj _ _ _ _ (by simp;omega))).trans (hcell j u hu)⟩
def An {T:List Tok}{wc:bq}(hst:eR b lv en T wc i)(hi:i<T.length)(ho:bh (cg b) w wc)(hb:b<w)(hl:∀x,lv.ownBlock=some x->x<w.heap.size)(v0 v1 v2 v3:bt):
 eR b lv en T (((((wc.setCell (b,1) (xI ((i:Int)+1))).setCell (w,0) v0).setCell (w,1) v1).setCell (w,2) v2).setCell (w,3) v3) (i+1)/\
 bh (cg b) w (((((wc.setCell (b,1) (xI ((i:Int)+1))).setCell (w,0) v0).setCell (w,1) v1).setCell (w,2) v2).setCell (w,3) v3):=by
 have⟨h1,h2⟩:=hst.next hi ho;have hz:=ho.size;refine⟨(((h1.set hb (by simpa using hz) (λ_ _ _=> .inr (.inr trivial)) _ cN hl v0).set hb (by simpa using hz) (λ_ _ _=> .inr (.inr trivial)) _ cN hl v1).set hb (by simpa using hz) (λ_ _ _=> .inr (.inr trivial)) _ cN hl v2).set hb (by simpa using hz) (λ_ _ _=> .inr (.inr trivial)) _ cN hl v3,?_⟩;exact(((h2.setCell (.inr cN) v0).setCell (.inr cN) v1).setCell (.inr cN) v2).setCell (.inr cN) v3
def Two(w:bq)(o0 o1:Obj)(wx:bq):Prop:=wx.heap[w.heap.size]? =some o0/\wx.heap[w.heap.size+1]? =some o1/\wx.heap.size=↑w+2/\bC w wx
def Ob {w W wx:World}{o0 o1:Obj}(h:W.heap[w.heap.size]? =some o0/\W.heap[w.heap.size+1]? =some o1/\W.heap.size=↑w+2/\bC w W)(h1:wx.heap=W.heap)(h2:wx.os=W.os)(h3:wx.tape=W.tape)(h4:wx.output=W.output):Two w o0 o1 wx:=by
 unfold Two;rw[h1];obtain⟨a,b,c,d⟩:=h;exact⟨a,b,c,⟨h2.trans d.os,h3.trans d.tape,h4.trans d.output,by rw[h1];exact d.size,by rw[h1];exact d.block⟩⟩
def GB(b:Nat)(lv:bt)(en:Int)(T:List Tok)(hsh:rr T)(k:Nat)(HC:Oa b lv en T k):GA b lv en T (k+1):=by
 intro i x r w hst hp;have FN:=hst.few;have uM:=hst.box;have hbl:b<w:=(ab.1 uM).1;have⟨p0,p1,p2,p3⟩:=aU uM;have f1:=aY uM 1;rcases Nat.lt_or_ge i T.length with hi|hi;rotate_left
 .rw[List.drop_eq_nil_of_le hi]at hp;simp[kx]at hp
 have⟨t,ht⟩:=fg T i hi;obtain⟨a,cap,rfl,hc⟩:=hst.cells;obtain⟨bl,off,rfl,wI,FO,q0,q1,q2,q3⟩:=hc t ht;have hmem:=ai ht;have⟨hts,htk1,htn,_⟩:=hsh t hmem;have hk4:=hst.kinds t hmem;rw[drop_cons ht]at hp;unfold kx at hp;dsimp only at hp;have RM:(i:Int)<(T.length:Int):=by omega
 have qf6:¬(T.length:Int)<=(i:Int):=by omega
 have hd':decide (T.length<=i)=false:=by simp;omega
 have hd2:decide ((T.length:Int)<=(i:Int))=false:=by simp;omega
 have hi0:(0:Int)<=(i:Int):=an _;have qf7:b≠w:=by omega
 have qft:bl≠w:=by omega
 have qfu:=aV (drop_cons ht);clear hc ht hmem;have iG:=aV hst;clear hst;have Nn:=aV uM;clear uM;have HP:=aV hp;clear hp;have oQ:=aV htk1;clear htk1;have Jr:=aV htn;clear htn;go_enter func379,ntmps379;go_wp2_with fail;go_quiet(fail);go_upto_region 3 with fail;go_cut [3](λs3 wx=>s3=xP [w]/\Two w (xK jl 350) (xK #[dt t.bg,t.n,bL t.s,t.at_] 430) wx)
 .go_region_held3(λw'=>w'.cell? (b,0)=some (xL (bl,off) T.length cap)/\w'.cell? (b,1)=some (xI i)/\w'.cell? (bl,off+i*4)=some (xI (dt t.bg))/\w'.cell? (bl,off+i*4+1)=some (xI t.n)/\w'.cell? (bl,off+i*4+2)=some (xS (bL t.s))/\w'.cell? (bl,off+i*4+3)=some (xI t.at_))
   (first|go_keep)(first|fail);all_goals(go_wp2_with fail;go_meet;exact⟨rfl,Ob (kQ (w:=w) (o0:=xK jl 350) (o1:=xK #[dt t.bg,t.n,bL t.s,t.at_] 430) rfl) rfl rfl rfl rfl⟩)
 obtain⟨rfl,QJ,hx1,hxs,hxb⟩:=hcut;have Js:=aV (iG.o.aT hxb);clear p0 p1 p2 p3 f1 q0 q1 q2 q3;have⟨p0,p1,p2,p3⟩:=aU Js.o.box;have f1:=aY Js.o.box 1;have⟨r0,r1,r2,r3⟩:=aU QJ;have⟨g0,g1,g2,g3⟩:=iS QJ;have⟨x0,x1,x2,x3⟩:=aU hx1;have hsx:w.heap.size+1<wc:=by omega
 have n1:b≠[w]:=by omega
 have uO:=aV QJ;clear QJ;have gy:=aV hx1;clear hx1;have wH:=aV hxs;clear hxs;have HXB:=aV hxb;clear hxb;by_cases h1:t.bg=1
 .have hp:=HP.o;rw[if_pos h1]at hp;simp only[aG,Prod.mk.injEq]at hp;obtain⟨rfl,rfl⟩:=hp;have e1:(dt t.bg==1)=true:=by simp[dt,h1]
  have HK:=aV (show dt t.bg=1 by simp[dt,h1]);have QK:=aV (oQ.o h1);clear h1 hk4;go_wp2_with fail;refine ah (v:= .agg #[xI 1,t.n,xS (bL []),()]) (by simp[results,results379,go_sem,r0,r1,r2,r3,HK.o,QK.o]) rfl ?_;have⟨k1,k2⟩:=An Js.o hi (bh.bA HXB.o) hbl (λx hx=>by cases hx;exact FO) (dt t.bg) t.n (bL t.s) ();exact⟨_,i+1,rfl,uW _ _ _ (by rw[kH];unfold maxLen;simp),k1,rfl,k2⟩
 by_cases h2:t.bg=2
 .have hp:=HP.o;rw[if_neg h1,if_pos h2]at hp;simp only[aG,Prod.mk.injEq]at hp;obtain⟨rfl,rfl⟩:=hp;have e1:(dt t.bg==1)=false:=by simp[dt,h2]
  have e2:(dt t.bg==2)=true:=by simp[dt,h2]
  have HK:=aV (show dt t.bg=2 by simp[dt,h2]);have HN0:=aV (Jr.o h1);clear h1 h2 hk4;go_wp2_with fail;refine ah (v:= .agg #[xI 2,xI 0,bL t.s,()]) (by simp[results,results379,go_sem,r0,r1,r2,r3,HK.o,HN0.o]) rfl ?_;have⟨k1,k2⟩:=An Js.o hi (bh.bA HXB.o) hbl (λx hx=>by cases hx;exact FO) (dt t.bg) t.n (bL t.s) ();exact⟨_,i+1,rfl,uW _ _ _ (by rw[kH];unfold maxLen;omega),k1,rfl,k2⟩
 by_cases h3:t.bg=3
 .have hp:=HP.o;rw[if_neg h1,if_neg h2,if_pos h3]at hp;have e1:(dt t.bg==1)=false:=by simp[dt,h3]
  have e2:(dt t.bg==2)=false:=by simp[dt,h3]
  have e3:(dt t.bg==3)=true:=by simp[dt,h3]
  have⟨m1,m2⟩:=Js.o.next hi (bh.bA HXB.o);have zW:=aV m1;have QL:=aV m2;clear m1 m2 h1 h2 h3 hk4;have Um:Hd (∀r,eU (T.drop (i+1)) [40]=r->xC 418 #[xP b,xS ⟨#[40]⟩] (wc.setCell (b,1) (xI ((i:Int)+1))) λe w'=>e=xR (xB r)/\∃n,w'=(wc.setCell (b,1) (xI ((i:Int)+1))).drewN n):=λr hr=>N9 b _ en T _ (i+1) ⟨#[40]⟩ zW.o r hr;have RN:Hd (∀W,xC 419 #[bL t.s] W (j7 (eG t.s) W)):=λW=>by have h:=tZ (bL t.s) W;rw[mG]at h;exact h
  have⟨sg,hsg⟩:=js (eU (T.drop (i+1)) [40]);have cI:=aV (Um.o sg hsg);rw[hsg]at hp;have HSG:=aV hsg;clear hsg;have RO:=aV hp;clear hp;clear Um;go_wp2_with fail;refine(cI.o).mono ?_;rintro e w5⟨rfl,nn,hw5⟩;have vY:=aV (show eR b (xL (bl,off) T.length cap) en T w5 (i+1)by rw[hw5];exact zW.o.drewN nn);have KJ:=aV (show bh (cg b) w w5 by rw[hw5];exact QL.o.drewN nn);have Gh:=aV (show ed w5 w (xK jl 350)by rw[hw5];exact(aj _ _ _ _ (by simp;omega)).trans uO.o);have HY5:=aV (show cX w5 [w] (xK #[dt t.bg,t.n,bL t.s,t.at_] 430)by rw[hw5];exact(aj _ _ _ _ (by simp;omega)).trans gy.o);clear hw5 p0 p1 p2 p3 f1 r0 r1 r2 r3 g0 g1 g2 g3 x0 x1 x2 x3 cI;have⟨p0,p1,p2,p3⟩:=aU vY.o.box;have f1:=aY vY.o.box 1;have⟨r0,r1,r2,r3⟩:=aU Gh.o;have⟨g0,g1,g2,g3⟩:=iS Gh.o;have⟨x0,x1,x2,x3⟩:=aU HY5.o;have hs5:=KJ.o.size;have hsR:w.heap.size<w5:=(ab.1 Gh.o).1;have FLD:Hd (∀W',W'=(((w5.setCell (w,0) (xI 3)).setCell (w,1) (xI 0)).setCell (w,2) (bL t.s)).setCell (w,3) ()->eR b (xL (bl,off) T.length cap) en T W' (i+1)/\bh (cg b) w W'):=λW' h=>by
   rw[h];have hl:∀y,(Value.slice (bl,off) T.length cap).ownBlock=some y->y<w.heap.size:=λy hy=>by cases hy;exact FO
   have ht:∀(x y:Nat),(Value.slice (bl,off) T.length cap).ownBlock=some x->x<w\/y=0\/True:=λ_ _ _=> .inr (.inr trivial);exact⟨(((vY.o.set hbl hs5 ht _ cN hl _).set hbl (by simpa using hs5) ht _ cN hl _).set hbl (by simpa using hs5) ht _ cN hl _).set hbl (by simpa using hs5) ht _ cN hl _,(((KJ.o.setCell (.inr cN) _).setCell (.inr cN) _).setCell (.inr cN) _).setCell (.inr cN) _⟩
  cases sg
  .have hx:x= .mk 3 0 (bL t.s) []/\r=T.drop (i+1):=by
    have hp:=RO.o;rw[if_neg (by simp)]at hp;simp only[aG,Prod.mk.injEq]at hp;exact⟨hp.1.symm,hp.2.symm⟩
   obtain⟨rfl,rfl⟩:=hx;go_wp2_with fail;refine ah (v:= .agg #[xI 3,xI 0,bL t.s,()]) (by simp[results,results379,go_sem,r0,r1,r2,r3]) rfl ?_;have⟨k1,k2⟩:=FLD.o _ rfl;exact⟨_,i+1,rfl,uW _ _ _ (by rw[kH];unfold maxLen;omega),k1,rfl,k2⟩
  rcases Nat.eq_zero_or_pos (eG t.s)with ha|ha
  .have hx:x= .mk 3 0 (bL t.s) []/\r=T.drop (i+1):=by
    have hp:=RO.o;rw[if_neg (by omega)]at hp;simp only[aG,Prod.mk.injEq]at hp;exact⟨hp.1.symm,hp.2.symm⟩
   obtain⟨rfl,rfl⟩:=hx;rw[ha]at RN;clear ha;go_wp2_with fail;refine ey (RN.o _) ?_;go_wp2_with fail;refine ah (v:= .agg #[xI 3,xI 0,bL t.s,()]) (by simp[results,results379,go_sem,r0,r1,r2,r3]) rfl ?_;have⟨k1,k2⟩:=FLD.o _ rfl;exact⟨_,i+1,rfl,uW _ _ _ (by rw[kH];unfold maxLen;omega),k1,rfl,k2⟩
  have hp:=RO.o;rw[if_pos ⟨ha,rfl⟩]at hp;have hi1:i+1<T.length:=by
   rcases Nat.lt_or_ge (i+1) T.length with h|h
   .exact h
   have hsg:=HSG.o;rw[List.drop_eq_nil_of_le h]at hsg;cases hsg
  obtain⟨l,r',RP,rfl,rfl⟩:∃l r',fS k (eG t.s) (T.drop (i+2))=some (l,r')/\x= .mk 6 0 (bL t.s) l/\r=r':=by
   rw[List.drop_drop,show i+1+1=i+2 from rfl]at hp;cases hq:fS k (eG t.s) (T.drop (i+2))with
   |none=>rw[hq]at hp;cases hp
   |some q=>obtain⟨l,r'⟩:=q;rw[hq]at hp;simp only[aG,Prod.mk.injEq]at hp;exact⟨l,r',rfl,hp.1.symm,hp.2.symm⟩
  have haz:(0:Int)<(eG t.s:Int):=by omega
  have⟨m1,m2⟩:=vY.o.next hi1 KJ.o;rw[show((i+1:Nat):Int)+1=(i:Int)+1+1 from by omega]at m1 m2;have hz6:=m2.size;simp at hz6;have hcall:=HC (i+2) t.s l r _ ha hts m1 RP;have zg:=aV hcall;clear hcall;have HM6:=aV m1;clear m1;have RQ:=aV m2;clear m2;clear hp RP ha;go_wp2_with fail;refine ey (RN.o _) ?_;go_wp2_with fail;refine(zg.o).mono ?_;rintro e w7⟨v,j,rfl,⟨cs,rfl,hrep⟩,QM,hrj,ho7⟩;obtain⟨av,rfl,hsl,hss⟩:=dF.iff.1 hrep;obtain⟨ka,kc,rfl,_⟩:=hsl.bj;have Uo:Hd (ed w7 w (xK jl 350)):=(ho7.block w (by simp;omega) (by unfold cg;omega)).trans ((aj _ _ _ _ (by simp;omega)).trans Gh.o);clear p0 p1 p2 p3 f1 r0 r1 r2 r3 g0 g1 g2 g3 x0 x1 x2 x3;have⟨r0,r1,r2,r3⟩:=aU Uo.o;have⟨g0,g1,g2,g3⟩:=iS Uo.o;have fR:=aV hrep;clear hrep;have qdb:=aV QM;clear QM;have HRJ:=aV hrj;clear hrj;have HO7:=aV ho7;clear ho7;have gS:=aV hsl;clear hsl;have nS:=aV hss;clear hss;go_wp2_with fail;refine ah (v:= .agg #[xI 6,xI 0,bL t.s,xL ka l.length kc]) (by simp[results,results379,go_sem,r0,r1,r2,r3]) rfl ?_;have hl:∀y,(Value.slice (bl,off) T.length cap).ownBlock=some y->y<w.heap.size:=λy hy=>by cases hy;exact FO
  have ht:∀(x y:Nat),(Value.slice (bl,off) T.length cap).ownBlock=some x->x<w\/y=0\/True:=λ_ _ _=> .inr (.inr trivial);have ZQ:=(RQ.o.trans HO7.o);have ZR:=ZQ.size;refine⟨_,j,rfl,⟨_,rfl,dF.iff.2 ⟨_,rfl,gS.o.ev ?_,nS.o⟩⟩,?_,HRJ.o,?_⟩
  .exact((((Ev.eO w7 (λi h=>by unfold gO at h⊢;simp;omega)).setCell (.inl (by unfold gO;simp;omega)) _).setCell (.inl (by unfold gO;simp;omega)) _).setCell (.inl (by unfold gO;simp;omega)) _).setCell (.inl (by unfold gO;simp;omega)) _
  .exact(((qdb.o.set hbl ZR ht _ cN hl _).set hbl (by simpa using ZR) ht _ cN hl _).set hbl (by simpa using ZR) ht _ cN hl _).set hbl (by simpa using ZR) ht _ cN hl _
  exact(((ZQ.setCell (.inr cN) _).setCell (.inr cN) _).setCell (.inr cN) _).setCell (.inr cN) _
 exfalso;have hp:=HP.o;rw[if_neg h1,if_neg h2,if_neg h3]at hp;cases hp
end Go.Proofs.YtpjdjlnknfmfkaaGreatDoor
