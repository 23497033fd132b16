/- A part of MarkAsks's proof; no condition. -/
import Derived.Test.YtccpcfcochffcaaGreatDoorM01
import Derived.Deep.RegionHeld3
set_option linter.all false
set_option maxHeartbeats 8000000
set_option maxRecDepth 100000
namespace Go.Proofs.YtccpcfcochffcaaGreatDoor
open Tryz
open Go.RowKit
variable{s nm:aT}{k j p h b h':Nat}{f:ay}{w W:aj}{M:aS}{T:TypeId}
def Lt(c:Int)(w:aj)(h0:0<=c)(h1:c<=255):
 xC 224 #[.int .u8 c] w (gE (xB (decide (48<=c/\c<=57))) w):=by
 by_cases a1:48<=c
 .by_cases a2:c<=57
  .rw[decide_eq_true ⟨a1,a2⟩];go_enter func224,ntmps224;go_wp2;go_ret;exact⟨rfl,rfl⟩
  .rw[decide_eq_false (λh=>a2 h.2)];go_enter func224,ntmps224;go_wp2;go_ret;exact⟨rfl,rfl⟩
 .rw[decide_eq_false (λh=>a1 h.1)];go_enter func224,ntmps224;go_wp2;go_ret;exact⟨rfl,rfl⟩
def kS(b:Bool)(c:Int)(w:aj)(h0:0<=c)(h1:c<=255)(hb:decide (48<=c/\c<=57)=b):xC 224 #[.int .u8 c] w (gE (xB b) w):=by subst hb;exact Lt c w h0 h1
def sy(b:Bool)(c:Int)(w:aj)(h0:0<=c)(h1:c<=255)(hb:bz c=b):xC 226 #[.int .u8 c] w (gE (xB b) w):=by
 have hn:bz c=decide ((97<=c/\c<=122)\/(48<=c/\c<=57)\/c=95):=by
  unfold bz fe;rw[Bool.eq_iff_iff];simp;omega
 rw[hn]at hb;by_cases a1:97<=c
 .by_cases a2:c<=122
  .rw[decide_eq_true (.inl ⟨a1,a2⟩)]at hb;subst hb;go_enter func226,ntmps226;go_wp2;go_ret;exact⟨rfl,rfl⟩
  .have a3:48<=c:=by omega
   have a4:¬c<=57:=by omega
   have a5:(c==95)=false:=by simp;omega
   rw[decide_eq_false (by omega)]at hb;subst hb;go_enter func226,ntmps226;go_wp2;go_ret;exact⟨rfl,rfl⟩
 .by_cases a3:48<=c
  .by_cases a4:c<=57
   .rw[decide_eq_true (.inr (.inl ⟨a3,a4⟩))]at hb;subst hb;go_enter func226,ntmps226;go_wp2;go_ret;exact⟨rfl,rfl⟩
   .by_cases a5:c=95
    .have a6:(c==95)=true:=by simpa using a5
     rw[decide_eq_true (.inr (.inr a5))]at hb;subst hb;go_enter func226,ntmps226;go_wp2;go_ret;exact⟨rfl,rfl⟩
    .have a6:(c==95)=false:=by simpa using a5
     rw[decide_eq_false (by omega)]at hb;subst hb;go_enter func226,ntmps226;go_wp2;go_ret;exact⟨rfl,rfl⟩
  .have a6:(c==95)=false:=by simp;omega
   rw[decide_eq_false (by omega)]at hb;subst hb;go_enter func226,ntmps226;go_wp2;go_ret;exact⟨rfl,rfl⟩
def dF:List UInt8:=[38,43,45,42,47,37,40,41,44,61,62]
def nw(c:UInt8)(hc:c∈dF)(w:aj):xC 227 #[xS ⟨#[c]⟩] w (gE (xI (cj [c])) w):=by
 simp only[dF,Qdf,List.not_mem_nil,or_false]at hc;rcases hc with rfl|rfl|rfl|rfl|rfl|rfl|rfl|rfl|rfl|rfl|rfl;all_goals
  go_enter func227,ntmps227;go_wp2;go_ret;exact⟨rfl,rfl⟩
def ff {l:List UInt8}(h:s.data.toList=l):s=⟨l.toArray⟩:=by cases s;simp at h;simp[<-h]
def fM {l:List UInt8}(h:¬s.data.toList=l):(s.toList==l)=false:=by rw[ByteArray.toList_eq];simpa using h
def N8(f:Nat)(hf:f=259\/f=327)(s:aT)(w:aj):xC f #[xS s] w (gE (xI (dq s.data.toList)) w):=by
 by_cases hm:s.data.toList=[108,101,110]\/s.data.toList=[116,101,120,116]\/s.data.toList=[110,117,109]\/s.data.toList=[108,101,102,116]\/s.data.toList=[114,105,103,104,116]\/s.data.toList=[102,114,111,109]\/s.data.toList=[102,105,110,100]\/s.data.toList=[109,105,110]\/s.data.toList=[109,97,120]\/s.data.toList=[105,102]
 .rcases hf with rfl|rfl<;>rcases hm with h|h|h|h|h|h|h|h|h|h<;>(obtain rfl:=ff h;(first|(go_enter func259,ntmps259)|(go_enter func327,ntmps327));go_wp2;go_ret;exact⟨rfl,rfl⟩)
 .simp only[not_or]at hm;obtain⟨h0,h1,h2,h3,h4,h5,h6,h7,h8,h9⟩:=hm;rw[show dq s.data.toList=0 by simp[dq,h0,h1,h2,h3,h4,h5,h6,h7,h8,h9]];replace h0:=fM h0;replace h1:=fM h1;replace h2:=fM h2;replace h3:=fM h3;replace h4:=fM h4;replace h5:=fM h5;replace h6:=fM h6;replace h7:=fM h7;replace h8:=fM h8;replace h9:=fM h9;rcases hf with rfl|rfl<;>((first|(go_enter func259,ntmps259)|(go_enter func327,ntmps327));go_wp2;go_ret;exact⟨rfl,rfl⟩)
def ux(s:aT)(w:aj):xC 259 #[xS s] w (gE (xI (dq s.data.toList)) w):=N8 _ (.inl rfl) s w
def Bc(s:aT)(w:aj):xC 327 #[xS s] w (gE (xI (dq s.data.toList)) w):=N8 _ (.inr rfl) s w
def mn:List aT:=[⟨#[97]⟩,⟨#[98,50]⟩,⟨#[110,97,109,101]⟩,⟨#[110,101,120,116,95,111,110,101]⟩,⟨#[107,105,100,115]⟩,⟨#[120]⟩]
def nA:List aT:=[⟨#[110,111,100,101]⟩,⟨#[105,116,101,109]⟩,⟨#[117,115,101,114]⟩,⟨#[112,97,103,101,95,49]⟩,⟨#[108,101,97,102]⟩,⟨#[113]⟩]
def UB(k:Nat):aT:=mn.getD k ⟨#[]⟩
def Oi(k:Nat):aT:=nA.getD k ⟨#[]⟩
def VH(h:k<6):(#[xS ⟨#[97]⟩,xS ⟨#[98,50]⟩,xS ⟨#[110,97,109,101]⟩,xS ⟨#[110,101,120,116,95,111,110,101]⟩,xS ⟨#[107,105,100,115]⟩,xS ⟨#[120]⟩]:Array an)[k]? =some (xS (UB k)):=by
 rcases k with _|_|_|_|_|_|k<;>first|rfl|omega
def SK(h:k<6):(#[xS ⟨#[110,111,100,101]⟩,xS ⟨#[105,116,101,109]⟩,xS ⟨#[117,115,101,114]⟩,xS ⟨#[112,97,103,101,95,49]⟩,xS ⟨#[108,101,97,102]⟩,xS ⟨#[113]⟩]:Array an)[k]? =some (xS (Oi k)):=by
 rcases k with _|_|_|_|_|_|k<;>first|rfl|omega
def SL(h:k<6):UB k∈mn:=by
 rcases k with _|_|_|_|_|_|k<;>first|(simp[UB,mn];done)|omega
def Oj(h:k<6):Oi k∈nA:=by
 rcases k with _|_|_|_|_|_|k<;>first|(simp[Oi,nA];done)|omega
def sF:∀s∈mn,aE s=true/\s.size<=20:=by decide
def hU:∀s∈nA,aE s=true/\s.size<=20:=by decide
def cz(h:s.size<=20):s.size<=maxLen:=by unfold maxLen;omega
def iQ(c:az):Prop:=aM c=true/\c.fields.length<=6/\(∀f∈c.fields,f.name∈mn)/\c.name∈nA
def gG(fs:List ay):Prop:=(∀f∈fs,f.name∈mn/\bC f=true)/\∀(j:Nat)(f:ay),fs[j]? =some f->idxOf (λg:ay=>bV g.name f.name) fs=j
def vA {α:Type}{p:α->Bool}{xs ys:List α}(h:idxOf p xs=j):idxOf p (xs++ys)=j:=by
 unfold idxOf at*;cases hf:xs.findIdx? p with
 |none=>rw[hf]at h;simp at h
 |some i=>rw[hf]at h;rw[List.findIdx?_append,hf];simpa using h
theorem gG.snoc {fs:List ay}(h:gG fs)(hn:f.name∈mn)(hr:bC f=true)(hm:idxOf (λg:ay=>bV g.name f.name) fs= -1):gG (fs++[f]):=by
 refine⟨λg hg=> ?_,λj g hg=> ?_⟩
 .rcases Qch.1 hg with h1|h1
  .exact h.1 g h1
  .simp at h1;subst h1;exact⟨hn,hr⟩
 .by_cases hj:j<fs.length
  .rw[Qbc hj]at hg;exact vA (h.2 j g hg)
  .rw[Qbd (by omega)]at hg;have h0:j-fs.length=0:=by
    cases hq:j-fs.length with
    |zero=>rfl
    |succ q=>rw[hq]at hg;simp at hg
   rw[h0]at hg;simp at hg;subst hg;unfold idxOf at hm⊢;cases hf:fs.findIdx? (λg=>bV g.name f.name)with
   |some i=>rw[hf]at hm;simp at hm
   |none=>
    rw[List.findIdx?_append,hf];have:bV f.name f.name=true:=by simp[bV]
    simp[this];omega
theorem gG.cls {fs:List ay}(h:gG fs)(hl:fs.length<=6)(hn:nm∈nA):iQ ⟨nm,fs⟩:=
 ⟨(bc _).2 ⟨(hU nm hn).1,Qcg hl (by omega),λj f _ hf=>⟨(h.1 f (Qaf hf)).2,h.2 j f hf⟩⟩,hl,λf hf=>(h.1 f hf).1,hn⟩
def sG(r:js):ay:=⟨UB (aH r.name 6),⟨1+(aH r.kind 5:Int),if aH r.kind 5=4 then 1+(aH r.of 4:Int)else 0⟩,r.indexed&&decide (1+(aH r.kind 5:Int)<=3)⟩
def yq(r:js):bC (sG r)=true/\(sG r).name∈mn:=by
 have h1:=SL (cq r.name 6 (by omega));have h2:=cq r.kind 5 (by omega);have h3:=cq r.of 4 (by omega);refine⟨?_,h1⟩;have e1:=(sF _ h1).1;unfold bC sG;simp only[e1,Bool.true_and,Qce];constructor
 .unfold aF;by_cases h4:aH r.kind 5=4
  .simp[h4];omega
  .simp only[h4,if_false];rw[if_neg (by omega)];simp;omega
 .cases r.indexed<;>simp
def iw:(Tryz.prog.info? 138).map (λi=>(i.zero,i.size,i.bytes))=some (some (.agg #[xS ⟨#[]⟩,xI 0,xI 0,xB false]),4,40):=by kernel_rfl
def D8(M:aS)(fv:an)(w:aj)(fs:List ay)(nm name:aT)(hs:ab M w fv fs)(h:idxOf (λg:ay=>bV g.name name) fs<0):
 xC 79 #[.agg #[xS nm,fv],xS name] w (cN (.tuple #[xI 0,xB false]) w):=
 lT M fv w ⟨nm,fs⟩ name 0 false hs (if_pos h) (by have h':fieldAt ⟨nm,fs⟩ name<0:=h;rw[decide_eq_true h'];rfl)
def Cp(M:aS)(fv:an)(w:aj)(fs:List ay)(nm name:aT)(hs:ab M w fv fs)(h:¬idxOf (λg:ay=>bV g.name name) fs<0):
 xC 79 #[.agg #[xS nm,fv],xS name] w (cN (.tuple #[xI (idxOf (λg:ay=>bV g.name name) fs),xB true]) w):=
 lT M fv w ⟨nm,fs⟩ name _ true hs (if_neg h) (by have h':¬fieldAt ⟨nm,fs⟩ name<0:=h;rw[decide_eq_false h'];rfl)
def Kj(x:List UInt8):Prop:=(∃c,x=[c]/\32<=c/\c<127)\/x=[195,169]
def iD(l:List UInt8):Prop:=∃ss:List (List UInt8),l=ss.flatten/\∀x∈ss,Kj x
def fN(s:aT):Prop:=s.size<=60/\iD s.data.toList
def jN:aT:=⟨#[]⟩
def kU(k many:Int)(v:au):Prop:=
 (k=1/\∃n,v= .mk 1 n jN []/\-1000000000000000<=n/\n<=1000000000000000)\/(k=2/\∃s,v= .mk 2 0 s []/\fN s)\/
 ((k=3\/k=4)/\(v= .mk 0 0 jN []\/∃n,v= .mk k n jN []/\1<=n/\n<=many))
def db(t:aR)(many:Int)(v:au):Prop:=
 (t.kind=5/\∃l,v= .mk 5 0 jN l/\l.length<=12/\∀x∈l,kU t.of many x)\/(t.kind≠5/\kU t.kind many v)
def VI:List aT:=[⟨#[]⟩,⟨#[97]⟩,⟨#[98,99]⟩,⟨#[195,169,116,195,169]⟩,⟨#[97,32,98]⟩,⟨#[122,122,32,116,111,112]⟩,⟨#[48]⟩,⟨#[45,55]⟩]
def Zu(k:Nat):aT:=VI.getD k jN
def VJ(h:k<8):(#[xS ⟨#[]⟩,xS ⟨#[97]⟩,xS ⟨#[98,99]⟩,xS ⟨#[195,169,116,195,169]⟩,xS ⟨#[97,32,98]⟩,xS ⟨#[122,122,32,116,111,112]⟩,xS ⟨#[48]⟩,xS ⟨#[45,55]⟩]:Array an)[k]? =some (xS (Zu k)):=by
 rcases k with _|_|_|_|_|_|_|_|k<;>first|rfl|omega
def Hi(x:List UInt8):Bool:=(match x with|[c]=>decide (32<=c)&&decide (c<127)|_=>false)||x==[195,169]
def Ol {x:List UInt8}(h:Hi x=true):Kj x:=by
 unfold Hi at h;simp only[Bool.or_eq_true,beq_iff_eq]at h;rcases h with h|h
 .split at h
  .simp at h;exact .inl ⟨_,rfl,h.1,h.2⟩
  .cases h
 .exact .inr h
def iR(ss:List (List UInt8))(h:ss.all Hi=true){l:List UInt8}(hl:l=ss.flatten):iD l:=⟨ss,hl,λx hx=>Ol (List.all_eq_true.1 h x hx)⟩
def Om(h:k<8):fN (Zu k):=by
 rcases k with _|_|_|_|_|_|_|_|k
 .exact⟨by decide,iR [] (by decide) (by decide)⟩
 .exact⟨by decide,iR [[97]] (by decide) (by decide)⟩
 .exact⟨by decide,iR [[98],[99]] (by decide) (by decide)⟩
 .exact⟨by decide,iR [[195,169],[116],[195,169]] (by decide) (by decide)⟩
 .exact⟨by decide,iR [[97],[32],[98]] (by decide) (by decide)⟩
 .exact⟨by decide,iR [[122],[122],[32],[116],[111],[112]] (by decide) (by decide)⟩
 .exact⟨by decide,iR [[48]] (by decide) (by decide)⟩
 .exact⟨by decide,iR [[45],[55]] (by decide) (by decide)⟩
 .omega
def fR:jN.size<=maxLen:=by unfold maxLen;decide
def po(k n:Int)(s:aT)(hs:s.size<=maxLen):bS M w (.agg #[xI k,xI n,xS s,xL none 0 0]) (au.mk k n s []):=
 ⟨_,rfl,eN.iff.2 ⟨_,rfl,ab.nil _ _,hs⟩⟩
def fY:(Tryz.prog.info? 30).map (λi=>(i.zero,i.size,i.bytes))=some (some (.agg iN),4,56):=by kernel_rfl
def Bg(M:aS)(w:aj)(k of n many:Int)(qM:1<=k)(si:k<=4)(hn:I6 n)(Ac:many<=1000):
 xG 83 #[.agg #[xI k,xI of],xI n,xI many] w λv w'=>∃x,kU k many x/\bS M w' v x:=by
 have HI:=af hn;clear hn;have YC:=cq n 8 (by omega);have qgn:=cq n 41 (by omega);have La:k=1\/k=2\/(k=3\/k=4):=by omega
 rcases La with rfl|rfl|hk
 .go_enter func83,ntmps83;go_wp2_with fail;refine dJ (eS _ _ _ HI.o (by omega) (by omega)) ?_;go_wp2_with fail;refine Qae (v:= .agg #[xI 1,xI ((aH n 41:Int)-20),xS ⟨#[]⟩,xL none 0 0]) (by simp[results,results83,go_sem]) rfl ⟨_,rfl,⟨.mk 1 ((aH n 41:Int)-20) jN [], .inl ⟨rfl,_,rfl,by omega,by omega⟩,po _ _ _ fR⟩,?_⟩;exact(bO.alloc (by simp) _).alloc (by simp;omega) _
 .go_enter func83,ntmps83;go_wp2_with fail;refine dJ (eS _ _ _ HI.o (by omega) (by omega)) ?_;obtain⟨W,hW⟩:∃W:aj,W=((w.alloc (xK #[xI 2,xI of] 136)).alloc (xK iN 30)).alloc
   (xK #[xS ⟨#[]⟩,xS ⟨#[97]⟩,xS ⟨#[98,99]⟩,xS ⟨#[195,169,116,195,169]⟩,xS ⟨#[97,32,98]⟩,xS ⟨#[122,122,32,116,111,112]⟩,xS ⟨#[48]⟩,xS ⟨#[45,55]⟩] 9):=⟨_,rfl⟩;rw[<-hW];obtain⟨b0,b1,b2,hz,hb⟩:=D1 hW;clear hW;have fS:aU W (w.heap.size+1+1) (aH n 8) (xS (Zu (aH n 8))):=cell_of_heap b2 (VJ YC);obtain⟨q0,q1,q2,q3⟩:=ae b1;obtain⟨f0,f1,f2,f3⟩:=ic b1;have HZ:=af hz;clear hz;have HB:=af hb;clear hb;clear b0 b1 b2;go_wp2_with fail;refine Qae (v:= .agg #[xI 2,xI 0,xS (Zu (aH n 8)),xL none 0 0]) (by simp[results,results83,go_sem,q0,q1,q2,q3]) rfl ⟨_,rfl,⟨.mk 2 0 (Zu (aH n 8)) [], .inr (.inl ⟨rfl,_,rfl,Om YC⟩),po _ _ _ (by have:=(Om YC).1;unfold maxLen;omega)⟩,?_⟩;exact(((HB.o.setCell (by simp) _).setCell (by simp) _).setCell (by simp) _).setCell (by simp) _
 .have e1:(k==1)=false:=by simp;omega
  have e2:(k==2)=false:=by simp;omega
  have HK:=af hk;have NIL:Hd (kU k many (.mk 0 0 jN [])):= .inr (.inr ⟨hk, .inl rfl⟩);have WN:(k==3)=true\/((k==3)=false/\(k==4)=true):=by rcases hk with h|h;exact .inl (by simp;omega);exact .inr ⟨by simp;omega,by simp;omega⟩
  clear hk;by_cases qf1:many<1
  .rcases WN with e3|⟨e3,e4⟩;all_goals
    go_enter func83,ntmps83;go_wp2_with fail;refine Qae (v:= .agg iN) (by simp[results,results83,go_sem]) rfl ⟨_,rfl,⟨.mk 0 0 jN [],NIL.o,po _ _ _ fR⟩,?_⟩;exact(bO.alloc (by simp) _).alloc (by simp;omega) _
  .by_cases h4:aH n 5=4
   .have WO:((aH n 5:Int)==4)=true:=by simp;omega
    clear h4;rcases WN with e3|⟨e3,e4⟩;all_goals
     go_enter func83,ntmps83;go_wp2_with fail;refine dJ (eS _ _ _ HI.o (by omega) (by omega)) ?_;go_wp2_with fail;refine Qae (v:= .agg iN) (by simp[results,results83,go_sem]) rfl ⟨_,rfl,⟨.mk 0 0 jN [],NIL.o,po _ _ _ fR⟩,?_⟩;exact(bO.alloc (by simp) _).alloc (by simp;omega) _
   .have WO:((aH n 5:Int)==4)=false:=by simp;omega
    have hpm:=cq n many.toNat (by omega);have REF:Hd (kU k many (.mk k (1+(aH n many.toNat:Int)) jN [])):= .inr (.inr ⟨HK.o, .inr ⟨_,rfl,by omega,by omega⟩⟩);clear h4;rcases WN with e3|⟨e3,e4⟩;all_goals
     go_enter func83,ntmps83;go_wp2_with fail;refine dJ (eS _ _ _ HI.o (by omega) (by omega)) ?_;go_wp2_with fail;have z3:IntKind.i64.wrap (1+(aH n many.toNat:Int))=1+(aH n many.toNat:Int):=Qbe _ (by omega);go_region_held3(λw'=>w'.cell? ⟨w.heap.size,0,none⟩=some (xI k))
      (first|go_keep)
      (first|(go_at_call 78;refine dJ (eS _ _ _ HI.o (by omega) (by omega)) ?_));all_goals
      go_wp2_with fail;refine Qae (v:= .agg #[xI k,xI (1+(aH n many.toNat:Int)),xS ⟨#[]⟩,xL none 0 0]) (by simp[results,results83,go_sem]) rfl ⟨_,rfl,⟨_,REF.o,po _ _ _ fR⟩,?_⟩;exact((bO.alloc (by simp) _).alloc (by simp;omega) _).drew
def Bl:iD []:=⟨[],rfl,λx h=>by cases h⟩
def uK {a b:List UInt8}(h:iD a)(k:iD b):iD (a++b):=by
 obtain⟨x,rfl,h1⟩:=h;obtain⟨y,rfl,h2⟩:=k;exact⟨x++y,by simp,λz hz=>(Qch.1 hz).elim (h1 z) (h2 z)⟩
def Bm {x:List UInt8}(h:Kj x):iD x:=⟨[x],by simp,λz hz=>by simp at hz;subst hz;exact h⟩
def OF {l:List UInt8}(h:iD l)(hl:l≠[]):∃x r,l=x++r/\Kj x/\iD r:=by
 obtain⟨ss,rfl,h1⟩:=h;cases ss with
 |nil=>exact absurd rfl hl
 |cons x r=>exact⟨x,r.flatten,rfl,h1 x List.mem_cons_self,r,rfl,λz hz=>h1 z (List.mem_cons_of_mem _ hz)⟩
def pE(l:List UInt8)(h:∀c∈l,32<=c/\c<127):iD l:=by
 induction l with
 |nil=>exact Bl
 |cons c r ih=>
  have:=uK (Bm (.inl ⟨c,rfl,h c List.mem_cons_self⟩)) (ih λd hd=>h d (List.mem_cons_of_mem _ hd));simpa using this
def qG(s:aT)(p:Nat):Prop:=p<=s.size/\iD (s.data.toList.take p)/\iD (s.data.toList.drop p)
def uL(h:iD s.data.toList):qG s 0:=⟨Qbf _,by simpa using Bl,by simpa using h⟩
def mO {l:List UInt8}{c:UInt8}(h:s.data.toList.drop p=l)(hk:l[k]? =some c):p+k<s.size/\s.get! (p+k)=c:=by
 subst h;rw[List.getElem?_drop]at hk;obtain⟨h1,h2⟩:=Qad.1 hk;have h3:p+k<s.size:=by rw[<-bh];exact h1
 refine⟨h3,?_⟩;simp[ByteArray.get!,getElem!_pos,h3];rw[<-h2];exact(Array.getElem_toList _)
theorem qG.step(h:qG s p)(hp:p<s.size):∃r k:Nat,Utf8.decode s p=(r,k)/\((k=1/\32<=r/\r<127)\/(k=2/\r=233))/\qG s (p+k):=by
 obtain⟨h1,h2,h3⟩:=h;have iG:s.data.toList.drop p≠[]:=by
  intro e;have:=congrArg List.length e;rw[List.length_drop,bh]at this;simp at this;omega
 obtain⟨x,r,e,hx,hr⟩:=OF h3 iG;have hlen:(s.data.toList.drop p).length=s.size-p:=by rw[List.length_drop,bh]
 have hAt:qG s (p+x.length):=by
  refine⟨?_,?_,?_⟩
  .have:=congrArg List.length e;rw[hlen,Qda]at this;omega
  .rw[List.take_add,e,List.take_left']
   .exact uK h2 (Bm hx)
   .rfl
  .rw[<-List.drop_drop,e,List.drop_left']
   .exact hr
   .rfl
 rcases hx with⟨c,rfl,iB,jh⟩|rfl
 .obtain⟨b1,b2⟩:=mO (k:=0) e rfl;have Sb:c.toNat<127:=by have:=UInt8.lt_iff_toNat_lt.1 jh;simpa using this
  have hc4:32<=c.toNat:=by have:=UInt8.le_iff_toNat_le.1 iB;simpa using this
  refine⟨c.toNat,1,?_, .inl ⟨rfl,hc4,Sb⟩,hAt⟩;simp only[Utf8.decode,b2];rw[if_pos (by omega)]
 .obtain⟨b1,b2⟩:=mO (k:=0) e rfl;obtain⟨b3,b4⟩:=mO (k:=1) e rfl;refine⟨233,2,?_, .inr ⟨rfl,rfl⟩,hAt⟩;simp only[Utf8.decode,b2,b4];simp[b3]
theorem qG.take(h:qG s p):iD (s.data.toList.take p):=h.2.1
theorem qG.drop(h:qG s p):iD (s.data.toList.drop p):=h.2.2
def Mb(k:Nat):aT:=([⟨#[97]⟩,⟨#[98,50]⟩,⟨#[110,97,109,101]⟩,⟨#[110,101,120,116,95,111,110,101]⟩,⟨#[107,105,100,115]⟩,⟨#[120]⟩,⟨#[110,111,100,101]⟩,⟨#[105,116,101,109]⟩,⟨#[117,115,101,114]⟩,⟨#[104,111,109,101]⟩,⟨#[116,111,112,95,49]⟩,⟨#[122]⟩]:List aT).getD k jN
def SY(h:k<12):(#[xS ⟨#[97]⟩,xS ⟨#[98,50]⟩,xS ⟨#[110,97,109,101]⟩,xS ⟨#[110,101,120,116,95,111,110,101]⟩,xS ⟨#[107,105,100,115]⟩,xS ⟨#[120]⟩,xS ⟨#[110,111,100,101]⟩,xS ⟨#[105,116,101,109]⟩,xS ⟨#[117,115,101,114]⟩,xS ⟨#[104,111,109,101]⟩,xS ⟨#[116,111,112,95,49]⟩,xS ⟨#[122]⟩]:Array an)[k]? =some (xS (Mb k)):=by
 rcases k with _|_|_|_|_|_|_|_|_|_|_|_|k<;>first|rfl|omega
def OW(h:k<12):(Mb k).size<=20/\((Mb k).toList==[])=false:=by
 rcases k with _|_|_|_|_|_|_|_|_|_|_|_|k<;>first|exact⟨by decide,by decide+kernel⟩|omega
def lY(c:Int)(hc:I6 c):∃s:aT,(s.size<=20/\(s.toList==[])=false)/\∀w,xC 32 #[xI c] w (cN (xS s) w):=by
 have hp:aH c 12<12:=cq c 12 (by omega);refine⟨Mb (aH c 12),OW hp,λw=> ?_⟩;have HP:Hd (∀w,_):=λw=>nM c 12 w hc (by omega) (by omega);have aG:∀(t:TypeId),(w.alloc (xK #[xS ⟨#[97]⟩,xS ⟨#[98,50]⟩,xS ⟨#[110,97,109,101]⟩,xS ⟨#[110,101,120,116,95,111,110,101]⟩,xS ⟨#[107,105,100,115]⟩,xS ⟨#[120]⟩,xS ⟨#[110,111,100,101]⟩,xS ⟨#[105,116,101,109]⟩,xS ⟨#[117,115,101,114]⟩,xS ⟨#[104,111,109,101]⟩,xS ⟨#[116,111,112,95,49]⟩,xS ⟨#[122]⟩] t)).cell? ⟨w.heap.size,aH c 12,none⟩=some (xS (Mb (aH c 12))):=λt=>by
  simp only[World.cell?,Qbh];exact SY hp
 have Ae:((aH c 12:Nat):Int)<12:=by omega
 have Du:(0:Int)<=((aH c 12:Nat):Int):=Qba _;rw[show(12:Int).toNat=12 from rfl]at HP;generalize aH c 12=q at*;generalize Mb q=s at*;go_enter func32,ntmps32;go_wp2_with fail;refine dJ (HP.o _) ?_;go_wp2;go_ret;exact⟨rfl,bO⟩
def cB {p:ec}{l r:an}(hb:cI W b (lQ T p l r h)):
 (aU W b 0 (xI p.k)/\aU W b 1 (xI p.n)/\aU W b 2 (xS p.s)/\aU W b 3 (xL p.a 0 p.c)/\aU W b 4 (xI p.id)/\
   aU W b 5 l/\aU W b 6 r/\aU W b 7 (xI h))/\
 (W.frozen? ⟨b,5,none⟩=false/\W.frozen? ⟨b,6,none⟩=false/\W.frozen? ⟨b,7,none⟩=false):=
 ⟨⟨cell_of_heap hb rfl,cell_of_heap hb rfl,cell_of_heap hb rfl,cell_of_heap hb rfl,cell_of_heap hb rfl,cell_of_heap hb rfl,cell_of_heap hb rfl,cell_of_heap hb rfl⟩,ag hb _,ag hb _,ag hb _⟩
def zO {p:ec}{l r:an}(hb:cI W b (lQ T p l r h))(v:an):(W.setCell ⟨b,5,none⟩ v).heap[b]? =some (lQ T p v r h):=Qca W b 5 _ _ v hb
def vd {p:ec}{l r:an}(hb:cI W b (lQ T p l r h))(v:an):(W.setCell ⟨b,6,none⟩ v).heap[b]? =some (lQ T p l v h):=Qca W b 6 _ _ v hb
def Qo {p:ec}{l r:an}(hb:cI W b (lQ T p l r h))(k:Nat):(W.setCell ⟨b,7,none⟩ (xI k)).heap[b]? =some (lQ T p l r k):=Qca W b 7 _ _ _ hb
def C9(t:Tr)(w:aj)(h:xA T w t):xC 210 #[t.ptr] w (gE (xI t.dm) w):=by
 cases t with
 |nil=>
  unfold Tr.ptr Tr.dm;go_enter func210,ntmps210;go_wp2;go_ret;exact⟨rfl,rfl⟩
 |node b p h' l r=>
  have hc:=(cB h.1).1.2.2.2.2.2.2.2;unfold Tr.ptr Tr.dm;clear h;go_enter func210,ntmps210;go_wp2;go_ret;exact⟨rfl,rfl⟩
def lF {p:ec}{l r:Tr}(w:World)(hb:w.heap[b]? =some (lQ 270 p l.ptr r.ptr h))(hl:xA 270 w l)(hr:xA 270 w r)(h1:l.dm<=1000)(h2:r.dm<=1000):
 xC 209 #[xP b] w λe w'=>e=xR (.tuple #[])/\ai (λk=>k=b) w w'/\w'.heap[b]? =some (lQ 270 p l.ptr r.ptr (1+max l.dm r.dm)):=by
 have HL:Hd (∀W,ai xF w W->_):=λW ho=>C9 l W (hl.only ho λ_ _ h=>h);have HR:Hd (∀W,ai xF w W->_):=λW ho=>C9 r W (hr.only ho λ_ _ h=>h);have HN:=af hb;obtain⟨⟨_,_,_,_,_,c5,c6,c7⟩,_,_,f7⟩:=cB hb;have hb:=(Qaa.1 hb).1;clear hl hr;obtain⟨x,hx⟩:=fx (l.dm);obtain⟨y,hy⟩:=fx (r.dm);rw[hx]at h1 HL⊢;rw[hy]at h2 HR⊢;clear hx hy;have hm:IntKind.i64.wrap (1+if x<y then(y:Int)else(x:Int))=((1+max x y:Nat):Int):=by split<;>(rw[Qbe _ (by omega)];omega)
 have HO:=af (ai.refl xF w).drew;have HS:Hd (∀v,(w.setCell ⟨b,7,none⟩ v).drew.cell? ⟨b,5,none⟩=some l.ptr/\(w.setCell ⟨b,7,none⟩ v).drew.cell? ⟨b,6,none⟩=some r.ptr):=af λv=>⟨(World.cell?_setCell_other _ _ _ _ (by simp)).trans c5,(World.cell?_setCell_other _ _ _ _ (by simp)).trans c6⟩;go_enter func209,ntmps209;go_region_held3(λw'=>w'.cell? ⟨b,5,none⟩=some l.ptr/\w'.cell? ⟨b,6,none⟩=some r.ptr)
  (first|with_reducible exact HS.o _|go_keep)
  (first|(go_at_call 210;refine(HL.o _ HO.o).mono ?_;rintro e w'⟨rfl,rfl⟩)|(go_at_call 210;refine(HR.o _ HO.o).mono ?_;rintro e w'⟨rfl,rfl⟩)|fail);all_goals go_wp2_with fail
 all_goals
  refine bodyPost_end (results_none rfl _ _ _) rfl ⟨rfl,((ai.refl (λk=>k=b) w).setCell (p:=⟨b,7,none⟩) (.inl rfl) _).drew,?_⟩;have hh:=Qo HN.o (1+max x y);rw[show((1+max x y:Nat):Int)=1+((max x y:Nat):Int)from by omega]at hh;exact hh
theorem Tr.eW(t:Tr):∃a,t.ptr= .pointer a:=by cases t<;>exact⟨_,rfl⟩
section
variable {b c:Nat}{p q:ec}{h h':Nat}
def zP {l rl rr:Tr}(w:aj)(n:oM 270 w b p h l (.node c q h' rl rr))(h1:l.dm<=900)(h2:rl.dm<=900)(h3:rr.dm<=900):
 xC 211 #[xP b] w λe w'=>e=xR (xP c)/\ai (λk=>k=b\/k=c) w w'/\fU 270 w' (Tr.mk c q (Tr.mk b p l rl) rr):=by
 have m:=n.right.n;have DB:b≠c:=λe=>n.notR (by rw[Tr.aV,e];simp);have cw:b∉rl.blocks:=λe=>n.notR (by rw[Tr.aV];simp[e]);have Cg:b∉rr.blocks:=λe=>n.notR (by rw[Tr.aV];simp[e]);have gw:c∉l.blocks:=λe=>n.apart c e (by rw[Tr.aV];simp);obtain⟨⟨_,_,_,_,_,b5,b6,b7⟩,_,f6,_⟩:=cB n.at_;obtain⟨⟨_,_,_,_,_,c5,c6,c7⟩,g5,_,_⟩:=cB m.at_;have aC:=vd n.at_ rl.ptr;have iB:=(Qag w ⟨b,6,none⟩ c rl.ptr (Ne.symm DB)).trans m.at_;have aY:=(Qag _ ⟨c,5,none⟩ b (xP b) DB).trans aC;have jh:=zO iB (xP b);have c5':(w.setCell ⟨b,6,none⟩ rl.ptr).cell? ⟨c,5,none⟩=some rl.ptr:=(cB iB).1.2.2.2.2.2.1;have g5':(w.setCell ⟨b,6,none⟩ rl.ptr).frozen? ⟨c,5,none⟩=false:=(cB iB).2.1;have o2:ai (λk=>k=b\/k=c) w ((w.setCell ⟨b,6,none⟩ rl.ptr).setCell ⟨c,5,none⟩ (xP b)):=((ai.refl (λk=>k=b\/k=c) w).setCell (p:=⟨b,6,none⟩) (.inl (.inl rfl)) _).setCell (p:=⟨c,5,none⟩) (.inl (.inr rfl)) _;have HN:=af n;obtain⟨ra,Ye⟩:=rl.eW;have Xq:=af Ye;rw[Ye]at c5 c5' g5' aC iB aY jh o2;unfold Tr.ptr at b6;clear n m Ye;obtain⟨W2,fT⟩:=cM ((w.setCell ⟨b,6,none⟩ (.pointer ra)).setCell ⟨c,5,none⟩ (xP b));have hzw:=fT;rw[<-fT]at aY jh o2;rw[<-Xq.o]at aY;have n:=HN.o;have m:=n.right.n;have tl:xA 270 W2 l:=n.left.rep.only o2 λk hk e=>e.elim (λe=>n.notL (e▸hk)) (λe=>gw (e▸hk));have trl:xA 270 W2 rl:=m.left.rep.only o2 λk hk e=>e.elim (λe=>cw (e▸hk)) (λe=>m.notL (e▸hk));have trr:xA 270 W2 rr:=m.right.rep.only o2 λk hk e=>e.elim (λe=>Cg (e▸hk)) (λe=>m.notR (e▸hk));have Ua:=(Qaa.1 jh).1;have NM:=af (lF (l:=l) (r:=rl) W2 aY tl trl (by omega) (by omega));have TS:Hd (∀W3,ai (λk=>k=b) W2 W3->cI W3 b (lQ 270 p l.ptr rl.ptr (1+max l.dm rl.dm))->_):=λW3 o3 b3=>
  lF (l:=Tr.mk b p l rl) (r:=rr) W3 ((o3.block c Ua (Ne.symm DB)).trans jh)
   ⟨b3,n.str,tl.only o3 λk hk e=>n.notL (e▸hk),trl.only o3 λk hk e=>cw (e▸hk)⟩ (trr.only o3 λk hk e=>Cg (e▸hk)) (by show 1+max l.dm rl.dm<=1000;omega) (by omega);have XU:Hd (b≠c):=DB;have ue:=af o2;have HBZ:=af (Qaa.1 aY).1;clear n m tl trl trr aC iB aY jh o2 cw Cg gw h1 h2 h3 Ua DB;unfold Tr.mk Tr.ptr Tr.dm at TS;go_enter func211,ntmps211;go_upto_region 3 with fail;rw[<-fT];clear fT hzw b5 b6 b7 f6 c5 c6 c7 g5 c5' g5';go_wp2_with fail;refine(NM.o).mono ?_;rintro e W3⟨rfl,o3,b3⟩;have HM3:=af (TS.o W3 o3 b3);have mC:=af o3;have bI:=af b3;clear o3 b3;go_wp2_with fail;refine(HM3.o).mono ?_;rintro e W4⟨rfl,o4,c4⟩;have A0:=af o4;have GS:=af c4;clear o4 c4;go_wp2;go_ret;have o:ai (λk=>k=b\/k=c) w W4:=(ue.o.trans (mC.o.mono λk hk=> .inl hk)).trans (A0.o.mono λk hk=> .inr hk);refine⟨rfl,o,HN.o.Z3 o ((A0.o.block b (Qde HBZ.o mC.o.size) XU.o).trans bI.o) GS.o⟩
def zQ {ll lr r:Tr}(w:aj)(n:oM 270 w b p h (.node c q h' ll lr) r)(h1:ll.dm<=900)(h2:lr.dm<=900)(h3:r.dm<=900):
 xC 212 #[xP b] w λe w'=>e=xR (xP c)/\ai (λk=>k=b\/k=c) w w'/\fU 270 w' (Tr.mk c q ll (Tr.mk b p lr r)):=by
 have m:=n.left.n;have DB:b≠c:=λe=>n.notL (by rw[Tr.aV,e];simp);have cw:b∉ll.blocks:=λe=>n.notL (by rw[Tr.aV];simp[e]);have Cg:b∉lr.blocks:=λe=>n.notL (by rw[Tr.aV];simp[e]);have gw:c∉r.blocks:=λe=>n.apart c (by rw[Tr.aV];simp) e;obtain⟨⟨_,_,_,_,_,b5,b6,b7⟩,f5,_,_⟩:=cB n.at_;obtain⟨⟨_,_,_,_,_,c5,c6,c7⟩,_,g6,_⟩:=cB m.at_;have aC:=zO n.at_ lr.ptr;have iB:=(Qag w ⟨b,5,none⟩ c lr.ptr (Ne.symm DB)).trans m.at_;have aY:=(Qag _ ⟨c,6,none⟩ b (xP b) DB).trans aC;have jh:=vd iB (xP b);have c6':(w.setCell ⟨b,5,none⟩ lr.ptr).cell? ⟨c,6,none⟩=some lr.ptr:=(cB iB).1.2.2.2.2.2.2.1;have g6':(w.setCell ⟨b,5,none⟩ lr.ptr).frozen? ⟨c,6,none⟩=false:=(cB iB).2.2.1;have o2:ai (λk=>k=b\/k=c) w ((w.setCell ⟨b,5,none⟩ lr.ptr).setCell ⟨c,6,none⟩ (xP b)):=((ai.refl (λk=>k=b\/k=c) w).setCell (p:=⟨b,5,none⟩) (.inl (.inl rfl)) _).setCell (p:=⟨c,6,none⟩) (.inl (.inr rfl)) _;have HN:=af n;obtain⟨ra,Ye⟩:=lr.eW;have Xq:=af Ye;rw[Ye]at c6 c6' g6' aC iB aY jh o2;unfold Tr.ptr at b5;clear n m Ye;obtain⟨W2,fT⟩:=cM ((w.setCell ⟨b,5,none⟩ (.pointer ra)).setCell ⟨c,6,none⟩ (xP b));have hzw:=fT;rw[<-fT]at aY jh o2;rw[<-Xq.o]at aY;have n:=HN.o;have m:=n.left.n;have tr_:xA 270 W2 r:=n.right.rep.only o2 λk hk e=>e.elim (λe=>n.notR (e▸hk)) (λe=>gw (e▸hk));have tll:xA 270 W2 ll:=m.left.rep.only o2 λk hk e=>e.elim (λe=>cw (e▸hk)) (λe=>m.notL (e▸hk));have tlr:xA 270 W2 lr:=m.right.rep.only o2 λk hk e=>e.elim (λe=>Cg (e▸hk)) (λe=>m.notR (e▸hk));have Ua:=(Qaa.1 jh).1;have NM:=af (lF (l:=lr) (r:=r) W2 aY tlr tr_ (by omega) (by omega));have TS:Hd (∀W3,ai (λk=>k=b) W2 W3->cI W3 b (lQ 270 p lr.ptr r.ptr (1+max lr.dm r.dm))->_):=λW3 o3 b3=>
  lF (l:=ll) (r:=Tr.mk b p lr r) W3 ((o3.block c Ua (Ne.symm DB)).trans jh) (tll.only o3 λk hk e=>cw (e▸hk))
   ⟨b3,n.str,tlr.only o3 λk hk e=>Cg (e▸hk),tr_.only o3 λk hk e=>n.notR (e▸hk)⟩ (by omega) (by show 1+max lr.dm r.dm<=1000;omega);have XU:Hd (b≠c):=DB;have ue:=af o2;have HBZ:=af (Qaa.1 aY).1;clear n m tr_ tll tlr aC iB aY jh o2 cw Cg gw h1 h2 h3 Ua DB;unfold Tr.mk Tr.ptr Tr.dm at TS;go_enter func212,ntmps212;go_upto_region 3 with fail;rw[<-fT];clear fT hzw b5 b6 b7 f5 c5 c6 c7 g6 c6' g6';go_wp2_with fail;refine(NM.o).mono ?_;rintro e W3⟨rfl,o3,b3⟩;have HM3:=af (TS.o W3 o3 b3);have mC:=af o3;have bI:=af b3;clear o3 b3;go_wp2_with fail;refine(HM3.o).mono ?_;rintro e W4⟨rfl,o4,c4⟩;have A0:=af o4;have GS:=af c4;clear o4 c4;go_wp2;go_ret;have o:ai (λk=>k=b\/k=c) w W4:=(ue.o.trans (mC.o.mono λk hk=> .inl hk)).trans (A0.o.mono λk hk=> .inr hk);refine⟨rfl,o,HN.o.Z4 o ((A0.o.block b (Qde HBZ.o mC.o.size) XU.o).trans bI.o) GS.o⟩
end
section
variable {T:TypeId}{w W:aj}{S:aS}{b:Nat}{p:ec}{h:Nat}{l r l' r':Tr}
theorem oM.KX(n:oM T w b p h l r)(o:ai S w W)(hS:∀k,S k->k∈l.blocks)(hl:fU T W l')(hp:∀k∈l'.blocks,k∈l.blocks\/w.heap.size<=k):oM T (W.setCell ⟨b,5,none⟩ l'.ptr) b p h l' r:=by
 have hbz:=(Qaa.1 n.at_).1;have hb:=zO ((o.block b hbz λhs=>n.notL (hS b hs)).trans n.at_) l'.ptr;have ob:ai (λk=>k=b) W (W.setCell ⟨b,5,none⟩ l'.ptr):=(ai.refl (λk=>k=b) W).setCell (p:=⟨b,5,none⟩) (.inl rfl) _;have cw:b∉l'.blocks:=λhk=>(hp b hk).elim n.notL λhz=>by omega
 refine⟨hb,n.str,hl.only ob λk hk e=>cw (e▸hk),(n.right.only o λk hk hs=>n.apart k (hS k hs) hk).only ob λk hk e=>n.notR (e▸hk),cw,n.notR,λk k1 k2=> ?_⟩;rcases hp k k1 with hk|hk
 .exact n.apart k hk k2
 .have:=n.right.rep.lt k k2;omega
theorem oM.F8(n:oM T w b p h l r)(o:ai S w W)(hS:∀k,S k->k∈r.blocks)(hr:fU T W r')(hp:∀k∈r'.blocks,k∈r.blocks\/w.heap.size<=k):oM T (W.setCell ⟨b,6,none⟩ r'.ptr) b p h l r':=by
 have hbz:=(Qaa.1 n.at_).1;have hb:=vd ((o.block b hbz λhs=>n.notR (hS b hs)).trans n.at_) r'.ptr;have ob:ai (λk=>k=b) W (W.setCell ⟨b,6,none⟩ r'.ptr):=(ai.refl (λk=>k=b) W).setCell (p:=⟨b,6,none⟩) (.inl rfl) _;have Cg:b∉r'.blocks:=λhk=>(hp b hk).elim n.notR λhz=>by omega
 refine⟨hb,n.str,(n.left.only o λk hk hs=>n.apart k hk (hS k hs)).only ob λk hk e=>n.notL (e▸hk),hr.only ob λk hk e=>Cg (e▸hk),n.notL,Cg,λk k1 k2=> ?_⟩;rcases hp k k2 with hk|hk
 .exact n.apart k k1 hk
 .have:=n.left.rep.lt k k1;omega
end
theorem oM.drewN {T:TypeId}{w:aj}{b:Nat}{p:ec}{h:Nat}{l r:Tr}(n:oM T w b p h l r)(k:Nat):oM T (w.drewN k) b p h l r:=
 have o:=(ai.refl xF w).drewN k
 ⟨n.at_,n.str,n.left.only o λ_ _ h=>h,n.right.only o λ_ _ h=>h,n.notL,n.notR,n.apart⟩
def M8 {b:Nat}{p:ec}{h:Nat}{l l' r:Tr}(hp:l'.cells.Perm l.cells):(Tr.node b p h l' r).cells.Perm (Tr.node b p h' l r).cells:=by
 simp only[Tr.cells];exact(hp.append_right _).cons _
def Jw {b:Nat}{p:ec}{h:Nat}{l r r':Tr}(hp:r'.cells.Perm r.cells):(Tr.node b p h l r').cells.Perm (Tr.node b p h' l r).cells:=by
 simp only[Tr.cells];exact(hp.append_left _).cons _
def wu {t t':Tr}(h:t'.cells.Perm t.cells):k∈t'.blocks↔k∈t.blocks:=(h.map Prod.fst).mem_iff
def Bal(T:TypeId)(w:aj)(t:Tr)(e:Ending)(w':aj):Prop:=∃t',e=xR t'.ptr/\fU T w' t'/\t'.cells.Perm t.cells/\ai (λk=>k∈t.blocks) w w'
def B7 {T:TypeId}(t:Tr)(w:aj)(h:xA T w t)(n:Nat):xC 210 #[t.ptr] (w.drewN n) λe w'=>e=xR (xI t.dm)/\∃m,w'=w.drewN m:=
 Calls.quiet_of_same ((C9 t (w.drewN n) (h.only ((ai.refl xF w).drewN n) λ_ _ h=>h)).mono λ_ _ h=>⟨h.1,h.2.symm⟩)
def Jy {b:Nat}{p:ec}{h:Nat}{l r:Tr}(w:aj)(n:oM 270 w b p h l r)(h1:l.cells.length<=400)(h2:r.cells.length<=400):
 xC 189 #[xP b] w (Bal 270 w (.node b p h l r)):=by
 have vi:=Tr.oL n.left.ht;have se:=Tr.oL n.right.ht;have HM:=af (lF w n.at_ n.left.rep n.right.rep (by omega) (by omega));have HN:=af n;clear n;go_enter func189,ntmps189;go_wp2_with fail;refine(HM.o).mono ?_;rintro e W⟨rfl,o1,b1⟩;have rU:=af (HN.o.Qn o1 b1);have oP:=af o1;obtain⟨⟨_,_,_,_,_,c5,c6,c7⟩,_,_,_⟩:=cB b1;clear o1 b1 HM;have xM:Hd (∀n:Nat,_):=λn=>B7 l W rU.o.left.rep n;have Lm:Hd (∀n:Nat,_):=λn=>B7 r W rU.o.right.rep n;obtain⟨x,hx⟩:=fx (l.dm);obtain⟨y,hy⟩:=fx (r.dm);rw[hx]at xM vi;rw[hy]at Lm se;have HX:=af hx;have HY:=af hy;clear hx hy;obtain⟨lp,Sw⟩:=l.eW;obtain⟨rp,Sx⟩:=r.eW;rw[Sw]at xM c5;rw[Sx]at Lm c6;have hm:IntKind.i64.wrap ((x:Int)-(y:Int))=(x:Int)-(y:Int):=Qbe _ (by omega);go_wp2_with fail;go_quiet((go_at_call 210;(with_reducible first|exact xM.o _|exact Lm.o _)));obtain⟨W1,dS⟩:=cM (W.drewN nq);have qz:=af (show oM 270 W1 b p (1+max l.dm r.dm) l r by rw[dS];exact rU.o.drewN nq);have ue:=af (show ai (λk=>k∈(Tr.node b p h l r).blocks) w W1 by rw[dS];exact(oP.o.drewN nq).mono λk hk=>by rw[Tr.aV,hk];simp);rw[<-dS];clear rU oP c5 c6 c7 xM Lm dS;obtain⟨⟨_,_,_,_,_,c5,c6,c7⟩,_,f5,f6⟩:=cB qz.o.at_;rw[Sw]at c5;rw[Sx]at c6;have ery:r.dm<=400:=by have:=HY.o;omega
 have elx:l.dm<=400:=by have:=HX.o;omega
 by_cases hA:y+1<x
 .have hA':(1:Int)<(x:Int)-(y:Int):=by omega
  cases l with
  |nil=>exfalso;have:=HX.o;simp[Tr.dm]at this;omega
  |node c q h' ll lr=>
   obtain rfl:some ⟨c,0,none⟩=lp:=by simpa [Tr.ptr]using Sw
   have m:=qz.o.left.n;obtain⟨⟨_,_,_,_,_,d5,d6,d7⟩,_,_,_⟩:=cB m.at_;obtain⟨llp,JX⟩:=ll.eW;obtain⟨lrp,Ux⟩:=lr.eW;have xM:Hd (∀n:Nat,_):=λn=>B7 ll W1 m.left.rep n;have Lm:Hd (∀n:Nat,_):=λn=>B7 lr W1 m.right.rep n;rw[JX]at xM d5;rw[Ux]at Lm d6;generalize Ad:ll.dm=xl at xM;generalize hxr:lr.dm=xr at Lm;clear m hA;go_wp2_with fail;go_quiet((go_at_call 210;(with_reducible first|exact xM.o _|exact Lm.o _)));obtain⟨W2,fT⟩:=cM (W1.drewN nq);have Sf:=af (show oM 270 W2 b p (1+max (Tr.node c q h' ll lr).dm r.dm) (.node c q h' ll lr) r by rw[fT];exact qz.o.drewN nq);have mC:=af (show ai (λk=>k∈(Tr.node b p h (.node c q h' ll lr) r).blocks) w W2 by rw[fT];exact ue.o.drewN nq);rw[<-fT];clear qz ue c5 c6 c7 f5 f6 d5 d6 d7 xM Lm fT;have n:=Sf.o;have m:=n.left.n;have hm:=n.left.ht;obtain⟨⟨_,_,_,_,_,c5,c6,c7⟩,_,f5,f6⟩:=cB n.at_;have AW:ll.cells.length+lr.cells.length+1<=400:=by simp[Tr.cells]at h1;omega
   have e1:=Tr.oL hm.2.2.1;have e2:=Tr.oL hm.2.2.2;by_cases aX:xl<xr
   .cases lr with
    |nil=>exfalso;simp[Tr.dm]at hxr;omega
    |node d s h2' lrl lrr=>
     have m2:=m.right.n;have e3:=Tr.oL m2.left.ht;have e4:=Tr.oL m2.right.ht;have qfn:lrl.cells.length+lrr.cells.length+1<=400:=by simp[Tr.cells]at AW;omega
     have rA:=af (zP W2 m (by omega) (by omega) (by omega));have Nz:b≠d:=λe=>n.notL (by simp[Tr.blocks,Tr.cells,e]);have DB:b≠c:=λe=>n.notL (by simp[Tr.blocks,Tr.cells,e]);have AY:Hd (∀W3,ai (λk=>k=c\/k=d) W2 W3->fU 270 W3 (Tr.mk d s (Tr.mk c q ll lrl) lrr)->_):=λW3 o3 t3=>
      zQ (W3.setCell ⟨b,5,none⟩ (xP d)) (n.KX (l':=Tr.mk d s (Tr.mk c q ll lrl) lrr) o3 (λk hk=>by rcases hk with rfl|rfl<;>simp[Tr.blocks,Tr.cells]) t3 (λk hk=> .inl ((wu nY).1 hk))) (by show 1+max ll.dm lrl.dm<=900;omega) (by omega) (by omega);have HB:Hd (∀W3,ai (λk=>k=c\/k=d) W2 W3->_):=λW3 o3=>(o3.block b (Qaa.1 n.at_).1 (λh=>h.elim DB Nz)).trans n.at_;clear n m m2 hm;go_wp2_with fail;refine(rA.o).mono ?_;rintro e W3⟨rfl,o3,t3⟩;have HC3:=af (AY.o W3 o3 t3);have bG:=HB.o W3 o3;have A0:=af o3;have HT3:=af t3;obtain⟨⟨_,_,_,_,_,g5,_,_⟩,gf,_,_⟩:=cB bG;clear o3 t3 bG c5 c6 c7 f5 f6;go_wp2_with fail;refine(HC3.o).mono ?_;rintro e W5⟨rfl,o5,t5⟩;have Ca:=af o5;have Yf:=af t5;clear o5 t5;go_wp2;go_ret;refine⟨_,rfl,Yf.o,nZ.trans (M8 (h:=h) nY),?_⟩;refine((mC.o.trans (A0.o.mono λk hk=> ?_)).setCell (p:=⟨b,5,none⟩) (.inl (by simp[Tr.blocks,Tr.cells])) _).trans (Ca.o.mono λk hk=> ?_)
     .rcases hk with rfl|rfl<;>simp[Tr.blocks,Tr.cells]
     .rcases hk with rfl|rfl<;>simp[Tr.blocks,Tr.cells]
   .have rA:=af (zQ W2 n (by omega) (by omega) (by omega));clear n m hm;go_wp2_with fail;refine(rA.o).mono ?_;rintro e W5⟨rfl,o5,t5⟩;have Ca:=af o5;have Yf:=af t5;clear o5 t5;go_wp2;go_ret;refine⟨_,rfl,Yf.o,nZ,mC.o.trans (Ca.o.mono λk hk=> ?_)⟩;rcases hk with rfl|rfl<;>simp[Tr.blocks,Tr.cells]
 .by_cases hB:x+1<y
  .have hB':(x:Int)-(y:Int)< -1:=by omega
   have hA':¬(1:Int)<(x:Int)-(y:Int):=by omega
   cases r with
   |nil=>exfalso;have:=HY.o;simp[Tr.dm]at this;omega
   |node c q h' rl rr=>
    obtain rfl:some ⟨c,0,none⟩=rp:=by simpa [Tr.ptr]using Sx
    have m:=qz.o.right.n;obtain⟨⟨_,_,_,_,_,d5,d6,d7⟩,_,_,_⟩:=cB m.at_;obtain⟨llp,JX⟩:=rr.eW;obtain⟨lrp,Ux⟩:=rl.eW;have xM:Hd (∀n:Nat,_):=λn=>B7 rr W1 m.right.rep n;have Lm:Hd (∀n:Nat,_):=λn=>B7 rl W1 m.left.rep n;rw[JX]at xM d6;rw[Ux]at Lm d5;generalize Ad:rr.dm=xl at xM;generalize hxr:rl.dm=xr at Lm;clear m hA hB;go_wp2_with fail;go_quiet((go_at_call 210;(with_reducible first|exact xM.o _|exact Lm.o _)));obtain⟨W2,fT⟩:=cM (W1.drewN nq);have Sf:=af (show oM 270 W2 b p (1+max l.dm (Tr.node c q h' rl rr).dm) l (.node c q h' rl rr)by rw[fT];exact qz.o.drewN nq);have mC:=af (show ai (λk=>k∈(Tr.node b p h l (.node c q h' rl rr)).blocks) w W2 by rw[fT];exact ue.o.drewN nq);rw[<-fT];clear qz ue c5 c6 c7 f5 f6 d5 d6 d7 xM Lm fT;have n:=Sf.o;have m:=n.right.n;have hm:=n.right.ht;obtain⟨⟨_,_,_,_,_,c5,c6,c7⟩,_,f5,f6⟩:=cB n.at_;have AW:rl.cells.length+rr.cells.length+1<=400:=by simp[Tr.cells]at h2;omega
    have e1:=Tr.oL hm.2.2.1;have e2:=Tr.oL hm.2.2.2;by_cases aX:xl<xr
    .cases rl with
     |nil=>exfalso;simp[Tr.dm]at hxr;omega
     |node d s h2' rll rlr=>
      have m2:=m.left.n;have e3:=Tr.oL m2.left.ht;have e4:=Tr.oL m2.right.ht;have qfn:rll.cells.length+rlr.cells.length+1<=400:=by simp[Tr.cells]at AW;omega
      have rA:=af (zQ W2 m (by omega) (by omega) (by omega));have Nz:b≠d:=λe=>n.notR (by simp[Tr.blocks,Tr.cells,e]);have DB:b≠c:=λe=>n.notR (by simp[Tr.blocks,Tr.cells,e]);have AY:Hd (∀W3,ai (λk=>k=c\/k=d) W2 W3->fU 270 W3 (Tr.mk d s rll (Tr.mk c q rlr rr))->_):=λW3 o3 t3=>
       zP (W3.setCell ⟨b,6,none⟩ (xP d)) (n.F8 (r':=Tr.mk d s rll (Tr.mk c q rlr rr)) o3 (λk hk=>by rcases hk with rfl|rfl<;>simp[Tr.blocks,Tr.cells]) t3 (λk hk=> .inl ((wu nZ).1 hk))) (by omega) (by omega) (by show 1+max rlr.dm rr.dm<=900;omega);have HB:Hd (∀W3,ai (λk=>k=c\/k=d) W2 W3->_):=λW3 o3=>(o3.block b (Qaa.1 n.at_).1 (λh=>h.elim DB Nz)).trans n.at_;clear n m m2 hm;go_wp2_with fail;refine(rA.o).mono ?_;rintro e W3⟨rfl,o3,t3⟩;have HC3:=af (AY.o W3 o3 t3);have bG:=HB.o W3 o3;have A0:=af o3;have HT3:=af t3;obtain⟨⟨_,_,_,_,_,_,g6,_⟩,_,gf,_⟩:=cB bG;clear o3 t3 bG c5 c6 c7 f5 f6;go_wp2_with fail;refine(HC3.o).mono ?_;rintro e W5⟨rfl,o5,t5⟩;have Ca:=af o5;have Yf:=af t5;clear o5 t5;go_wp2;go_ret;refine⟨_,rfl,Yf.o,nY.trans (Jw (h:=h) nZ),?_⟩;refine((mC.o.trans (A0.o.mono λk hk=> ?_)).setCell (p:=⟨b,6,none⟩) (.inl (by simp[Tr.blocks,Tr.cells])) _).trans (Ca.o.mono λk hk=> ?_)
      .rcases hk with rfl|rfl<;>simp[Tr.blocks,Tr.cells]
      .rcases hk with rfl|rfl<;>simp[Tr.blocks,Tr.cells]
    .have rA:=af (zP W2 n (by omega) (by omega) (by omega));clear n m hm;go_wp2_with fail;refine(rA.o).mono ?_;rintro e W5⟨rfl,o5,t5⟩;have Ca:=af o5;have Yf:=af t5;clear o5 t5;go_wp2;go_ret;refine⟨_,rfl,Yf.o,nY,mC.o.trans (Ca.o.mono λk hk=> ?_)⟩;rcases hk with rfl|rfl<;>simp[Tr.blocks,Tr.cells]
  .have hA':¬(1:Int)<(x:Int)-(y:Int):=by omega
   have hB':¬(x:Int)-(y:Int)< -1:=by omega
   have n:=qz.o;go_wp2;go_ret;exact⟨Tr.mk b p l r,rfl,n.ok,List.Perm.refl _,ue.o⟩
end Go.Proofs.YtccpcfcochffcaaGreatDoor
