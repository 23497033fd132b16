/- A part; no condition. -/
import Derived.Test.YtpjdjlnknfmfkaaGreatDoorM05
import Derived.Test.YtpjdjlnknfmfkaaGreatDoorM06
import Derived.LoopIn
import Derived.OwnWalkIn
set_option linter.all false
set_option maxHeartbeats 8000000
set_option maxRecDepth 100000
namespace Go.Proofs.YtpjdjlnknfmfkaaGreatDoor
open Tryz
variable{s:bS}{i p clk b cap j R bm yc base B g k:Nat}{w0 w A w' w3 W' w1 wr w2 W2 W:bq}{M M' F N:bY}{v lv a0 a1 a2 a3 v0 v1 v2 v3 c0:bt}{a ya:fM}{sz:Int}{o:Obj}{t e:TypeId}{vs:List bE}{c:bI}
section
open Go.RowKit Go.Shelf
attribute [local go_sem]Oper.semAt_some
def mM(s:bS)(a:Nat)(ts:List Tok):Prop:=∃f,fN f (s.data.toList.drop a) a=some ts
def mM.space {a:Nat}{ts:List Tok}(h:mM s a ts)(ha:a<s.size)(hc:(s[a]'ha).toNat=32):mM s (a+1) ts:=by
 obtain⟨f,hf⟩:=h;have hl:s.data.toList.drop a=s[a]'ha::s.data.toList.drop (a+1):=by
  rw[List.drop_eq_getElem_cons (by rw[cH];exact ha)];rfl
 rw[hl]at hf;cases f with
 |zero=>simp[fN]at hf
 |succ f=>
  unfold fN at hf;rw[if_pos (by rw[<-UInt8.toNat_inj];simpa using hc)]at hf;exact⟨f,hf⟩
def mM.end_ {ts:List Tok}(h:mM s s.size ts):ts=[]:=by
 obtain⟨f,hf⟩:=h;rw[List.drop_of_length_le (by rw[cH];exact cN)]at hf;cases f<;>simp[fN]at hf<;>exact hf
def mM.next {a:Nat}{ts:List Tok}(h:mM s a ts)(ha:a<s.size)(hc:(s[a]'ha).toNat≠32):∃kd n str size ts',ts=⟨kd,n,str,a⟩::ts'/\sd (s.data.toList.drop a)=some ((kd,n,str),size)/\mM s (a+size) ts':=by
 obtain⟨f,hf⟩:=h;have hl:s.data.toList.drop a=s[a]'ha::s.data.toList.drop (a+1):=by
  rw[List.drop_eq_getElem_cons (by rw[cH];exact ha)];rfl
 rw[hl]at hf;cases f with
 |zero=>simp[fN]at hf
 |succ f=>
  unfold fN at hf;rw[if_neg (by intro e;apply hc;rw[e];rfl),<-hl]at hf;split at hf
  .cases hf
  rename_i kd n str size hx;split at hf
  .cases hf
  rw[Option.map_eq_some_iff]at hf;obtain⟨ts',h1,h2⟩:=hf;refine⟨kd,n,str,size,ts',h2.symm,hx,f,?_⟩;rw[List.drop_drop]at h1;exact h1
def OZ {T rest:List Tok}(h:T=T.take i++rest)(hi:i<=T.length)(hr:rest=[]):i=T.length:=by
 subst hr;have:=congrArg List.length h;simp at this;omega
def LQ {T rest ts':List Tok}{t:Tok}(h:T=T.take i++rest)(hi:i<=T.length)(hr:rest=t::ts'):T[i]? =some t/\T=T.take (i+1)++ts'/\i+1<=T.length:=by
 subst hr;have hl:(T.take i).length=i:=by rw[aK];omega
 have h1:T[i]? =some t:=by
  rw[h,au (by omega),hl];simp
 refine⟨h1,?_,(ag.1 h1).1⟩;rw[ao,h1,List.append_assoc];exact h
def Hv(T:List Tok)(i:Nat)(args:Array bt)(j:Nat)(_:bq):Prop:=∃t,T[i]? =some t/\args= #[lu t.bg t.n (bL t.s) t.at_]/\j=i+1/\t.bg≠0
structure D8(s:bS)(p:Nat)(w0 w A:bq):Prop where
 aT:bC w0 A
 cell:A.cell? (p,0)=some (xS s)
 size:w.heap.size+2<=A
def D8.round {B:bq}{C:bY}(h:D8 s p w0 w A)(ho:bh (rdS C w 0) A B)(hC:∀i,C i->w0.heap.size<=i)(hw:w0.heap.size<=w)(hp:p<w)(hCp:¬C p):D8 s p w0 w B:=
 ⟨DM h.aT ho hC hw,(ho.cell (p:=⟨p,0,none⟩) (by have:=h.size;show p<_;omega) (by rintro((h|h)|h);exact hCp h;(have:_<=p:=h;omega);(have:p=_:=h;omega))).trans h.cell,aH h.size ho.size⟩
def D8.own {B:bq}(h:D8 s p w0 w A)(hb:bC A B)(hw:w0.heap.size<=w)(hp:p<w):D8 s p w0 w B:=
 ⟨h.aT.trans (hb.mono (by have:=h.size;omega)),(hb.cell (p:=⟨p,0,none⟩) (by have:=h.size;show p<_;omega)).trans h.cell,aH h.size hb.size⟩
def AL(s:bS)(a:Nat)(ha:a<=s.size):(s.extract a s.size).data.toList=s.data.toList.drop a/\(s.extract a s.size).size=s.size-a:=by
 have h1:(s.extract a s.size).data.toList=s.data.toList.drop a:=by
  rw[Lib.extract_data,ak];rw[List.length_drop,cH];exact cN
 exact⟨h1,by rw[<-cH,h1,List.length_drop,cH]⟩
def Hw(s:bS)(hs:s.size<=200)(T:List Tok)(hT:mM s 0 T)(p:Nat)(w0 w:bq)(hw:bC w0 w)(hT0:Tb w0)(hp:cC w p 0 s)(iJ:p<w)(C:bY)(hCp:¬C p)(hC:∀i,C i->w0.heap.size<=i):
 Hi prog 345 #[xP p] w C 0 0 (Hv T) (λi=>i=T.length):=by
 intro J Jx W hz hb hJ UC hY h0;have HJ:=aV hJ;have HJX:=aV UC;have HY:=aV hY;have CU:=hw.size;have HP0:Hd (D8 s p w0 w W):=⟨hw.trans (hb.mono CU),(hb.cell (p:=⟨p,0,none⟩) iJ).trans hp,by omega⟩;have QO:Hd (∀a A kd n str size,a<=s.size->sd (s.data.toList.drop a)=some ((kd,n,str),size)->bC w0 A->(xC 346 #[xS (s.extract a s.size)] A (di (.tuple #[lu kd n (bL str) 0,xI (size:Int)]) A))/\0<size/\size<=s.size-a/\1<=kd):=λa A kd n str size ha hx hb=>by
  have⟨e1,e2⟩:=AL s a ha;rw[<-e1]at hx;have h:=OY (s.extract a s.size) (by omega) kd n str size hx A (hT0.aT hb);rw[e2]at h;exact h
 have Wx:=aV hT;have TB:=aV h0;clear hJ UC hY hT h0 hT0 hp hz hb;refine callsIn_of_wp func345 rfl trivial ?_ rfl;simp only[ntmps345,List.size_toArray,aC,aD,Nat.reduceAdd,Nat.reduceSub,Array.replicate_succ,Array.replicate_zero,List.push_toArray,List.append_toArray,List.nil_append,List.cons_append];gi_wp2_with fail;gi_loopw [3,4,5](λk _ _ wr=>∃(a i:Nat)(rest:List Tok),k=xI a/\a<=s.size/\Hd (mM s a rest)/\Hd (T=T.take i++rest/\i<=T.length)/\Hd (J i wr)/\Hd (D8 s p w0 w wr))(λk _ _ _=>s.size-(intOf k).toNat)
 .exact⟨0,0,T,rfl,ax _,Wx,(show _/\_ from⟨by simp,ax _⟩),TB,HP0⟩
 obtain⟨a,i,rest,rfl,ha,HL,HI,Rb,HP⟩:=hrel;have c0:=HP.o.cell;gi_wp2_with fail;gi_loop [3](λk=>∃b:Nat,k=xI b/\a<=b/\b<=s.size/\Hd (mM s b rest))(λk=>s.size-(intOf k).toNat);exact⟨a,rfl,cN,ha,HL⟩;obtain⟨b,rfl,hab,hbs,HLB⟩:=hrel;by_cases cE:b<s.size
 .have⟨d,hd⟩:=js (((s[b]'cE).toNat:Int));have q1:∀h,((s[b]'h).toNat:Int)=d:=λ_=>hd;by_cases RR:d=32
  .have e32:(d==32)=true:=by simpa using RR
   have pA:Hd (mM s (b+1) rest):=HLB.o.space cE (by omega);clear hd RR;gi_wp2_with fail;go_round;exact⟨b+1,by go_num,by omega,by omega,pA⟩;simp[intOf];omega
  have e32:(d==32)=false:=by simpa using RR
  have⟨kd,n,str,size,ts',hts,hx,hl2⟩:=HLB.o.next cE (by omega);have⟨hcall,hs0,hs1,hkd⟩:=QO.o b wr kd n str size hbs hx HP.o.aT;have cI:=aV hcall;have pA:=aV hl2;have Ac:=aV hts;have hbz:((b:Int)==(s.size:Int))=false:=by simp;omega
  clear hcall hl2 hts hx hd RR;gi_wp2_with fail;refine⟨trivial,rfl,(callsIn_wide.2 cI.o).mono ?_⟩;rintro e w1⟨rfl,hb1⟩;have cu:Hd (bC wr (w1.alloc (xK #[kd,n,bL str,b] 396))):=hb1.alloc hb1.size _;clear hb1;have⟨ht1,ht2,ht3⟩:=LQ HI.o.1 HI.o.2 Ac.o;have⟨fn,tmps,assign,body,hy,hR⟩:=HY.o i #[lu kd n (bL str) b] (i+1) _ (HJ.o i wr _ Rb.o (bh.bA cu.o)) ⟨_,ht1,rfl,rfl,by show kd≠0;omega⟩;have HR:=aV hR;have ni:Hd (T=T.take (i+1)++ts'/\i+1<=T.length):=⟨ht2,ht3⟩;have Np:=aV (HP.o.own cu.o CU iJ);clear hR ht1 ht2 ht3 c0 q1;unfold lu at hy⊢;gi_wp2_with fail;refine⟨rfl,HR.o.mono ?_⟩;rintro e W3(⟨rfl,WR,BD⟩|⟨rfl,JB⟩)
  .have UD:=aV WR;have RO:=aV (Np.o.round BD hC CU iJ hCp);have qgp:((size:Int)==0)=false:=by simp;omega
   clear WR BD hy;gi_wp2_with fail;go_roundw;exact⟨b+size,i+1,ts',by go_num,by omega,pA,ni,UD,RO⟩;simp[intOf];omega
  have Rc:=aV JB;clear JB hy;gi_wp2_with fail;refine ah (results_none rfl _ _ _) rfl ?_;exact⟨⟨_,rfl⟩, .inr Rc.o⟩
 obtain rfl:b=s.size:=by omega
 have KK:rest=[]:=HLB.o.end_;have HE:Hd (i=T.length):=OZ HI.o.1 HI.o.2 KK;clear KK;gi_wp2_with fail;refine ah (results_none rfl _ _ _) rfl ?_;exact⟨⟨_,rfl⟩, .inl (by first|exact⟨i,HE.o,Rb.o⟩|(rw[<-HE.o];exact Rb.o))⟩
end
section
open Go.RowKit
def pW:List (bS×bt×Nat):=[(⟨#[42]⟩,xI 4,0),(⟨#[47]⟩,xI 4,1),(⟨#[37]⟩,xI 4,2),(⟨#[43]⟩,xI 3,3),(⟨#[45]⟩,xI 3,4),(⟨#[38]⟩,xI 2,5),(⟨#[61]⟩,xI 1,6),(⟨#[60,62]⟩,xI 1,7),(⟨#[60]⟩,xI 1,8),(⟨#[60,61]⟩,xI 1,9),(⟨#[62]⟩,xI 1,10),(⟨#[62,61]⟩,xI 1,11)]
abbrev fW:bS->bt:=λs=>xS s
def fX(w:bq)(b:Nat):Prop:=cO fW w b pW 12
def jo(e:Bool)(x:bS)(w:bq):(Instr.checkKey e 10000 9 x).run prog w= .ok () w:=by
 show(Instr.checkKey e (9999+1) 9 x).run prog w= .ok () w;rw[Instr.checkKey];simp only[Sem.run_bind,run_underlying underlying9,Result.andThen_ok];rfl
def fJ(t:TypeId)(w:bq):(Instr.makeMap t none).run prog w= .ok (.map (some w.heap.size)) (w.alloc (.map #[] 0)):=by
 exact run_makeMap ..
def fq {es:List (bS×bt×Nat)}(h:cO fW w b es clk)(x:bS)(v:bt)(hv:cB es x=none):∃w',(Instr.mapUpdate 115 (.map (some b)) x v).run prog w= .ok () w'/\cO fW w' b (es++[(x,v,clk)]) (clk+1)/\bh (λi=>i=b) w w':=by
 have⟨h1,h2⟩:=cO.insert fW .string l6 (P:=prog) underlying115 underlying9 jo h x v hv;exact⟨_,h1,h2,(bh.refl (λi=>i=b) w).putObj (.inl rfl) _⟩
def vj(w:bq):xC 301 #[] w λe w'=>∃b,e=xR (.map (some b))/\fX w' b/\w.heap.size<=b/\bC w w':=by
 have h0:cO fW (w.alloc (.map #[] 0)) w [] 0:=(MapKept.heap_alloc w _).1;have⟨w1,e1,h1,o1⟩:=fq h0 ⟨#[42]⟩ (xI 4) (by decide);have⟨w2,e2,h2,o2⟩:=fq h1 ⟨#[47]⟩ (xI 4) (by decide);have⟨w3,e3,h3,o3⟩:=fq h2 ⟨#[37]⟩ (xI 4) (by decide);have⟨w4,e4,h4,o4⟩:=fq h3 ⟨#[43]⟩ (xI 3) (by decide);have⟨w5,e5,h5,o5⟩:=fq h4 ⟨#[45]⟩ (xI 3) (by decide);have⟨w6,e6,h6,o6⟩:=fq h5 ⟨#[38]⟩ (xI 2) (by decide);have⟨w7,e7,h7,o7⟩:=fq h6 ⟨#[61]⟩ (xI 1) (by decide);have⟨w8,e8,h8,o8⟩:=fq h7 ⟨#[60,62]⟩ (xI 1) (by decide);have⟨w9,e9,h9,o9⟩:=fq h8 ⟨#[60]⟩ (xI 1) (by decide);have⟨w10,e10,h10,o10⟩:=fq h9 ⟨#[60,61]⟩ (xI 1) (by decide);have⟨w11,e11,h11,o11⟩:=fq h10 ⟨#[62]⟩ (xI 1) (by decide);have⟨w12,e12,h12,o12⟩:=fq h11 ⟨#[62,61]⟩ (xI 1) (by decide);have HO:Hd (bC w w12):=((((bh.refl xF w).alloc _).dL (((((((((((o1.trans o2).trans o3).trans o4).trans o5).trans o6).trans o7).trans o8).trans o9).trans o10).trans o11).trans o12) (λi hi cE=>by subst hi;omega)).aT);have HM:Hd (fX w12 w):=h12;have hmk:=fJ 115 w;delta xC;go_in;go_wp2;go_ret;exact⟨_,rfl,HM.o,cN,HO.o⟩
def L0(c:UInt8)(hc:c∈eQ)(h:0<dy [c]):cB pW ⟨#[c]⟩=some (xI (dy [c]:Int)):=by
 simp only[eQ,aO,List.not_mem_nil,or_false]at hc;rcases hc with rfl|rfl|rfl|rfl|rfl|rfl|rfl|rfl|rfl|rfl|rfl;all_goals first|rfl|exact absurd h (by decide)
def yj(h:fX w b)(c:UInt8)(hc:c∈eQ)(h0:0<dy [c]):(Instr.lookup 115 (.map (some b)) (xS ⟨#[c]⟩) false).run prog w= .ok (xI (dy [c]:Int)) w:=
 cO.lookup fW .string l6 (P:=prog) underlying115 underlying9 jo h ⟨#[c]⟩ _ (L0 c hc h0)
def Ua(b:Nat)(n:Int):Obj:=xK #[.map (some b),n] 423
def fX.aT(h:fX w b)(k:bC w w'):fX w' b:=(k.block b (ab.1 h).1).trans h
def fX.only {S:bY}(h:fX w b)(k:bh S w w')(hS:¬S b):fX w' b:=k.at_ h hS
def Pe(M:bY)(w:bq)(q b:Nat)(nn:Int)(k n:Int)(s:bS)(l:List bG)(lv:bt)(hl:aS M w lv l)(hs:s.size<=200)(h:wX k n s.data.toList l.length=true)(hq:cX w q (Ua b nn))(hb:fX w b)(hT:Tb w):
 xC 374 #[xP q, .agg #[k,n,s,lv]] w (di true w):=by
 obtain⟨a,cap,rfl,dN,hm,_⟩:=hl.bj;have hql:q<w:=(ab.1 hq).1;have TI:q≠w:=by omega
 have⟨r0,r1⟩:=aZ hq;have HT:=aV (λo=>hT.aT (w':=w.alloc o) cU);have HBA:=aV (λo=>hb.aT (w':=w.alloc o) cU);unfold wX at h;by_cases h1:k=1
 .subst h1;simp only[if_true,aF,decide_eq_true_eq,List.isEmpty_iff,beq_iff_eq]at h;obtain⟨⟨⟨hn1,hn2⟩,hs0⟩,uP⟩:=h;obtain rfl:=gD hs0;rw[uP];go_enter func374,ntmps374;go_wp2;go_ret;exact⟨rfl,cU⟩
 rw[if_neg h1]at h;simp only[aF,decide_eq_true_eq]at h;obtain⟨rfl,h⟩:=h;by_cases h2:k=2
 .subst h2;simp only[if_true,aF,beq_iff_eq]at h;obtain⟨ht,uP⟩:=h;rw[uP];have HX:=aV (D3 ht);go_enter func374,ntmps374;go_wp2_with fail;refine dx (AJ _ HX.o _ (HT.o _)) λw1 hb1=> ?_;have⟨q0,q1,q2,q3⟩:=aU (boxed hb1);have cu:=aV hb1;go_wp2;go_ret;exact⟨rfl,ct cu.o⟩
 rw[if_neg h2]at h;by_cases h3:k=3
 .subst h3;simp only[if_true,aF,beq_iff_eq]at h;obtain⟨ht,uP⟩:=h;rw[uP];have h20:s.size<=20:=by unfold rq at ht;simp only[aF,decide_eq_true_eq]at ht;rw[<-cH];exact ht.1.1.2
  rw[qs]at ht;have HX:=aV ht;go_enter func374,ntmps374;go_wp2_with fail;refine dx (AI _ HX.o h20 _) λw1 hb1=> ?_;have⟨q0,q1,q2,q3⟩:=aU (boxed hb1);have cu:=aV hb1;go_wp2;go_ret;exact⟨rfl,ct cu.o⟩
 rw[if_neg h3]at h;by_cases h4:k=4
 .subst h4;simp only[if_true,aF,beq_iff_eq,decide_eq_true_eq]at h;obtain⟨ht,uP⟩:=h;have⟨c,hc,hsc⟩:=ug ht;obtain rfl:=gD hsc;rw[uP];have hz:(0:Int)<(dy [c]:Int):=by simp at ht;omega
  have mD:=λo=>yj (HBA.o o) c hc (by simp at ht;exact ht);have WW:=λo=>yj (w:=(w.alloc o).drew) (HBA.o o) c hc (by simp at ht;exact ht);generalize dy [c]=bb at*;go_enter func374,ntmps374;go_wp2_with fail;have hdz:decide ((0:Int)<(bb:Int))=true:=by simpa using hz
  have qgq:decide (0<bb)=true:=by simp;omega
  go_region;all_goals
   go_wp2;go_ret;exact⟨rfl,cU.trans ⟨rfl,rfl,rfl,cN,λ_ _=>rfl⟩⟩
 rw[if_neg h4]at h;by_cases h6:k=6
 .subst h6;simp only[if_true,aF,beq_iff_eq,decide_eq_true_eq]at h;obtain⟨ht,uP⟩:=h;have hz:(0:Int)<(eG s.data.toList:Int):=by omega
  have HA:=aV (λw=>Am s w);have hz2:decide ((0:Int)<(eG s.data.toList:Int))=true:=by simpa using ht
  have wL:decide (0<eG s.data.toList)=true:=by simpa using ht
  rw[uP];generalize eG s.data.toList=bb at*;go_enter func374,ntmps374;go_wp2_with fail;go_quiet((go_at_call 415;exact Calls.quiet_of_same ((HA.o _).mono λ_ _ h=>⟨h.1,h.2.symm⟩)));go_wp2;go_ret;exact⟨rfl,cU.trans ⟨rfl,rfl,rfl,cN,λ_ _=>rfl⟩⟩
 rw[if_neg h6]at h;cases h
structure sR(w0 w:bq)(M:bY)(q b:Nat)(n:Int):Prop where
 blk:w.heap[q]? =some (Ua b n)
 binds:fX w b
 low:bC w0 w
 hq:w0<=q
 ne:b≠q
 mq:M q
def sR.lt {q:Nat}{n:Int}(h:sR w0 w M q b n):q<w:=(ab.1 h.blk).1
def ym {q:Nat}(h:bC w0 w)(k:bh (λi=>i=q) w w')(hq:w0<=q):bC w0 w':=
 ⟨k.os.trans h.os,k.tape.trans h.tape,k.output.trans h.output,aH h.size k.size,λi hi=>(k.block i (aN hi h.size) (λe=>by have:i=q:=e;omega)).trans (h.block i hi)⟩
def sR.aT {q:Nat}{n:Int}(h:sR w0 w M q b n)(k:bC w w'):sR w0 w' M q b n:=
 ⟨(k.block q h.lt).trans h.blk,h.binds.aT k,h.low.trans (k.mono h.low.size),h.hq,h.ne,h.mq⟩
def sR.SH {q:Nat}{n m:Int}(h:sR w0 w M q b n)(k:bh (λi=>i=q) w w')(hb:w'.heap[q]? =some (Ua b m)):sR w0 w' M q b m:=
 ⟨hb,h.binds.only k h.ne,ym h.low k h.hq,h.hq,h.ne,h.mq⟩
def Kf {q:Nat}(hq:M q)(k:bh (λi=>i=q) w w'):Ev M w M w':=⟨k.mono λi hi=>by have:i=q:=hi;rw[this];exact hq,λ_ h=> .inl h⟩
theorem rB:∀l:List bG,l.length<=eu l
 |[]=>by simp
 |e::r=>by have:=rB r;have:=ui e;simp only[eu,aC];omega
def yo {l:List bG}(h:aS M w v l){k n:Int}{ll:List bG}(hx:l[i]? =some (.mk k n s ll)):∃b off cap a c,v=xL (b,off) l.length cap/\b<w.heap.size/\¬M b/\aS M w (xL a ll.length c) ll/\s.size<=maxLen/\cC w b (off+i*4) k/\cC w b (off+i*4+1) n/\cC w b (off+i*4+2) s/\cC w b (off+i*4+3) (xL a ll.length c):=by
 obtain⟨a,cap,rfl,hl,_,hc⟩:=h.bj;have hk:=(ag.1 hx).1;obtain⟨b,off,rfl,hM,hb,hcell⟩:=hc (by omega);have⟨cs,hr,hcs⟩:=hcell i _ hx;obtain⟨av,rfl,hs,hsz⟩:=dF.iff.1 hr;have hs2:=hs;obtain⟨a,c,rfl,_⟩:=hs2.bj;exact⟨b,off,cap,a,c,rfl,hb,hM,hs,hsz,hcs 0 _ rfl,hcs 1 _ rfl,hcs 2 _ rfl,hcs 3 _ rfl⟩
def yp {k n:Int}{l:List bG}(h:aS M w (xL a l.length cap) l)(hs:s.size<=maxLen):dq M w (.agg #[k,n,s,xL a l.length cap]) (bG.mk k n s l):=⟨_,rfl,dF.iff.2 ⟨_,rfl,h,hs⟩⟩
def Hz:∀(N:Nat)(e:bG),fw e<=N->∀(w0:bq),Tb w0->∀(M:bY)(w:bq)(v:bt)(q b:Nat)(n depth:Int),dq M w v e->ju e=true->sR w0 w M q b n->1<=depth->depth+lV e<=9->0<=n->n+fw e<=40->
 xC 350 #[xP q,v,depth] w λe' w'=>e'=xR true/\w'.heap[q]? =some (Ua b (n+fw e))/\bh (λi=>i=q) w w':=by
 intro N;induction N with
 |zero=>intro e he;have:=ui e;omega
 |succ N ih=>
  intro e he w0 hT M w v q b n depth hag QQ WX hd1 hd wK hn;obtain⟨k,en,s,l⟩:=e;obtain⟨a,cap,rfl,hsl⟩:=fF hag;have hss:s.size<=maxLen:=by obtain⟨cs,_,hr⟩:=hag;have⟨_,_,_,h⟩:=dF.iff.1 hr;exact h
  simp only[ju,aF]at QQ;obtain⟨hn1,hn2⟩:=QQ;have hsz:s.size<=200:=by have:=xj hn1;rw[cH]at this;exact this
  simp only[fw]at he hn;simp only[lV]at hd;have qak:l.length<=cap/\cap<=9223372036854775807:=by have⟨_,_,e,h1,h2,_⟩:=hsl.bj;cases e;exact⟨h1,h2⟩
  obtain⟨Q4,Q5⟩:=qak;have qdw:l.length<=40:=by have:=rB l;omega
  have hqw:=WX.lt;have TI:q≠w:=by omega
  have⟨r0,r1⟩:=aZ WX.blk;have f1:=aY WX.blk 1;have hd8:¬depth>8:=by omega
  have qgr:¬n+1>40:=by omega
  have⟨W1,hW1⟩:=dd ((w.setCell (q,1) (xI (n+1))).alloc (xK #[k,en,s,xL a l.length cap] 350));have rU:=aV (show bh (λi=>i=q) w W1 by rw[hW1];exact((bh.refl (λi=>i=q) w).setCell (p:=⟨q,1,none⟩) (.inl rfl) _).alloc _);have pq:Hd (sR w0 W1 M q b (n+1)):=WX.SH rU.o (by
   rw[hW1];have h1:=aA w q 1 _ _ (xI (n+1)) WX.blk;refine(aB _ _ q (by simpa [World.setCell]using hqw)).trans ?_;simpa [Ua]using h1);have gy:=aV (show ed W1 w (xK #[k,en,s,xL a l.length cap] 350)by
   rw[hW1];have h1:=az (w.setCell (q,1) (xI (n+1))) (xK #[k,en,s,xL a l.length cap] 350);rw[show(w.setCell (q,1) (xI (n+1))).heap.size=w by simp[World.setCell]]at h1;exact h1);have re:Hd (aS M W1 (xL a l.length cap) l):=hsl.ev (Kf WX.mq rU.o);have TJ:=aV (Pe M W1 q b (n+1) k en s l _ re.o hsz hn1 pq.o.blk pq.o.binds (hT.aT pq.o.low));have⟨p0,p1⟩:=aZ pq.o.blk;have⟨x0,x1,x2,x3⟩:=aU gy.o;have HIH:Hd (∀e,fw e<=N->∀(M:bY)(w:bq)(v:bt)(b:Nat)(n depth:Int),dq M w v e->ju e=true->sR w0 w M q b n->1<=depth->depth+lV e<=9->0<=n->n+fw e<=40->_):=λe he M w v b n depth=>ih e he w0 hT M w v q b n depth;have gS:=aV hsl;have HMQ:Hd (M q):=WX.mq;have e0:(fw (.mk k en s l):Int)=eu l+1:=by simp[fw]
  rw[e0];have zZ:=aV hn2;go_enter func350,ntmps350;go_wp2_with fail;rw[<-hW1];refine dx (TJ.o) λw2 cJ=> ?_;have nh:=aV (pq.o.aT cJ);have Tq:Hd (bh (λi=>i=q) w w2):=rU.o.trans (bh.bA cJ);have⟨y0,y1,y2,y3⟩:=aU ((cJ.block w (ab.1 gy.o).1).trans gy.o);go_wp2;go_loopg [8,34]l.length(λg _ iv wr=>∃i:Nat,i<=l.length/\g=l.length-i/\iv=xI i/\Hd (sR w0 wr M q b (n+1+eu (l.take i)))/\Hd (bh (λi=>i=q) w wr));exact⟨0,ax _,rfl,rfl,(show sR _ _ _ _ _ _ by simpa [eu]using nh.o),Tq⟩;obtain⟨i,hi,rfl,rfl,HK,HO⟩:=hrel;by_cases cE:i<l.length
  .have⟨⟨xk,xn,xs,xl⟩,hx⟩:=fg l i cE;have⟨bl,off,cap',a',c',hv,hbl,hMb,hxs,hxz,q0,q1,q2,q3⟩:=yo (gS.o.ev (Kf HMQ.o HO.o)) hx;obtain⟨rfl,rfl⟩:=jk hv;have⟨g1,g2,g3⟩:=uh hx;have g4:=pG hx;have g5:=qt l (i+1);have cI:=aV (λo=>HIH.o (.mk xk xn xs xl) (by omega) M (wr.alloc o) (.agg #[xk,xn,xs,xL a' xl.length c']) b (n+1+eu (l.take i)) (depth+1) (yp (hxs.aT (eH.alloc cN o)) hxz) (g3 zZ.o) (HK.o.aT (eH.alloc cN o)) (by omega) (by omega) (by omega) (by omega));have qdx:=aV (show n+1+(eu (l.take i):Int)+(fw (.mk xk xn xs xl):Int)=n+1+(eu (l.take (i+1)):Int)by rw[g4];omega);go_wp2_with fail;refine(cI.o _).mono ?_;rintro e w3⟨rfl,hb3,KP⟩;have qp:=aV (show sR w0 w3 M q b (n+1+eu (l.take (i+1)))by rw[<-qdx.o];exact(HK.o.aT cU).SH KP hb3);have rV:Hd (bh (λi=>i=q) w w3):=(HO.o.alloc _).trans KP;go_wp2;go_roundg(l.length-(i+1));exact⟨i+1,by omega,rfl,by go_num,qp,rV⟩;omega
  go_wp2;go_ret;refine⟨rfl,?_,HO.o⟩;have h1:=HK.o.blk;rw[ak (by omega)]at h1;rw[show n+((eu l:Int)+1)=n+1+eu l from by omega];exact h1
def AM(e:bG)(hn:ju e=true)(hd:lV e<=8)(hs:fw e<=40)(M:bY)(w:bq)(v:bt)(hM:Bd M w)(hag:dq M w v e)(hT:Tb w):
 xC 304 #[v] w λe' w'=>e'=xR true/\bC w w':=by
 obtain⟨k,en,s,l⟩:=e;obtain⟨a,cap,rfl,hsl⟩:=fF hag;have HR:Hd (∀(w1:bq)(b q:Nat),bC w w1->fX w1 b->cX w1 q (Ua b 0)->w<=q->b≠q->xC 350 #[xP q, .agg #[k,en,s,xL a l.length cap],xI 1] w1 λe' w'=>e'=xR true/\w'.heap[q]? =some (Ua b (0+fw (.mk k en s l)))/\bh (λi=>i=q) w1 w'):=λw1 b q hb hB hq hqw hne=>
  Hz _ (.mk k en s l) cN w hT (orM M q) w1 _ q b 0 1 (hag.ev ⟨bh.bA hb,λi hi=>hi.imp_right λe=>by omega⟩) hn ⟨hq,hB,hb,hqw,hne, .inr rfl⟩ (by omega) (by omega) (by omega) (by omega);delta xC;go_in;go_wp2_with fail;refine(vj _).mono ?_;rintro e w1⟨b,rfl,hB,Rj,hb1⟩;have⟨g0,g1,g2,g3⟩:=aU (boxed hb1);have HX:=aV (boxed hb1);have s1:=hb1.size;simp only[World.size_alloc]at s1 Rj;have cu:=aV (ct hb1);have BB:=aV hB;have hbl:b<w1:=(ab.1 hB).1;have hne:b≠w1:=by omega
 have hwn:w.heap.size≠w1:=by omega
 have g0':=λo=>dr w1 o _ g0;have g1':=λo=>dr w1 o _ g1;have g2':=λo=>dr w1 o _ g2;have g3':=λo=>dr w1 o _ g3;go_wp2_with fail;refine(HR.o (w1.alloc (xK #[.map (some b),xI 0] 423)) b w1 (by exact cu.o.alloc cu.o.size _) (by exact BB.o.aT cU) (by exact az w1 (Ua b 0)) cu.o.size hne).mono ?_;rintro e w2⟨rfl,_,ho⟩;have HO:=aV ho;go_wp2;go_ret;exact⟨rfl,ym (cu.o.alloc cu.o.size _) HO.o cu.o.size⟩
def gZ(t:Tok):xb:=⟨t.bg,t.n,bL t.s,t.at_⟩
structure gp(b bm:Nat)(lv:bt)(sz:Int)(T:List Tok)(w:bq)(i:Nat):Prop where
 box:w.heap[b]? =some (xK #[lv,i,sz, .map (some bm)] 391)
 toks:aS (cg b) w lv (T.map gZ)
 binds:fX w bm
 ne:bm≠b
 few:T.length<=200
 le:i<=T.length
 kinds:∀t∈T,1<=t.bg/\t.bg<=4
section
variable {b bm:Nat}{lv:bt}{sz:Int}{T:List Tok}{w w':bq}{i j:Nat}
def gp.lt(h:gp b bm lv sz T w i):b<w:=(ab.1 h.box).1
def gp.step(h:gp b bm lv sz T w i)(ho:bh (cg b) w w')(hb:w'.heap[b]? =some (xK #[lv,j,sz, .map (some bm)] 391))(hj:j<=T.length):gp b bm lv sz T w' j:=
 ⟨hb,h.toks.ev ⟨ho,λ_ h=> .inl h⟩,h.binds.only ho h.ne,h.ne,h.few,hj,h.kinds⟩
def gp.aT(h:gp b bm lv sz T w i)(hb:bC w w'):gp b bm lv sz T w' i:=
 h.step (bh.bA hb) ((hb.block b h.lt).trans h.box) h.le
def gp.next(h:gp b bm lv sz T w i)(hi:i<T.length):gp b bm lv sz T (w.setCell (b,1) (xI ((i:Int)+1))) (i+1)/\bh (cg b) w (w.setCell (b,1) (xI ((i:Int)+1))):=by
 have ho:bh (cg b) w (w.setCell (b,1) (xI ((i:Int)+1))):=(bh.refl (cg b) w).setCell (p:=⟨b,1,none⟩) (.inl rfl) _;refine⟨h.step ho ?_ (by omega),ho⟩;have:=aA w b 1 _ _ (xI ((i:Int)+1)) h.box;simpa using this
def gp.cells(h:gp b bm lv sz T w i):∃a cap,lv=xL a T.length cap/\T.length<=cap/\cap<=9223372036854775807/\(∀t,T[i]? =some t->∃bl off,a=some ⟨bl,off,none⟩/\bl≠b/\bl<w.heap.size/\cC w bl (off+i*4) (xI t.bg)/\cC w bl (off+i*4+1) (xI t.n)/\cC w bl (off+i*4+2) (xS (bL t.s))/\cC w bl (off+i*4+3) (xI t.at_)):=by
 have⟨a,cap,hv,h1,h2,hc⟩:=h.toks.bj;rw[aL]at hv hc h1;refine⟨a,cap,hv,h1,h2,λt ht=> ?_⟩;have hl:=(ag.1 ht).1;have⟨bl,off,ha,hM,hbl,hcell⟩:=hc (by omega);obtain⟨cs,⟨rfl,_⟩,hcs⟩:=hcell i (gZ t) (by rw[List.getElem?_map,ht];rfl);exact⟨bl,off,ha,hM,hbl,hcs 0 _ rfl,hcs 1 _ rfl,hcs 2 _ rfl,hcs 3 _ rfl⟩
end
def Kg(b bm:Nat)(lv:bt)(sz:Int)(T:List Tok)(w:bq)(i:Nat)(h:gp b bm lv sz T w i)(t:Tok)(ht:T[i]? =some t):
 xC 349 #[xP b] w (di (lu t.bg t.n (bL t.s) t.at_) w):=by
 obtain⟨a,cap,rfl,Q4,Q5,hc⟩:=h.cells;have⟨p0,p1,p2,p3⟩:=aU h.box;obtain⟨bl,off,rfl,wI,hbl,q0,q1,q2,q3⟩:=hc t ht;have Rj:=h.lt;have hi:=(ag.1 ht).1;have FN:=h.few;have RM:(i:Int)<(T.length:Int):=by omega
 have hi0:(0:Int)<=(i:Int):=an _;have hd1:decide (i<T.length)=true:=by simpa using hi
 have hd2:decide ((i:Int)<(T.length:Int))=true:=by simpa using RM
 have qdy:b≠w:=by omega
 have hbl2:bl≠w:=by omega
 delta xC;go_in;go_wp2_with fail;go_quiet(fail);go_wp2_with fail;go_region;all_goals
  go_wp2_with fail;refine ah (v:=lu t.bg t.n (bL t.s) t.at_) (by simp[results,results349,go_sem,lu]) rfl ⟨rfl,?_⟩;exact((((below_drewNv cU _).setCell (by simp) _).setCell (by simp) _).setCell (by simp) _).setCell (by simp) _
def Pf(b bm:Nat)(lv:bt)(sz:Int)(T:List Tok)(w:bq)(i:Nat)(h:gp b bm lv sz T w i)(hi:i=T.length):
 xC 349 #[xP b] w (di (lu 0 0 () sz) w):=by
 obtain⟨a,cap,rfl,Q4,Q5,hc⟩:=h.cells;have⟨p0,p1,p2,p3⟩:=aU h.box;have Rj:=h.lt;have FN:=h.few;have RM:¬(i:Int)<(T.length:Int):=by omega
 have hd1:decide (i<T.length)=false:=by simp;omega
 have hd2:decide ((i:Int)<(T.length:Int))=false:=by simp;omega
 have qdy:b≠w:=by omega
 delta xC;go_in;go_wp2_with fail;go_quiet(fail);go_wp2_with fail;refine ah (v:=lu 0 0 () sz) (by simp[results,results349,go_sem,lu]) rfl ⟨rfl,?_⟩;exact((((below_drewNv cU _).setCell (by simp) _).setCell (by simp) _).setCell (by simp) _).setCell (by simp) _
def yq(b bm:Nat)(lv:bt)(sz:Int)(T:List Tok)(w:bq)(i:Nat)(h:gp b bm lv sz T w i):∃(k n:Int)(s:bS)(p:Int),(∀x,eU (T.drop i) x=(decide (k=4)&&decide (s.data.toList=x)))/\(∀t,T[i]? =some t->k=t.bg/\n=t.n/\s=bL t.s)/\(T[i]? =none->k=0/\s=⟨#[]⟩)/\xC 349 #[xP b] w (di (lu k n s p) w):=by
 cases hq:T[i]? with
 |none=>
  have hi:i=T.length:=by have:=h.le;have:=List.getElem?_eq_none_iff.1 hq;omega
  refine⟨0,0,(),sz,λx=> ?_,(λt ht=>by cases ht),λ_=>⟨rfl,rfl⟩,Pf b bm lv sz T w i h hi⟩;rw[List.drop_of_length_le (by omega)];rfl
 |some t=>
  refine⟨t.bg,t.n,bL t.s,t.at_,λx=> ?_,(λt' ht=>by cases ht;exact⟨rfl,rfl,rfl⟩),(λh=>by cases h),Kg b bm lv sz T w i h t hq⟩;rw[drop_cons hq];simp only[eU,mG];rw[Bool.eq_iff_iff];simp;try omega
def Ee(b bm:Nat)(lv:bt)(sz:Int)(T:List Tok)(w:bq)(i:Nat)(h:gp b bm lv sz T w i)(s:bS)(hs:eU (T.drop i) s.data.toList=true):
 xC 413 #[xP b,s] w λe w'=>e=xR true/\gp b bm lv sz T w' (i+1)/\bh (cg b) w w':=by
 have⟨k,n,x,p,h1,h2,h3,hpk⟩:=yq b bm lv sz T w i h;have cE:i<T.length:=by
  cases hq:T[i]? with
  |none=>rw[h1,(h3 hq).1]at hs;simp at hs
  |some t=>exact(ag.1 hq).1
 rw[h1]at hs;simp only[aF,decide_eq_true_eq]at hs;obtain⟨rfl,hx⟩:=hs;obtain rfl:x=s:=by cases x;cases s;simp at hx;simpa using hx
 have KN:=aV hpk;have iG:=aV h;delta xC;go_in;go_wp2_with fail;refine dx (KN.o) λw1 hb1=> ?_;have re:=aV (iG.o.aT hb1);have cu:=aV hb1;have⟨p0,p1,p2,p3⟩:=aU re.o.box;have f1:=aY re.o.box 1;have hbl:=re.o.lt;have wI:b≠w1:=by omega
 have FN:=re.o.few;unfold lu;go_wp2;go_ret;exact⟨rfl,((re.o.next cE).1).aT cU,((bh.bA cu.o).trans (re.o.next cE).2).alloc _⟩
def Kh(b bm:Nat)(lv:bt)(sz:Int)(T:List Tok)(w:bq)(i:Nat)(h:gp b bm lv sz T w i)(s:bS)(hs:eU (T.drop i) s.data.toList=false):
 xC 413 #[xP b,s] w (di false w):=by
 have⟨k,n,x,p,h1,h2,h3,hpk⟩:=yq b bm lv sz T w i h;rw[h1]at hs;have hcs:(k !=4)=true\/((k !=4)=false/\(!(x.toList==s.toList))=true):=by
  by_cases hk:k=4
  .right;refine⟨by simpa using hk,?_⟩;rw[decide_eq_true hk,Bool.true_and,decide_eq_false_iff_not]at hs;simp only[Bool.not_eq_true'];cases hq:(x.toList==s.toList)with
   |false=>rfl
   |true=>exact absurd (by rw[rM hq]) hs
  left;simpa using hk
 have KN:=aV hpk;rcases hcs with e1|⟨e1,e2⟩;all_goals
  delta xC;go_in;go_wp2_with fail;refine dx (KN.o) λw1 hb1=> ?_;have cu:=aV hb1;unfold lu;go_wp2;go_ret;exact⟨rfl,cu.o.alloc cu.o.size _⟩
def Ki(b bm:Nat)(lv:bt)(sz:Int)(T:List Tok)(w:bq)(i:Nat)(h:gp b bm lv sz T w i)(s:bS)(hs:eU (T.drop i) s.data.toList=true):
 xC 414 #[xP b,s] w λe w'=>(∃v,e=xR v)/\gp b bm lv sz T w' (i+1)/\bh (cg b) w w':=by
 have HT:=aV (Ee b bm lv sz T w i h s hs);delta xC;go_in;go_wp2_with fail;refine(HT.o).mono ?_;rintro e w1⟨rfl,h1,h2⟩;have H1:=aV h1;have H2:=aV h2;go_wp2_with fail;go_end0;exact⟨⟨_,rfl⟩,H1.o,H2.o⟩
def mO(b bm:Nat)(lv:bt)(sz:Int)(T:List Tok)(w:bq)(x:bG)(r:List Tok)(e:Ending)(w':bq):Prop:=
 ∃v j,e=xR v/\dq (gO w) w' v x/\gp b bm lv sz T w' j/\r=T.drop j/\bh (cg b) w w'
def Pg(b bm:Nat)(lv:bt)(sz:Int)(T:List Tok)(w:bq)(l:List bG)(r:List Tok)(e:Ending)(w':bq):Prop:=
 ∃v j,e=xR v/\aS (gO w) w' v l/\gp b bm lv sz T w' j/\r=T.drop j/\bh (cg b) w w'
def Ef(b bm:Nat)(lv:bt)(sz:Int)(T:List Tok)(k:Nat):Prop:=∀(least i:Nat)(x:bG)(r:List Tok)(w:bq),1<=least->least<=5->gp b bm lv sz T w i->ke k least (T.drop i)=some (x,r)->
 xC 348 #[xP b,least] w (mO b bm lv sz T w x r)
def H7(b bm:Nat)(lv:bt)(sz:Int)(T:List Tok)(k:Nat):Prop:=∀(i:Nat)(x:bG)(r:List Tok)(w:bq),gp b bm lv sz T w i->kx k (T.drop i)=some (x,r)->
 xC 373 #[xP b] w (mO b bm lv sz T w x r)
def Ce(b bm:Nat)(lv:bt)(sz:Int)(T:List Tok)(k:Nat):Prop:=∀(n i:Nat)(l:List bG)(r:List Tok)(w:bq),0<n->n<=3->gp b bm lv sz T w i->fS k n (T.drop i)=some (l,r)->
 xC 416 #[xP b,n] w (Pg b bm lv sz T w l r)
def F9(k n:Int)(s:bS)(v:bt):Obj:=xK #[k,n,s,v] 350
def Ph {T:List Tok}(h0:gp b bm lv sz T w i)(h:gp b bm lv sz T w3 j)(ho:bh (cg b) w w3)(hR:w<=R)(v0 v1 v2 v3:bt):
 gp b bm lv sz T ((((w3.setCell (R,0) v0).setCell (R,1) v1).setCell (R,2) v2).setCell (R,3) v3) j/\bh (cg b) w ((((w3.setCell (R,0) v0).setCell (R,1) v1).setCell (R,2) v2).setCell (R,3) v3):=by
 have Rj:=h0.lt;have ho':=(((ho.setCell (p:=⟨R,0,none⟩) (.inr hR) v0).setCell (p:=⟨R,1,none⟩) (.inr hR) v1).setCell (p:=⟨R,2,none⟩) (.inr hR) v2).setCell (p:=⟨R,3,none⟩) (.inr hR) v3;refine⟨h0.step ho' ?_ h.le,ho'⟩;exact(aj _ _ _ _ (by show b≠R;omega)).trans ((aj _ _ _ _ (by show b≠R;omega)).trans ((aj _ _ _ _ (by show b≠R;omega)).trans ((aj _ _ _ _ (by show b≠R;omega)).trans h.box)))
def VA:(():bS).size<=maxLen:=by unfold maxLen;decide
def Pj {T:List Tok}{w4:bq}(h0:gp b bm lv sz T w i)(h:gp b bm lv sz T w4 j)(ho:bh (cg b) w w4)(hR:ed w4 w (xK #[a0,a1,a2,a3] t))
 (hW:W'=((((w4.setCell (w,0) v0).setCell (w,1) v1).setCell (w,2) v2).setCell (w,3) v3).alloc o):
 gp b bm lv sz T W' j/\bh (cg b) w W'/\W'.heap[w.heap.size]? =some (xK #[v0,v1,v2,v3] t):=by
 have⟨h1,h2⟩:=Ph h0 h ho cN v0 v1 v2 v3;have h3:=fG (o:=0) hR v0 v1 v2 v3;simp only[Nat.zero_add]at h3;subst hW;refine⟨h1.aT cU,h2.alloc _,(aB _ _ _ (ab.1 h3).1).trans ?_⟩;simpa using h3
def wu {T:List Tok}{w4:bq}(h0:gp b bm lv sz T w i)(h:gp b bm lv sz T w4 j)(ho:bh (cg b) w w4)(hR:ed w4 w (xK #[a0,a1,a2,a3] t))
 (hW:W'=(((w4.setCell (w,0) v0).setCell (w,1) v1).setCell (w,2) v2).setCell (w,3) v3):
 gp b bm lv sz T W' j/\bh (cg b) w W'/\W'.heap[w.heap.size]? =some (xK #[v0,v1,v2,v3] t):=by
 have⟨h1,h2⟩:=Ph h0 h ho cN v0 v1 v2 v3;have h3:=fG (o:=0) hR v0 v1 v2 v3;simp only[Nat.zero_add]at h3;subst hW;exact⟨h1,h2,by simpa using h3⟩
def Eg(b bm:Nat)(lv:bt)(sz:Int)(T:List Tok)(hsh:rr T)(k:Nat)(HC:Ce b bm lv sz T k):H7 b bm lv sz T (k+1):=by
 intro i x r w hst hp;have hbl:=hst.lt;obtain⟨t,ht⟩:∃t,T[i]? =some t:=by
  cases hq:T[i]? with
  |some t=>exact⟨t,rfl⟩
  |none=>
   rw[List.drop_of_length_le (List.getElem?_eq_none_iff.1 hq)]at hp;simp[kx]at hp
 have hi:=(ag.1 ht).1;have hmem:=ai ht;have⟨hts,htk1,htn,_⟩:=hsh t hmem;have hk4:=hst.kinds t hmem;have hdr:=drop_cons ht;rw[hdr]at hp;unfold kx at hp;dsimp only at hp;have TK:t.bg≠4:=by
  intro h4;rw[if_neg (by omega),if_neg (by omega),if_neg (by omega)]at hp;cases hp
 have hno:∀s,eU (T.drop i) s=false:=λs=>by rw[hdr];simp[eU,TK]
 have zz:Hd (∀W s,bC w W->_):=λW s hb=>Kh b bm lv sz T W i (hst.aT hb) s (hno _);have KN:=ie (w:=w) (λW hb=>Kg b bm lv sz T W i (hst.aT hb) t ht);have iG:=aV hst;have NQ:=aV hdr;have HP:=aV hp;have Us:=aV (show(bL t.s).size<=maxLen by rw[kH];unfold maxLen;omega);have FN:=hst.few;have wI:b≠w:=by omega
 clear hst hp hdr hno ht hmem;go_enter func373,ntmps373;go_wp2_with fail;refine dx (zz.o _ _ cU) λw1 hb1=> ?_;have cu:=aV ((Bx.fm w (F9 0 0 () ())).aT hb1);clear hb1;go_wp2_with fail;refine dx (zz.o _ _ cu.o.1) λw2 cJ=> ?_;have bZ:=aV (cu.o.aT cJ);clear cJ;go_wp2_with fail;refine dx (KN.o _ bZ.o.1) λw3 hb3=> ?_;have cR:=aV (bZ.o.aT hb3);clear hb3;have jM:=aV (iG.o.aT cR.o.1);have⟨p0,p1,p2,p3⟩:=aU jM.o.box;have f1:=aY jM.o.box 1;have⟨g0,g1,g2,g3⟩:=aU (cR.o.cP rfl);have⟨y0,y1,y2,y3⟩:=iS (cR.o.cP rfl);have qX:w.heap.size<w3:=by have:=cR.o.cM;simp at this;omega
 have qgs:b<w3:=jM.o.lt;have qgt:b≠w3:=by omega
 have qdz:w.heap.size≠w3:=by omega
 have HN3:=aV (jM.o.next hi);have rV:Hd (bh (cg b) w (w3.setCell (b,1) (xI ((i:Int)+1)))):=(bh.bA cR.o.1).trans HN3.o.2;have Nt:Hd ((w3.setCell (b,1) (xI ((i:Int)+1))).heap[w.heap.size]? =some (F9 0 0 () ())):=(aj _ _ _ _ (by show w≠b;omega)).trans (cR.o.cP rfl);unfold lu;have pq:=aV htk1;have uT:=aV htn;clear htk1 htn;have⟨kd,hkd⟩:=js ((t.bg:Int));have Ut:=aV hkd;rw[hkd];clear hkd;have hcs:t.bg=1\/t.bg=2\/t.bg=3:=by omega
 rcases hcs with h1|h1|h1
 .obtain rfl:kd=1:=by have:=Ut.o;omega
  have HX:=aV (show x= .mk 1 t.n (bL []) []/\r=T.drop (i+1)by have h:=HP.o;rw[if_pos h1]at h;simp at h;exact⟨h.1.symm,h.2.symm⟩);clear h1 Ut hk4 TK;go_wp2_with fail;have⟨W',hW'⟩:=dd ((((((w3.setCell (b,1) (xI ((i:Int)+1))).setCell (w,0) (xI 1)).setCell (w,1) t.n).setCell (w,2) "").setCell (w,3) ()).alloc (xK #[xI 1,t.n,bL t.s,t.at_] 396));rw[<-hW'];have⟨k1,k2,k3⟩:=Pj iG.o HN3.o.1 rV.o Nt.o hW';have⟨c0,c1,c2,c3⟩:=aU k3;exact ah (v:= .agg #[xI 1,t.n,"",()]) (by simp[results,results373,go_sem,c0,c1,c2,c3]) rfl (show mO _ _ _ _ _ _ _ _ _ _ from⟨_,i+1,rfl,by rw[HX.o.1];exact uW _ _ _ VA,k1,HX.o.2,k2⟩)
 .obtain rfl:kd=2:=by have:=Ut.o;omega
  have HX:=aV (show x= .mk 2 0 (bL t.s) []/\r=T.drop (i+1)by have h:=HP.o;rw[if_neg (by omega),if_pos h1]at h;simp at h;exact⟨h.1.symm,h.2.symm⟩);clear h1 Ut hk4 TK;go_wp2_with fail;have⟨W',hW'⟩:=dd ((((((w3.setCell (b,1) (xI ((i:Int)+1))).setCell (w,0) (xI 2)).setCell (w,1) (xI 0)).setCell (w,2) (bL t.s)).setCell (w,3) ()).alloc (xK #[xI 2,t.n,bL t.s,t.at_] 396));rw[<-hW'];have⟨k1,k2,k3⟩:=Pj iG.o HN3.o.1 rV.o Nt.o hW';have⟨c0,c1,c2,c3⟩:=aU k3;exact ah (v:= .agg #[xI 2,xI 0,bL t.s,()]) (by simp[results,results373,go_sem,c0,c1,c2,c3]) rfl (show mO _ _ _ _ _ _ _ _ _ _ from⟨_,i+1,rfl,by rw[HX.o.1];exact uW _ _ _ Us.o,k1,HX.o.2,k2⟩)
 obtain rfl:kd=3:=by have:=Ut.o;omega
 have gy:=HP.o;rw[if_neg (by omega),if_neg (by omega),if_pos h1]at gy;have gz:=aV gy;have oQ:Hd (∀W,_):=λW=>Am (bL t.s) W;clear h1 Ut hk4 TK gy;have har:=Dj t.s;go_wp2_with fail;have⟨W4,hW4⟩:=dd ((w3.setCell (b,1) (xI ((i:Int)+1))).alloc (xK #[xI 3,t.n,bL t.s,t.at_] 396));rw[<-hW4];have qZ:=aV (show gp b bm lv sz T W4 (i+1)by rw[hW4];exact HN3.o.1.aT cU);have RX:=aV (show bh (cg b) w W4 by rw[hW4];exact rV.o.alloc _);have HZ4:=aV (show ed W4 w (F9 0 0 () ())by rw[hW4];exact(aB _ _ _ (ab.1 Nt.o).1).trans Nt.o);have NT:=aV (show ed W4 w3 (xK #[xI 3,t.n,bL t.s,t.at_] 396)by
  rw[hW4];have h:=az (w3.setCell (b,1) (xI ((i:Int)+1))) (xK #[xI 3,t.n,bL t.s,t.at_] 396);rw[show(w3.setCell (b,1) (xI ((i:Int)+1))).heap.size=w3 by simp[World.setCell]]at h;exact h);clear hW4 p0 p1 p2 p3 f1 g0 g1 g2 g3 y0 y1 y2 y3 zz KN cu bZ;refine ey (oQ.o _) ?_;have⟨m0,m1,m2,m3⟩:=aU NT.o;rw[mG];have⟨ar,har2⟩:=js (eG t.s);rw[har2]at gz har⊢;clear har2 oQ;have qgu:w.heap.size≠w3:=qdz;by_cases Yd:0<ar;rotate_left
 .have HX:=aV (show x= .mk 3 0 (bL t.s) []/\r=T.drop (i+1)by have h:=gz.o;rw[if_neg (λh=>Yd h.1)]at h;simp at h;exact⟨h.1.symm,h.2.symm⟩);have hz:¬(0:Int)<(ar:Int):=by omega
  have nS:=qZ;have HOO:=RX;have RY:=HZ4;clear gz HP;have⟨c0,c1,c2,c3⟩:=aU RY.o;have⟨z0,z1,z2,z3⟩:=iS RY.o;go_wp2_with fail;have⟨W',hW'⟩:=dd (((((W4.setCell (w,0) (xI 3)).setCell (w,1) (xI 0)).setCell (w,2) (bL t.s)).setCell (w,3) ()));rw[<-hW'];have⟨k1,k2,k3⟩:=wu iG.o nS.o HOO.o RY.o hW';have⟨d0,d1,d2,d3⟩:=aU k3;exact ah (v:= .agg #[xI 3,xI 0,bL t.s,()]) (by simp[results,results373,go_sem,d0,d1,d2,d3]) rfl (show mO _ _ _ _ _ _ _ _ _ _ from⟨_,i+1,rfl,by rw[HX.o.1];exact uW _ _ _ Us.o,k1,HX.o.2,k2⟩)
 have hz:(0:Int)<(ar:Int):=by omega
 by_cases hsg:eU (T.drop (i+1)) [40]=true
 .have WY:=aV (Ee b bm lv sz T W4 (i+1) qZ.o ⟨#[40]⟩ hsg);have HX:=aV (show∃l,fS k ar (T.drop (i+1+1))=some (l,r)/\x= .mk 6 0 (bL t.s) l by
   have h:=gz.o;rw[if_pos ⟨Yd,hsg⟩,List.drop_drop]at h;split at h
   .cases h
   rename_i l r' hq;simp at h;exact⟨l,by rw[<-h.2];exact hq,h.1.symm⟩);clear hsg gz HP;go_wp2_with fail;refine(WY.o).mono ?_;rintro e w6⟨rfl,h61,Jq⟩;have vL:=aV h61;have qgv:=aV Jq;have RQ:Hd (bh (cg b) w w6):=RX.o.trans Jq;have UL:Hd (ed w6 w (F9 0 0 () ())):=Jq.at_ HZ4.o (by show¬(w=b);omega);have HP6:Hd (ed w6 w3 (xK #[xI 3,t.n,bL t.s,t.at_] 396)):=Jq.at_ NT.o (by show¬(w3=b);omega);clear h61 Jq m0 m1 m2 m3;have⟨m0,m1,m2,m3⟩:=aU HP6.o;have⟨l,hl1,hl2⟩:=HX.o;have hs6:w.heap.size<w6:=(ab.1 UL.o).1;have QN:=aV (HC ar (i+1+1) l r w6.drew Yd har (vL.o.aT (w':=w6.drew) ⟨rfl,rfl,rfl,cN,λ_ _=>rfl⟩) hl1);have HXX:=aV hl2;clear hl1 hl2 HX;go_upto_region 17 with fail;go_region_law(first
   |(go_simp;go_at_call 416;refine QN.o.mono ?_;rintro e w7⟨v,j,rfl,hsl,QM,WZ,ho7⟩;obtain⟨za,zc,rfl,_⟩:=hsl.bj;have gS:=aV hsl;have Ae:=aV QM;have Uo:=aV WZ;have HO7:Hd (bh (cg b) w w7):=RQ.o.drew.trans ho7;have YA:Hd (ed w7 w (F9 0 0 () ())):=ho7.at_ (w:=w6.drew) UL.o (by show¬(w=b);omega);have HP7:Hd (ed w7 w3 (xK #[xI 3,t.n,bL t.s,t.at_] 396)):=ho7.at_ (w:=w6.drew) HP6.o (by show¬(w3=b);omega);have r2:=(aU HP7.o).2.2.1;have c0:=(aU YA.o).1;have c1:=(aU YA.o).2.1;have c2:=(aU YA.o).2.2.1;have c3:=(aU YA.o).2.2.2;have⟨z0,z1,z2,z3⟩:=iS YA.o;clear hsl QM WZ ho7));all_goals
   go_wp2_with fail;have⟨W',hW'⟩:=dd (((((w7.setCell (w,0) (xI 6)).setCell (w,1) (xI 0)).setCell (w,2) (bL t.s)).setCell (w,3) (xL za l.length zc)));rw[<-hW'];have⟨k1,k2,k3⟩:=wu iG.o Ae.o HO7.o YA.o hW';have⟨d0,d1,d2,d3⟩:=aU k3;have tU:=aV (show aS (gO w) W' (xL za l.length zc) l by
    rw[hW'];have e0:Ev (gO w6.drew) w7 (gO w) w7:=Ev.eO w7 λi hi=>by have h1:i<w:=hi;show i<w6;omega
    exact gS.o.ev ((((e0.setCell (p:=⟨w,0,none⟩) (.inl (by show w.heap.size<w6;omega)) _).setCell (p:=⟨w,1,none⟩) (.inl (by show w.heap.size<w6;omega)) _).setCell (p:=⟨w,2,none⟩) (.inl (by show w.heap.size<w6;omega)) _).setCell (p:=⟨w,3,none⟩) (.inl (by show w.heap.size<w6;omega)) _));exact ah (v:= .agg #[xI 6,xI 0,bL t.s,xL za l.length zc]) (by simp[results,results373,go_sem,d0,d1,d2,d3]) rfl (show mO _ _ _ _ _ _ _ _ _ _ from⟨_,j,rfl,by rw[HXX.o];exact yp tU.o Us.o,k1,Uo.o,k2⟩)
 have hsf:eU (T.drop (i+1)) [40]=false:=by simpa using hsg
 have Jr:=aV (Kh b bm lv sz T W4 (i+1) qZ.o ⟨#[40]⟩ hsf);have HX:=aV (show x= .mk 3 0 (bL t.s) []/\r=T.drop (i+1)by have h:=gz.o;rw[if_neg (λh=>hsg h.2)]at h;simp at h;exact⟨h.1.symm,h.2.symm⟩);clear hsg hsf gz HP;go_wp2_with fail;refine dx (Jr.o) λw6 kN=> ?_;have nS:=aV (qZ.o.aT kN);have HOO:Hd (bh (cg b) w w6):=RX.o.trans (bh.bA kN);have RY:Hd (ed w6 w (F9 0 0 () ())):=(kN.block _ (ab.1 HZ4.o).1).trans HZ4.o;have uQ:Hd (ed w6 w3 (xK #[xI 3,t.n,bL t.s,t.at_] 396)):=(kN.block _ (ab.1 NT.o).1).trans NT.o;clear kN m0 m1 m2 m3;have⟨m0,m1,m2,m3⟩:=aU uQ.o;have⟨c0,c1,c2,c3⟩:=aU RY.o;have⟨z0,z1,z2,z3⟩:=iS RY.o;go_wp2_with fail;have⟨W',hW'⟩:=dd (((((w6.setCell (w,0) (xI 3)).setCell (w,1) (xI 0)).setCell (w,2) (bL t.s)).setCell (w,3) ()));rw[<-hW'];have⟨k1,k2,k3⟩:=wu iG.o nS.o HOO.o RY.o hW';have⟨d0,d1,d2,d3⟩:=aU k3;exact ah (v:= .agg #[xI 3,xI 0,bL t.s,()]) (by simp[results,results373,go_sem,d0,d1,d2,d3]) rfl (show mO _ _ _ _ _ _ _ _ _ _ from⟨_,i+1,rfl,by rw[HX.o.1];exact uW _ _ _ Us.o,k1,HX.o.2,k2⟩)
def L1(b bm:Nat)(lv:bt)(sz:Int)(T:List Tok)(w:bq)(l:List bG)(a:fM)(q c:Nat)(C:List bG->Nat->Prop)(wr:bq):Prop:=
 ∃(kids rest:List bG)(j:Nat),kids.length=q/\kids++rest=l/\bP (gO w) w 350 wr (xL a q c) kids/\gp b bm lv sz T wr j/\bh (cg b) w wr/\C rest j
def Cf(b bm:Nat)(lv:bt)(sz:Int)(T:List Tok)(k:Nat)(HE:∀m,m<k->Ef b bm lv sz T m):Ce b bm lv sz T k:=by
 intro n i l r w wK hn3 hst RP;have⟨i0,hi0,hz0,hz1,hz2⟩:=info_parts Ao;have hbl:=hst.lt;have Uq:Hd (∀m,m<k->Ef b bm lv sz T m):=HE;have H0:Hd (L1 b bm lv sz T w l none 0 0 (Oc T n r k 0) w):=⟨[],l,i,rfl,rfl,bP.nil _ _ _ _,hst,bh.refl _ _, .inl ⟨rfl,k,cN,RP⟩⟩;have iG:=aV hst;go_enter func416,ntmps416;go_wp2;go_loopg [5,6,8]n(λg r5 _ iv wr=>∃(q c:Nat)(a:fM),q<=n/\g=n-q/\iv=xI q/\r5=xL a q c/\Hd (L1 b bm lv sz T w l a q c (Oc T n r k q) wr));exact⟨0,0,none,ax _,rfl,rfl,rfl,H0⟩;obtain⟨q,c,a,hq,rfl,rfl,rfl,HL⟩:=hrel;by_cases cE:q<n;rotate_left
 .have Wo:¬(q:Int)<(n:Int):=by omega
  have⟨kids,rest,j,hkl,hkr,hacc,hps,hon,hC⟩:=HL.o;have Up:rest=[]/\eU (T.drop j) [41]=true/\r=T.drop (j+1):=by
   rcases hC with⟨h1,_⟩|⟨_,h2,_⟩|⟨_,h1,h2,h3⟩
   .omega
   .omega
   exact⟨h1,h2,h3⟩
  obtain⟨rfl,h41,hr⟩:=Up;rw[List.append_nil]at hkr;have TJ:=aV (Ki b bm lv sz T wr j hps ⟨#[41]⟩ h41);have Bw:=aV hkl;have zh:=aV hkr;have nT:=aV hacc;have lT:=aV hon;have zY:=aV hr;go_wp2_with fail;refine(TJ.o).mono ?_;rintro e w1⟨⟨v1,rfl⟩,h1,h2⟩;have re:=aV h1;have zX:=aV (nT.o.only h2 (λi hi=>by have:i=b:=hi;exact⟨by show i<w;omega,by omega⟩));have rU:Hd (bh (cg b) w w1):=lT.o.trans h2;go_wp2;go_ret;exact(show Pg _ _ _ _ _ _ _ _ _ _ from⟨_,j+1,rfl,by rw[<-zh.o];exact zX.o.slice (λi hi=>hi),re.o,zY.o,rU.o⟩)
 have Wo:(q:Int)<(n:Int):=by omega
 go_upto_if 12 with fail;go_cut [](λwx=>Hd (L1 b bm lv sz T w l a q c (Vc T n r k q) wx))
 .have⟨kids,rest,j,hkl,hkr,hacc,hps,hon,hC⟩:=HL.o;by_cases hq0:0<q
  .have qgw:(0:Int)<(q:Int):=by omega
   have Up:eU (T.drop j) [44]=true/\∃m,m<=k/\fS m (n-q) (T.drop (j+1))=some (rest,r):=by
    rcases hC with⟨h1,_⟩|⟨_,_,h1,h2⟩|⟨h1,_⟩
    .omega
    .exact⟨h1,h2⟩
    omega
   have TJ:=aV (Ki b bm lv sz T wr j hps ⟨#[44]⟩ Up.1);have HM:=aV Up.2;have nT:=aV hacc;have lT:=aV hon;have Bw:=aV hkl;have zh:=aV hkr;go_wp2_with fail;refine(TJ.o).mono ?_;rintro e w1⟨⟨v1,rfl⟩,h1,h2⟩;have re:=aV h1;have rU:=aV h2;go_wp2;go_meet;exact(show L1 _ _ _ _ _ _ _ _ _ _ _ _ from⟨kids,rest,j+1,Bw.o,zh.o,nT.o.only rU.o (λi hi=>by have:i=b:=hi;exact⟨by show i<w;omega,by omega⟩),re.o,lT.o.trans rU.o,HM.o⟩)
  obtain rfl:q=0:=by omega
  have Up:∃m,m<=k/\fS m (n-0) (T.drop j)=some (rest,r):=by
   rcases hC with⟨_,h1⟩|⟨h1,_⟩|⟨h1,_⟩
   .exact h1
   .omega
   omega
  have HM:Hd (L1 b bm lv sz T w l a 0 c (Vc T n r k 0) wr):=⟨kids,rest,j,hkl,hkr,hacc,hps,hon,Up⟩;go_wp2;go_meet;exact HM
 have⟨kids,rest,j,hkl,hkr,hacc,hps,hon,m,hmk,RP⟩:=Hd.o hcut;obtain⟨m',e,r1,l',rfl,hex,rfl,hC⟩:=su RP (by omega);obtain⟨yk,yn,ys,yl⟩:=e;have cI:=aV (Uq.o m' (by omega) 1 j (.mk yk yn ys yl) r1 wc (by omega) (by omega) hps hex);have hown:=hacc.dC;have qgx:=hon.size;have Bw:=aV hkl;have zh:=aV hkr;have nT:=aV hacc;have lT:=aV hon;have nV:=aV hC;have Wp:=aV hown;go_wp2_with fail;refine(cI.o).mono ?_;rintro e w1⟨_,jj,rfl,⟨cs,rfl,hrep⟩,oR,hr1,iX⟩;obtain⟨av,rfl,hsl,hss⟩:=dF.iff.1 hrep;obtain⟨ya,yc,rfl,_⟩:=hsl.bj;have s1:=iX.size;have fR:Hd (bD.rep (α:=bG) (cz (xL a q c) (gO w)) w1 [xI yk,xI yn,xS ys,xL ya yl.length yc] (bG.mk yk yn ys yl)):=bD.ev (α:=bG) hrep (Ev.eO w1 (λi hi=>by
  rcases hi with hi|hi
  .have h1:i<w:=hi;show i<wc;omega
  exact(Wp.o i hi).2));have qV:=aV oR;have nU:=aV hr1;have rU:Hd (bh (cg b) w w1):=lT.o.trans iX;have zX:=aV (nT.o.only iX (λi hi=>by have:i=b:=hi;exact⟨by show i<w;omega,by omega⟩));go_wp2_with(at_builtin;refine cA (α:=bG) rfl _ _ _ rfl (gO w) w 350 i0 _ 56 underlying348 hi0 hz0 hz1 hz2 rfl (by decide) (.slice a q c) kids rfl (zX.o.alloc _) (λ_=>True) _ _ (.mk yk yn ys yl) rfl (jz _ _ _ _ 4 rfl rfl trivial) (bD.ev (α:=bG) fR.o ((Ev.refl _ _).alloc _)) (by rw[Bw.o];unfold maxLen;omega) (by rw[Bw.o];omega) (by simp;omega) ?_;rw[Bw.o];intro a2 c2 w2 cF eD cJ;have dR:=aV cF;have bZ:=aV cJ;clear cF eD cJ);go_roundg(n-(q+1));case measure=>omega
 case rel=>
  refine⟨q+1,c2,a2,by omega,rfl,by go_num,rfl,?_⟩;have hO2:bh (cg b) w w2:=(rU.o.alloc _).ej bZ.o cN;refine(show L1 _ _ _ _ _ _ _ _ _ _ _ _ from⟨kids++[.mk yk yn ys yl],l',jj,by simp[Bw.o],by rw[<-zh.o];simp,dR.o,?_,hO2,?_⟩)
  .exact iG.o.step hO2 ((bZ.o.block b hbl).trans ((aB w1 _ b (by omega)).trans qV.o.box)) qV.o.le
  have hr1:=nU.o;rcases nV.o with⟨h1,h2,h3,h4⟩|⟨h1,h2,h3⟩
  .subst hr1;exact .inr (.inr ⟨by omega,h2,h3,by rw[h4,List.drop_drop]⟩)
  subst hr1;rw[List.drop_drop]at h3;exact .inr (.inl ⟨by omega,by omega,h2,m',by omega,by rw[show n-(q+1)=n-q-1 from by omega];exact h3⟩)
def VB(b bm:Nat)(lv:bt)(sz:Int)(T:List Tok)(w:bq)(E:Nat)(C:bG->Nat->Prop)(wr:bq):Prop:=
 ∃(ck cn:Int)(cs:bS)(cl:List bG)(a:fM)(c j:Nat),wr.heap[E]? =some (xK #[ck,cn,cs,xL a cl.length c] 350)/\dF (Dk w E) wr [xI ck,xI cn,xS cs,xL a cl.length c] (.mk ck cn cs cl)/\gp b bm lv sz T wr j/\bh (cg b) w wr/\
  wr.heap[w.heap.size]? =some (xK jl 350)/\C (.mk ck cn cs cl) j
def SI {T:List Tok}{WD:World}{jj:Nat}{ck cn fk fn:Int}{cs fs:ByteArray}{cl fl:List bG}{c:Nat}{ts:List UInt8}
 (hbl:b<w)(iG:gp b bm lv sz T w i)(lT:bh (cg b) w wr)(C2:bh (cg b) wr WD)(ij:bh (cg b) WD w2)
 (Tn:w2.heap[w1.heap.size]? =some (.cells #[.int .i64 ck, .int .i64 cn, .string cs, .slice a cl.length c] 350 (0,0)))
 (QO:WD.heap[w.heap.size]? =some (.cells #[.int .i64 0, .int .i64 0, .string (), .slice none 0 0] 350 (0,0)))
 (Wq:dF (Dk w w1) WD [.int .i64 ck, .int .i64 cn, .string cs, .slice a cl.length c] (.mk ck cn cs cl))
 (fR:dF (gO WD.drew) w2 [.int .i64 fk, .int .i64 fn, .string fs, .slice ya fl.length yc] (.mk fk fn fs fl))(Ju:gp b bm lv sz T w2 jj)
 (hs1:w.heap.size+1<=w1)(hE:w1.heap.size<wr)(ZS:wr.heap.size<=WD)(s2:WD.heap.size<=w2)(tT:ts.length<=200)(C:bG->Nat->Prop)(hC:C (.mk 4 0 (bL ts) [.mk ck cn cs cl, .mk fk fn fs fl]) jj):
 VB b bm lv sz T w w1 C (((((w2.setCell (w1,0) (.int .i64 4)).setCell (w1,1) (.int .i64 0)).setCell (w1,2) (.string (bL ts))).setCell (w1,3) (.slice (w2,0) 2 2)).alloc (.cells #[.int .i64 ck, .int .i64 cn, .string cs, .slice a cl.length c, .int .i64 fk, .int .i64 fn, .string fs, .slice ya fl.length yc] 350)):=by
 obtain⟨W3,hW3⟩:∃W3:World,W3=(((w2.setCell (w1,0) (.int .i64 4)).setCell (w1,1) (.int .i64 0)).setCell (w1,2) (.string (bL ts))).setCell (w1,3) (.slice (w2,0) 2 2):=⟨_,rfl⟩;have wL:W3.heap.size=w2:=by rw[hW3];simp
 have hE3:W3.heap[w1.heap.size]? =some (.cells #[.int .i64 4, .int .i64 0, .string (bL ts), .slice (w2,0) 2 2] 350 (0,0)):=by
  rw[hW3];have h0:=aA w2 w1 0 _ _ (.int .i64 4) Tn;have h1:=aA _ w1 1 _ _ (.int .i64 0) h0;have h2:=aA _ w1 2 _ _ (.string (bL ts)) h1;exact aA _ w1 3 _ _ (.slice (w2,0) 2 2) h2
 have By:bh (λi=>i=w1) w2 W3:=by
  rw[hW3];exact((((bh.refl (λi=>i=w1) w2).setCell (p:=⟨w1,0,none⟩) (.inl rfl) _).setCell (p:=⟨w1,1,none⟩) (.inl rfl) _).setCell (p:=⟨w1,2,none⟩) (.inl rfl) _).setCell (p:=⟨w1,3,none⟩) (.inl rfl) _
 rw[<-hW3];clear hW3;generalize hK:(Obj.cells #[.int .i64 ck, .int .i64 cn, .string cs, .slice a cl.length c, .int .i64 fk, .int .i64 fn, .string fs, .slice ya fl.length yc] 350 (0,0))=K;have ZT:bh (cg b) w (W3.alloc K):=by
  have h1:=(lT.trans C2).trans ij;have h2:bh (cg b) w W3:=h1.dL By (λi hi cE=>by omega);exact h2.alloc _
 have hKb:(W3.alloc K).heap[w2.heap.size]? =some (.cells (([.int .i64 ck, .int .i64 cn, .string cs, .slice a cl.length c]:List Value)++([.int .i64 fk, .int .i64 fn, .string fs, .slice ya fl.length yc]:List Value)).toArray 350 (0,0)):=by
  have h:=az W3 K;rw[wL]at h;rw[h,<-hK];rfl
 have Wr:Ev (Dk w w1) WD (Dk w w1) (W3.alloc K):=
  ⟨((ij.mono (λi hi=> .inl (by unfold cg at hi;omega))).trans (By.mono (λi hi=> .inr hi))).alloc _,λi hi=> .inl hi⟩;have Ws:Ev (gO WD.drew) w2 (Dk w w1) (W3.alloc K):=
  ⟨(By.mono (λi hi=>by show i<WD;omega)).alloc _,λi hi=> .inl (by show i<WD;rcases hi with h|h<;>omega)⟩;refine⟨4,0,bL ts,[.mk ck cn cs cl, .mk fk fn fs fl],some ⟨w2,0,none⟩,2,jj,(aB W3 _ _ (by omega)).trans hE3,dF.iff.2 ⟨_,rfl,?_,by rw[kH];unfold maxLen;omega⟩,iG.step ZT ?_ Ju.le,ZT,?_,hC⟩
 .exact xh (by unfold Dk;omega) hKb (Wq.zC Wr) (fR.zC Ws)
 .exact(aB W3 _ b (by omega)).trans ((By.block b (by omega) (by omega)).trans Ju.box)
 exact(aB W3 _ _ (by omega)).trans ((By.block _ (by omega) (by omega)).trans ((ij.block _ (by omega) (by unfold cg;omega)).trans QO))
def sS(s:bS):Int:=match cB pW s with|some (.int _ v)=>v|_=>0
def H8(s:bS):cB pW s=some (xI (sS s))\/(cB pW s=none/\sS s=0):=by
 unfold sS;cases hq:cB pW s with
 |none=>exact .inr ⟨rfl,rfl⟩
 |some v=>
  left;have hm:∃p∈pW,p.2.1=v:=by
   unfold cB at hq;rw[Option.map_eq_some_iff]at hq;obtain⟨p,h1,h2⟩:=hq;exact⟨p,List.mem_of_find?_eq_some h1,h2⟩
  obtain⟨p,hp,rfl⟩:=hm;simp only[pW,aO,List.not_mem_nil,or_false]at hp;rcases hp with rfl|rfl|rfl|rfl|rfl|rfl|rfl|rfl|rfl|rfl|rfl|rfl<;>rfl
def Pk(w:bq):(zeroValue 3).run prog w= .ok (xI 0) w:=by kernel_rfl
def Eh(h:fX w b)(s:bS):(Instr.lookup 115 (.map (some b)) s false).run prog w= .ok (sS s) w:=by
 rcases H8 s with h1|⟨h1,h2⟩
 .exact cO.lookup fW .string l6 (P:=prog) underlying115 underlying9 jo h s _ h1
 rw[h2];exact cO.SG fW .string l6 (P:=prog) underlying115 underlying9 jo h s _ (Pk w) h1
def yr(c:UInt8)(hc:c∈eQ):sS (bL [c])=(dy [c]:Int):=by
 simp only[eQ,aO,List.not_mem_nil,or_false]at hc;rcases hc with rfl|rfl|rfl|rfl|rfl|rfl|rfl|rfl|rfl|rfl|rfl<;>rfl
def H9(b bm:Nat)(lv:bt)(sz:Int)(T:List Tok)(hsh:rr T)(k:Nat)(HT:H7 b bm lv sz T k)(HE:∀m,m<k->Ef b bm lv sz T m):Ef b bm lv sz T (k+1):=by
 intro least i x r w hl1 Wt hst hp;have hbl:=hst.lt;obtain⟨e0,r0,ZU,Jv⟩:∃e0 r0,kx k (T.drop i)=some (e0,r0)/\oW k least e0 r0=some (x,r):=by
  unfold ke at hp;cases hq:kx k (T.drop i)with
  |none=>rw[hq]at hp;cases hp
  |some q=>obtain⟨e0,r0⟩:=q;rw[hq]at hp;exact⟨e0,r0,rfl,hp⟩
 clear hp;have hb0:bC w (w.alloc (xK jl 350)):=cU;have hcall:=HT i e0 r0 _ (hst.aT hb0) ZU;obtain⟨zk,zn,zs,zl⟩:=e0;have iG:=aV hst;clear hst;have Bz:=aV Jv;clear Jv;have cI:=aV hcall;clear hcall;have ik:=aV hb0;clear hb0;clear ZU;go_enter func348,ntmps348;go_wp2_with fail;refine(cI.o).mono ?_;rintro e w1⟨_,j0,rfl,⟨cs,rfl,hrep⟩,oR,hr1,iX⟩;obtain⟨av,rfl,hsl,hss⟩:=dF.iff.1 hrep;obtain⟨za,zc,rfl,_⟩:=hsl.bj;have hs1:=iX.size;simp at hs1;have Jw:Hd (ed w1 w (xK jl 350)):=(iX.block _ (by simp) (by unfold cg;omega)).trans (az w _);have rU:Hd (bh (cg b) w w1):=((bh.refl _ w).alloc _).dL iX (λi hi _=>hi);have fR:=aV hrep;clear hrep;have qV:=aV oR;clear oR;have nU:=aV hr1;clear hr1;clear hsl hss iX;go_wp2;go_loopg [6,7]k(λg _ _ wr=>∃m:Nat,m<=k/\g=m/\Hd (VB b bm lv sz T w w1 (λcur j=>oW m least cur (T.drop j)=some (x,r)) wr)/\w1.heap.size<wr)
 .refine⟨k,cN,rfl,?_,by simp⟩;have hbb:bC w1 (w1.alloc (xK #[zk,zn,zs,xL za zl.length zc] 350)):=cU;refine(show VB _ _ _ _ _ _ _ _ _ from⟨zk,zn,zs,zl,za,zc,j0,az _ _,?_,qV.o.aT hbb,rU.o.alloc _,(hbb.block _ (by omega)).trans Jw.o,by {show oW k least _ (T.drop j0)=_;rw[<-nU.o];exact Bz.o}⟩);exact fR.o.zC ⟨(bh.refl _ w1).alloc _,λi hi=>by
   rcases hi with h|h
   .exact .inl (by unfold gO;simp;omega)
   exact .inr (by omega)⟩
 obtain⟨m,hm,rfl,HM,hE⟩:=hrel;have⟨ck,cn,cs,cl,a,c,j,hEb,hcr,hps,hon,hR,hC⟩:=HM.o;have⟨pk,pn,ps,pp,hsg,hps2,hps3,hpeek⟩:=yq b bm lv sz T wr j hps;have KN:=aV hpeek;have tS:=aV hps;have HEB:=aV hEb;have Jy:=aV hcr;have lT:=aV hon;have zY:=aV hR;have HSP:=xg hC;clear hpeek hps hEb hcr hon hR hC;go_wp2_with fail;refine dx (KN.o) λw2 cJ=> ?_;have bZ:=aV cJ;have iy:=aV (tS.o.aT cJ);clear cJ;have⟨p0,p1,p2,p3⟩:=aU iy.o.box;have f1:=aY iy.o.box 1;have hbl2:=iy.o.lt;have s2:=bZ.o.size;have qgy:b≠w2:=by omega
 have mD:=λo=>Eh (iy.o.binds.aT (w':=w2.alloc o) (eH.alloc cN o)) ps;have WW:=λo=>Eh (w:=(w2.alloc o).drew) (iy.o.binds.aT (w':=w2.alloc o) (eH.alloc cN o)) ps;unfold lu;go_upto_region 3 with fail;go_cut [7](λs7 wx=>s7=xI (sS ps)/\wx=(w2.alloc (xK #[pk,pn,ps,pp] 396)).drew)
 .go_region;all_goals
   go_wp2;go_meet;exact⟨rfl,rfl⟩
 obtain⟨rfl,hwc⟩:=hcut;have⟨W4,hW4⟩:=dd (wc);subst hW4;have fh:=aV (show bC wr W4 by rw[hwc];exact(bZ.o.alloc bZ.o.size _).drew);have NT:=aV (show ed W4 w2 (xK #[pk,pn,ps,pp] 396)by rw[hwc];exact az w2 _);clear hwc p0 p1 p2 p3 f1 mD WW;have qZ:=aV (tS.o.aT fh.o);have⟨p0,p1,p2,p3⟩:=aU qZ.o.box;have f1:=aY qZ.o.box 1;have⟨m0,m1,m2,m3⟩:=aU NT.o;have HE4:Hd (ed W4 w1 (xK #[ck,cn,cs,xL a cl.length c] 350)):=(fh.o.block _ hE).trans HEB.o;have Nt:Hd (ed W4 w (xK jl 350)):=(fh.o.block _ (by omega)).trans zY.o;have KM:Hd (dF (Dk w w1) W4 [xI ck,xI cn,xS cs,xL a cl.length c] (.mk ck cn cs cl)):=Jy.o.zC (Ev.bA fh.o);have RX:Hd (bh (cg b) w W4):=lT.o.trans (bh.bA fh.o);have⟨e0,e1,e2,e3⟩:=aU HE4.o;have hw4:w2.heap.size<W4:=(ab.1 NT.o).1;rcases HSP with⟨rfl,rfl,hno⟩|⟨m',t,r',f,r2,rfl,hts,hk4,hlb,hex,QP⟩
 .have hcs:(pk !=4)=true\/((pk !=4)=false/\sS ps<(least:Int)):=by
   by_cases h4:pk=4
   .right;refine⟨by simpa using h4,?_⟩;cases hq:T[j]? with
    |none=>have:=(hps3 hq).1;omega
    |some t=>
     have⟨h1,_,h3⟩:=hps2 t hq;have hk4:t.bg=4:=by omega
     have⟨c0,hc0,hs0⟩:=(hsh t (ai hq)).2.2.2 hk4;have hn:=hno t _ (drop_cons hq);rw[h3,hs0,yr c0 hc0,<-hs0];have:¬least<=dy t.s:=λh=>hn ⟨hk4,h⟩;omega
   left;simpa using h4
  have⟨r0,r1,r2,r3⟩:=aU Nt.o;have⟨g0,g1,g2,g3⟩:=iS Nt.o;have hRE:w.heap.size≠w1:=by omega
  generalize sS ps=bv at*;clear hno hps2 hps3 hsg;rcases hcs with h1|⟨h1,h2⟩;all_goals
   go_wp2_with fail;have⟨W',hW'⟩:=dd (((((W4.setCell (w,0) ck).setCell (w,1) cn).setCell (w,2) cs).setCell (w,3) (xL a cl.length c)));rw[<-hW'];have⟨k1,k2,k3⟩:=wu iG.o qZ.o RX.o Nt.o hW';have⟨d0,d1,d2,d3⟩:=aU k3;have tU:=aV (show dF (gO w) W' [xI ck,xI cn,xS cs,xL a cl.length c] (.mk ck cn cs cl)by
    rw[hW'];exact KM.o.zC (((((Ev.eO (M:=Dk w w1) (N:=gO w) W4 (λi h=>by unfold gO at h;exact .inl (by omega))).setCell (p:=⟨w,0,none⟩) (.inl (.inl cN)) _).setCell (p:=⟨w,1,none⟩) (.inl (.inl cN)) _).setCell (p:=⟨w,2,none⟩) (.inl (.inl cN)) _).setCell (p:=⟨w,3,none⟩) (.inl (.inl cN)) _));exact ah (v:= .agg #[ck,cn,cs,xL a cl.length c]) (by simp[results,results348,go_sem,d0,d1,d2,d3]) rfl (show mO _ _ _ _ _ _ _ _ _ _ from⟨_,j,rfl,⟨_,rfl,tU.o⟩,k1,rfl,k2⟩)
 obtain⟨t',BA⟩:∃t',T[j]? =some t':=by
  rcases Nat.lt_or_ge j T.length with h|h
  .exact⟨_,af h⟩
  rw[List.drop_eq_nil_of_le h]at hts;cases hts
 rw[drop_cons BA]at hts;simp only[List.cons.injEq]at hts;obtain⟨rfl,rfl⟩:=hts;have zx:j<T.length:=(ag.1 BA).1;have hmem:=ai BA;have⟨c0,hc0,hs0⟩:=(hsh t' hmem).2.2.2 hk4;have⟨h1,h2,h3⟩:=hps2 t' BA;subst h3;have hbv:sS (bL t'.s)=(dy t'.s:Int):=by rw[hs0];exact yr c0 hc0
 have eZ:=Dl t'.s;have hpk:(pk !=4)=false:=by simp;omega
 rw[hbv];have hge:¬(dy t'.s:Int)<(least:Int):=by omega
 have tT:Hd (t'.s.length<=200):=(hsh t' hmem).1;have FN:=qZ.o.few;have Ur:=aV hex;have Ww:=aV QP;clear hex QP hmem BA hk4 hs0 hc0 hps2 hps3 hsg h1 h2 hbv;generalize hbb:dy t'.s=bb at*;go_upto_region 7 with fail;have⟨WD,hWD⟩:=dd (W4.setCell (b,1) (xI ((j:Int)+1)));rw[<-hWD];have HPD:=aV (show gp b bm lv sz T WD (j+1)by rw[hWD];exact(qZ.o.next zx).1);have C2:=aV (show bh (cg b) W4 WD by rw[hWD];exact(qZ.o.next zx).2);have ZV:Hd (ed WD w1 (xK #[ck,cn,cs,xL a cl.length c] 350)):=C2.o.at_ HE4.o (by unfold cg;omega);have QO:Hd (ed WD w (xK jl 350)):=C2.o.at_ Nt.o (by unfold cg;omega);have uQ:Hd (ed WD w2 (xK #[pk,pn,bL t'.s,pp] 396)):=C2.o.at_ NT.o (by unfold cg;omega);have Wq:Hd (dF (Dk w w1) WD [xI ck,xI cn,xS cs,xL a cl.length c] (.mk ck cn cs cl)):=KM.o.zC ⟨C2.o.mono (λi hi=> .inl (by unfold cg at hi;omega)),λi hi=> .inl hi⟩;have ZS:=C2.o.size;clear hWD p0 p1 p2 p3 f1 m0 m1 m2 m3 e0 e1 e2 e3;have⟨d0,d1,d2,d3⟩:=aU ZV.o;have⟨m0,m1,m2,m3⟩:=aU uQ.o;obtain⟨fk,fn,fs,fl⟩:=f;have hcall:=HE m' (by omega) (bb+1) (j+1) (.mk fk fn fs fl) r2 WD.drew (by omega) (by omega) (HPD.o.aT (w':=WD.drew) ⟨rfl,rfl,rfl,cN,λ_ _=>rfl⟩) Ur.o;rw[show((bb+1:Nat):Int)=(bb:Int)+1 from by omega]at hcall;have zg:=aV hcall;clear hcall;have z1:IntKind.i64.wrap ((bb:Int)+1)=(bb:Int)+1:=aw _ (by omega);go_region_law(first
  |(go_simp;go_at_call 348;refine zg.o.mono ?_;rintro e w5⟨_,jj,rfl,⟨cs2,rfl,hrep⟩,qal,hr5,Xa⟩;obtain⟨av,rfl,hsl,hss⟩:=dF.iff.1 hrep;obtain⟨ya,yc,rfl,_⟩:=hsl.bj;have s5:=Xa.size;simp at s5;have qY:Hd (bh (cg b) WD w5):=(bh.refl _ WD).drew.trans Xa;have YB:Hd (ed w5 w1 (xK #[ck,cn,cs,xL a cl.length c] 350)):=qY.o.at_ ZV.o (by unfold cg;omega);have HP5:Hd (ed w5 w2 (xK #[pk,pn,bL t'.s,pp] 396)):=qY.o.at_ uQ.o (by unfold cg;omega);have qgz:w1.heap.size<w5:=by omega
    have qg0:w2.heap.size<w5:=by omega
    have k0:=(aU YB.o).1;have k1:=(aU YB.o).2.1;have k2:=(aU YB.o).2.2.1;have k3:=(aU YB.o).2.2.2;have j2:=(aU HP5.o).2.2.1;have j2':∀o,(w5.alloc o).cell? (w2,2)=some (xS (bL t'.s)):=λo=>dr w5 o _ j2;have n0:∀o,(w5.alloc o).cell? (w1,0)=some (xI ck):=λo=>dr w5 o _ k0;have n1:∀o,(w5.alloc o).cell? (w1,1)=some (xI cn):=λo=>dr w5 o _ k1;have n2:∀o,(w5.alloc o).cell? (w1,2)=some (xS cs):=λo=>dr w5 o _ k2;have n3:∀o,(w5.alloc o).cell? (w1,3)=some (xL a cl.length c):=λo=>dr w5 o _ k3;have⟨fz0,fz1,fz2,fz3⟩:=iS YB.o;have fR:=aV hrep;have qd0:=aV qal;have Gh:=aV hr5;clear Xa hrep hsl hss qal hr5));all_goals
  clear z1;go_wp2;go_roundg m';case measure=>omega
  case rel=>
   refine⟨m',by omega,rfl,?_,by simp;omega⟩;have FP:=SI hbl iG.o RX.o C2.o qY.o YB.o QO.o Wq.o fR.o qd0.o (by omega) (by omega) ZS s5 tT.o;exact(FP _ (by rw[<-Gh.o];exact Ww.o))
def VC(b bm:Nat)(lv:bt)(sz:Int)(T:List Tok)(hsh:rr T)(k:Nat):Ef b bm lv sz T k/\H7 b bm lv sz T k/\Ce b bm lv sz T k:=by
 induction k using Nat.strongRecOn with
 |ind k ih=>
  refine⟨?_,?_,Cf b bm lv sz T k λm hm=>(ih m hm).1⟩
  .cases k with
   |zero=>intro least i x r w _ _ _ h;simp[ke]at h
   |succ k=>exact H9 b bm lv sz T hsh k (ih k (by omega)).2.1 λm hm=>(ih m (by omega)).1
  cases k with
  |zero=>intro i x r w _ h;simp[kx]at h
  |succ k=>exact Eg b bm lv sz T hsh k (ih k (by omega)).2.2
def Ia(p q r:Addr)(w:bq):
 CallsD prog 347 #[.pointer (some p), .pointer (some q), .pointer (some r)] .returning w λe u' w'=>e=xR (.tuple #[])/\u'= .returning/\w'=w:=by
 refine callsD_of_wpS func347 rfl λTL cs hu=> ?_;apply wpS_seq;apply wpS_region;simp[wpOpsS,go_sem,recoverD,hu,ntmps347,Exit.thenS];apply wpS_seq;apply wpS_region;simp[wpOpsS,go_sem,Exit.thenS];refine wpS_cond (t:=false) (by simp[Act.eval,Array.replicate]) ?_;simp only[Bool.false_eq_true,if_false];refine wpS_of_wp (wp_skip ?_);cases TL;simp_all[bodyPostS,results,results347]
def eX(t:TypeId)(v:bt):Obj:=xK #[v] t
def L2 {n:Nat}{xk xn:Int}{xs:bS}{xl:List bG}{xa:fM}{xc:Nat}(hb:b<w)(ho:bh (cg b) w w1)(hR0:ed w1 w (F9 0 0 () ()))(hR1:cX w1 [w] (eX 3 (xI 0)))(hR2:cX w1 [w,w] (eX 4 false))
 (hsl:aS (eo (gO w) w 3) w1 (xL xa xl.length xc) xl)(hss:xs.size<=maxLen)
 (hW:W'=(((((((((((w1.setCell (w,0) xk).setCell (w,1) xn).setCell (w,2) xs).setCell (w,3) (xL xa xl.length xc)).drewN n).setCell (w,0) xk).setCell (w,1) xn).setCell (w,2) xs).setCell (w,3) (xL xa xl.length xc)).setCell ([w],0) (xI 0)).setCell ([w,w],0) true)):
 W'.heap[w.heap.size]? =some (F9 xk xn xs (xL xa xl.length xc))/\W'.heap[w.heap.size+1]? =some (eX 3 (xI 0))/\W'.heap[w.heap.size+1+1]? =some (eX 4 true)/\dq (gO w) W' (.agg #[xk,xn,xs,xL xa xl.length xc]) (bG.mk xk xn xs xl)/\bh (cg b) w W':=by
 have s4:∀W:bq,bh (λi=>i=w) W ((((W.setCell (w,0) xk).setCell (w,1) xn).setCell (w,2) xs).setCell (w,3) (xL xa xl.length xc)):=λW=>
  ((((bh.refl (λi=>i=w) W).setCell (p:=⟨w,0,none⟩) (.inl rfl) _).setCell (p:=⟨w,1,none⟩) (.inl rfl) _).setCell (p:=⟨w,2,none⟩) (.inl rfl) _).setCell (p:=⟨w,3,none⟩) (.inl rfl) _;have⟨A,hA⟩:=dd ((((w1.setCell (w,0) xk).setCell (w,1) xn).setCell (w,2) xs).setCell (w,3) (xL xa xl.length xc));have oA:bh (λi=>i=w) w1 A:=by rw[hA];exact s4 w1
 have gA:=fG (o:=0) hR0 xk xn xs (xL xa xl.length xc);simp only[Nat.zero_add]at gA;rw[<-hA]at gA hW;have oB:bh (λi=>i=w) w1 (A.drewN n):=oA.drewN n;have gB:(A.drewN n).heap[w.heap.size]? =_:=gA;generalize A.drewN n=B at*;have⟨C,hC⟩:=dd ((((B.setCell (w,0) xk).setCell (w,1) xn).setCell (w,2) xs).setCell (w,3) (xL xa xl.length xc));have oC:bh (λi=>i=w) w1 C:=by rw[hC];exact oB.trans (s4 B)
 have gC:=fG (o:=0) gB xk xn xs (xL xa xl.length xc);simp only[Nat.zero_add]at gC;rw[<-hC]at gC hW;have gC1:=oC.at_ hR1 (by omega);have gC2:=oC.at_ hR2 (by omega);have⟨D,hD⟩:=dd (C.setCell ([w],0) (xI 0));have oD:bh (λi=>i=[w]) C D:=by rw[hD];exact(bh.refl (λi=>i=[w]) C).setCell (p:=⟨[w],0,none⟩) (.inl rfl) _
 have gD1:=aA C [w] 0 _ _ (xI 0) gC1;rw[<-hD]at gD1 hW;have oE:bh (λi=>i=[w,w]) D W':=by rw[hW];exact(bh.refl (λi=>i=[w,w]) D).setCell (p:=⟨[w,w],0,none⟩) (.inl rfl) _
 have gE2:=aA D [w,w] 0 _ _ true (oD.at_ gC2 (by omega));rw[<-hW]at gE2;have qam:bh (λi=>w<=i/\i<[w,w,w]) w1 W':=((oC.mono λi hi=>by have:i=w:=hi;omega).trans (oD.mono λi hi=>by have:i=[w]:=hi;omega)).trans (oE.mono λi hi=>by have:i=[w,w]:=hi;omega);refine⟨?_,?_,?_,⟨_,rfl,dF.iff.2 ⟨_,rfl,hsl.ev ⟨qam.mono λi hi=> .inr ⟨hi.1,by omega⟩,λi hi=> .inl (.inl hi)⟩,hss⟩⟩,?_⟩
 .exact oE.at_ (oD.at_ (by simpa [F9]using gC) (by omega)) (by omega)
 .exact oE.at_ (by simpa [eX]using gD1) (by omega)
 .simpa [eX]using gE2
 exact ho.dL (qam) λi hi cE=>by omega
def Pl(b bm:Nat)(lv:Value)(sz:Int)(T:List Tok)(hsh:rr T)(x:bG)(hp:ke 60 1 T=some (x,[]))(w:World)(hst:gp b bm lv sz T w 0):
 xC 303 #[xP b] w λe w'=>∃v,e=xR (.tuple #[v,xI 0,true])/\dq (gO w) w' v x/\bh (cg b) w w':=by
 have BC:∀(fn:Fn)(bu cap:Array Value)(w:World),(Instr.makeFunc fn bu cap).run prog w= .ok (.func fn bu cap) w:=λ_ _ _ _=>rfl;have HE:=ie (w:=w) (λW hb=>(VC b bm lv sz T hsh 60).1 1 0 x [] W (by omega) (by omega) (hst.aT hb) (by simpa using hp));have hbl:=hst.lt;have iG:=aV hst;go_enter_defers func303,ntmps303;go_wp2_with fail;refine(HE.o _ (Bx.iN w _ _ _).1).mono ?_;rintro e w1⟨_,j,rfl,⟨cs,rfl,hrep⟩,hps,hj,hon⟩;obtain⟨xk,xn,xs,xl⟩:=x;obtain⟨av,rfl,hsl,hss⟩:=dF.iff.1 hrep;obtain⟨xa,xc,rfl,_⟩:=hsl.bj;have tS:=aV hps;have lT:Hd (bh (cg b) w w1):=((((bh.refl _ w).alloc _).alloc _).alloc _).trans hon;have gS:Hd (aS (eo (gO w) w 3) w1 (xL xa xl.length xc) xl):=hsl.ev (Ev.eO w1 λi hi=>by
  show i<_;have:i<w\/(w<=i/\i<↑w+3):=hi;simp;omega);have HJ:=aV (show j=T.length by
  have h1:T.drop j=[]:=hj.symm;have h2:=hps.le;have h3:=congrArg List.length h1;simp at h3;omega);have RZ:Hd (w1.heap[w.heap.size]? =some (F9 0 0 () ())):=hon.at_ ((Bx.iN w _ (eX _ (xI 0)) (eX _ false)).cP rfl) (by unfold cg;omega);have nU:Hd (w1.heap[w.heap.size+1]? =some (eX 3 (xI 0))):=hon.at_ ((Bx.iN w _ _ _).cZ rfl) (by unfold cg;omega);have vZ:Hd (w1.heap[w.heap.size+1+1]? =some (eX 4 false)):=hon.at_ ((Bx.iN w _ _ _).im rfl) (by unfold cg;omega);have⟨r0,r1,r2,r3⟩:=aU RZ.o;have⟨f0,f1,f2,f3⟩:=iS RZ.o;have s0:=aY nU.o 0;have s1:=aY vZ.o 0;have m0:w1.cell? ([w],0)=some (xI 0):=by simp[World.cell?,nU.o,eX]
 have m1:w1.cell? ([w,w],0)=some (xB false):=by simp[World.cell?,vZ.o,eX]
 have⟨q0,q1,q2,q3⟩:=aU tS.o.box;have wK:b≠w:=by omega
 have iH:∃a c,lv=xL a T.length c:=by have⟨a,c,h,_⟩:=tS.o.cells;exact⟨a,c,h⟩
 obtain⟨lva,lvc,rfl⟩:=iH;have cE:¬(j:Int)<(T.length:Int):=by have:=HJ.o;omega
 go_wp2_with fail;go_quiet(fail);go_wp2_with fail;have⟨W',hW'⟩:=dd ((((((((((((w1.setCell (w,0) xk).setCell (w,1) xn).setCell (w,2) xs).setCell (w,3) (xL xa xl.length xc)).drewN nq).setCell (w,0) xk).setCell (w,1) xn).setCell (w,2) xs).setCell (w,3) (xL xa xl.length xc)).setCell ([w],0) (xI 0)).setCell ([w,w],0) true));rw[<-hW'];have⟨g0,g1,g2,g3,g4⟩:=L2 hbl lT.o RZ.o nU.o vZ.o gS.o hss hW';have⟨a0,a1,a2,a3⟩:=aU g0;have a4:W'.cell? ([w],0)=some (xI 0):=by simp[World.cell?,g1,eX]
 have a5:W'.cell? ([w,w],0)=some (xB true):=by simp[World.cell?,g2,eX]
 refine leaves_cons (f:=347) (args:= #[xP w,xP [w],xP [w,w]]) (by simp) (by simp[go_sem]) ?_;refine(Ia ⟨w,0,none⟩ ⟨[w],0,none⟩ ⟨[w,w],0,none⟩ _).mono ?_;rintro e u' w''⟨rfl,rfl,rfl⟩;refine⟨.tuple #[.agg #[xk,xn,xs,xL xa xl.length xc],xI 0,true],by simp[results,results303,go_sem,a0,a1,a2,a3,a4,a5],⟨_,rfl,g3,g4⟩⟩
def Ei(w:bq)(o:Obj):(w.alloc o).heap.size=[w]:=by simp
def Ej:(Tryz.prog.info? 396).map (λi=>(i.zero,i.size,i.bytes))=some (some (.agg #[xI 0,xI 0,"",xI 0]),4,40):=by kernel_rfl
def L3(s:bS)(w:bq):xC 302 #[s] w λe w'=>e=xR (.func (.func 345) #[] #[xP w.heap.size])/\w.alloc (xK #[s] 9)=w':=by
 have BC:∀(fn:Fn)(bu cap:Array bt)(w:bq),(Instr.makeFunc fn bu cap).run prog w= .ok (.func fn bu cap) w:=λ_ _ _ _=>rfl;delta xC;go_in;go_wp2;go_ret;exact⟨rfl,rfl⟩
def L4(b bm:Nat)(sz:Nat)(T:List Tok)(w:bq)(i:Nat)(W:bq):Prop:=
 ∃lv,W.heap[b]? =some (xK #[lv,xI 0,sz, .map (some bm)] 391)/\bP xF (↑w+2) 396 W lv ((T.take i).map gZ)/\bh (λj=>j=b) w W/\fX W bm
def L4.only {sz:Nat}{T:List Tok}{B:bq}(h:L4 b bm sz T w i A)(ho:bh (St w 0) A B)(hb:b<w)(hm:bm<w):L4 b bm sz T w i B:=by
 obtain⟨lv,h1,h2,h3,h4⟩:=h;refine⟨lv,ho.at_ h1 (λh=>by have:=h.1;omega),?_,?_,h4.only ho (λh=>by have:=h.1;omega)⟩
 .obtain⟨css,k1,k2,k3⟩:=h2;refine⟨css,⟨k1.1,?_⟩,k2,k3⟩;rcases k1.2 with h0|⟨g,cap,cur,e1,e2,e3,e4⟩
  .exact .inl h0
  exact .inr ⟨g,cap,cur,e1,e2,ho.at_ e3 (λh=>by have:=h.2;omega),e4⟩
 exact h3.dL ho λi hi cE=>by have:=hi.1;omega
def bP.swap {α:Type} [bD α]{xs:List α}(h:bP M base e w v xs)(hS:∀{M M':bY}{cs:List bt}{x:α},bD.rep M w cs x->bD.rep M' w cs x):bP M' base e w v xs:=by
 obtain⟨css,k1,k2,k3⟩:=h;exact⟨css,k1,k2,λi cs x hc hx=>hS (k3 i cs x hc hx)⟩
def L5 {sz cap2:Nat}{T:List Tok}{W3:bq}{a2:fM}{t:Tok}(hon:bh (λj=>j=b) w2 W2)(Nu:fX W2 bm)(hb:b<w2)(hne:bm≠b)(TM:bm<w2)(h3:Below (↑w2+2) (W2.alloc o) W3)(hz:w2.heap.size+2<=W2)
 (wO:cX W3 b (xK #[lv,xI 0,sz, .map (some bm)] 391)){n:Nat}(hacc:bP xF (↑w2+2) 396 W3 (xL a2 n cap2) ((T.take i).map gZ++[gZ t]))(hT:(T.take (i+1)).map gZ=(T.take i).map gZ++[gZ t]):
 bh (NF (λj=>j=b) w2 0) W2 (W3.setCell (b,0) (xL a2 n cap2))/\L4 b bm sz T w2 (i+1) (W3.setCell (b,0) (xL a2 n cap2)):=by
 have o3:bh (λj=>↑w2+2<=j) W2 W3:=by
  have h1:bh (λj=>↑w2+2<=j) W2 (W2.alloc o):=(bh.refl _ W2).alloc o;refine h1.trans ⟨h3.os,h3.tape,h3.output,h3.size,λj hj hS=>h3.block j (by omega)⟩
 have o4:bh (λj=>j=b) W3 (W3.setCell (b,0) (xL a2 n cap2)):=(bh.refl (λj=>j=b) W3).setCell (p:=⟨b,0,none⟩) (.inl rfl) _;have o5:bh (NF (λj=>j=b) w2 0) W2 (W3.setCell (b,0) (xL a2 n cap2)):=(o3.mono λj hj=> .inr hj).trans (o4.mono λj hj=> .inl hj);refine⟨o5,_,by simpa using aA W3 b 0 _ _ (xL a2 n cap2) wO,?_,?_,Nu.only o5 (λh=>by rcases h with h|h;exact hne h;omega)⟩
 .rw[hT];exact hacc.KX o4 (λj hj=>by have:j=b:=hj;omega) (λh=>h)
 exact hon.dL o5 λj hj cE=>by rcases hj with hj|hj;exact hj;omega
def kS {S:bY}(h:Below B w w2)(hB:B<=w2)(k:bh S w2 W)(hS:∀i,S i->B<=i):Below B w W:=
 ⟨k.os.trans h.os,k.tape.trans h.tape,k.output.trans h.output,aH h.size k.size,λi hi=>(k.block i (by omega) (λhs=>by have:=hS i hs;omega)).trans (h.block i hi)⟩
def L6 {w4:bq}{xk xn:Int}{xs:bS}{sl:bt}(h0:ed w4 w (F9 0 0 () ()))(h1:cX w4 [w] (eX 3 (xI 0)))(h2:cX w4 [w,w] (eX 42 (xI 0)))
 (hW:W'=(((((w4.setCell (w,0) xk).setCell (w,1) xn).setCell (w,2) xs).setCell (w,3) sl).setCell ([w],0) (xI 0)).setCell ([w,w],0) (xI 0)):
 W'.heap[w.heap.size]? =some (F9 xk xn xs sl)/\W'.heap[w.heap.size+1]? =some (eX 3 (xI 0))/\W'.heap[w.heap.size+1+1]? =some (eX 42 (xI 0))/\bh (λj=>w<=j/\j<↑w+3) w4 W':=by
 have⟨C,hC⟩:=dd ((((w4.setCell (w,0) xk).setCell (w,1) xn).setCell (w,2) xs).setCell (w,3) sl);have oC:bh (λi=>i=w) w4 C:=by rw[hC];exact((((bh.refl (λi=>i=w) w4).setCell (p:=⟨w,0,none⟩) (.inl rfl) _).setCell (p:=⟨w,1,none⟩) (.inl rfl) _).setCell (p:=⟨w,2,none⟩) (.inl rfl) _).setCell (p:=⟨w,3,none⟩) (.inl rfl) _
 have gC:=fG (o:=0) h0 xk xn xs sl;simp only[Nat.zero_add]at gC;rw[<-hC]at gC hW;have gC1:=oC.at_ h1 (by omega);have gC2:=oC.at_ h2 (by omega);have⟨D,hD⟩:=dd (C.setCell ([w],0) (xI 0));have oD:bh (λi=>i=[w]) C D:=by rw[hD];exact(bh.refl (λi=>i=[w]) C).setCell (p:=⟨[w],0,none⟩) (.inl rfl) _
 have gD1:=aA C [w] 0 _ _ (xI 0) gC1;rw[<-hD]at gD1 hW;have oE:bh (λi=>i=[w,w]) D W':=by rw[hW];exact(bh.refl (λi=>i=[w,w]) D).setCell (p:=⟨[w,w],0,none⟩) (.inl rfl) _
 have gE2:=aA D [w,w] 0 _ _ (xI 0) (oD.at_ gC2 (by omega));rw[<-hW]at gE2;refine⟨oE.at_ (oD.at_ (by simpa [F9]using gC) (by omega)) (by omega),oE.at_ (by simpa [eX]using gD1) (by omega),by simpa [eX]using gE2,?_⟩;exact((oC.mono λi hi=>by have:i=w:=hi;omega).trans (oD.mono λi hi=>by have:i=[w]:=hi;omega)).trans (oE.mono λi hi=>by have:i=[w,w]:=hi;omega)
def Pm(w:bq)(x:bG)(v:bt)(w':bq):Prop:=∃u,v= .tuple #[u,xI 0,xI 0]/\dq (gO w) w' u x
def L7(s:ByteArray)(x:bG)(T:List Tok)(hs:s.size<=200)(hT:mM s 0 T)(hsh:rr T)(hk:∀t∈T,1<=t.bg/\t.bg<=4)(hl:T.length<=200)(hp:ke 60 1 T=some (x,[]))(hxn:ju x=true)(hxd:lV x<=8)(hxs:fw x<=40)(w:World)(hTb:Tb w):
 xG 267 #[s] w (Pm w x):=by
 have Wx:=aV hT;have UF:=aV hTb;have HK:=aV hk;clear hT hTb hk;refine callsIn_wide.1 (callsIn_of_wp_marks (n:=0) func267 rfl trivial (wpIn_wide.2 ?_) rfl);simp only[ntmps267,List.size_toArray,aC,aD,Nat.reduceAdd,Nat.reduceSub,Array.replicate_succ,Array.replicate_zero,List.push_toArray,List.append_toArray,List.nil_append,List.cons_append];go_wp2_with fail;refine(vj _).mono ?_;rintro e w1⟨bm,rfl,Nu,TM,hb1⟩;have cu:=aV ((Bx.iN w (F9 0 0 () ()) (eX 3 (xI 0)) (eX 42 (xI 0))).aT hb1);have Wv:=aV Nu;have nk:Hd (bm<w1):=(ab.1 Nu).1;clear hb1 Nu;go_wp2_with fail;refine(L3 s _).mono ?_;rintro e w2⟨rfl,rfl⟩;go_wp2_with fail;have⟨w2,hw2⟩:=dd ((w1.alloc (xK #[(),xI 0,s.size, .map (some bm)] 391)).alloc (xK #[s] 9));have bZ:=aV (show Bx w [F9 0 0 () (),eX 3 (xI 0),eX 42 (xI 0)] w2 by rw[hw2];exact(cu.o.alloc _).alloc _);have qan:=aV (show fX w2 bm by rw[hw2];exact Wv.o.aT (cU.alloc (by simp) _));have HPB:=aV (show w2.heap[w1.heap.size]? =some (xK #[(),xI 0,s.size, .map (some bm)] 391)by rw[hw2];exact(Bx.ei w1 _ _).cP rfl);have tS:=aV (show w2.heap[w1.heap.size+1]? =some (xK #[s] 9)by rw[hw2];exact(Bx.ei w1 _ _).cZ rfl);have hz2:w2.heap.size=[w1,w1]:=by rw[hw2];simp
 have hz1:=cu.o.cM;rw[<-hw2];have JI:Hd (bm<w2):=(ab.1 qan.o).1;clear hw2 Wv;simp only[aC,aD]at hz1;have zp:=aV (show Hi prog 345 #[xP [w1]] w2 (λi=>i=w1) 0 0 (Hv T) (λi=>i=T.length)from
  Hw s hs T Wx.o [w1] w w2 bZ.o.1 UF.o (by have:=tS.o;simp[World.cell?,this]) (by omega) _ (by omega) (λi hi=>by rw[hi];omega));refine wpIn_wide.1 (qA rfl (enters_of func345 (by kernel_rfl) rfl) (λi=>i=w1) 0 0 (Hv T) (λi=>i=T.length) zp.o (λi args i' W h=>by obtain⟨t,_,rfl,_⟩:=h;rfl) (λi hi=>by rw[hi];omega)
  (L4 w1 bm s.size T w2) (λ_ _=>False) (λi A B h ho=>h.only ho (by omega) JI.o) (λc A B h _=>h) ?h0 ?hround ?hdone ?hstop);case h0=>
  exact⟨_,HPB.o,bP.nil _ _ _ _,bh.refl _ _,qan.o⟩
 case hround=>
  intro l i args i' W hI hTl hsz;obtain⟨t,ht,rfl,rfl,NN⟩:=hTl;obtain⟨lv,wO,hacc,hon,Nu⟩:=hI;simp only[lu];gi_wp2_with(rw[Oper.semAt_eq _ _ _ (λc h=>by cases h)];go_simp;try go_bits);have hP:L4 w1 bm s.size T w2 i W:=⟨_,wO,hacc,hon,Nu⟩;refine⟨(bh.refl _ W).alloc _,λW2 ho2 hzW=> ?_⟩;have hP2:=(hP.only ((bh.refl (St w2 0) W).alloc _) (by omega) JI.o).only (ho2.mono λi hi=>(show St w2 0 i from by have:i=[w2]:=hi;exact⟨by omega,by omega⟩)) (by omega) JI.o;have Re:=ho2.at_ (az W _) (by show¬W.heap.size=[w2];omega);obtain⟨lv,wO,hacc,hon,Nu⟩:=hP2;obtain⟨a,cap,rfl,hcl,Jo⟩:=hacc.bj;have qd1:=aV wO;have nT:=aV hacc;have lT:=aV hon;have qd2:=aV Nu;have HPC:=aV Re;have⟨q0,q1,q2,q3⟩:=aU Re;have⟨p0,p1,p2,p3⟩:=aU wO;have hk1:((t.bg:Int)==0)=false:=by simp;omega
  have⟨i0,hi0,hzz0,hzz1,hzz2⟩:=info_parts Ej;have wJ:=(ag.1 ht).1;have oQ:=aV (show(T.take (i+1)).map gZ=(T.take i).map gZ++[gZ t]by rw[ao,ht];simp);simp only[aL,aK]at hcl p0;rw[Nat.min_eq_left (by omega)]at hcl p0;have Ac:=aV (show(bL t.s).size<=200 by have:=(hsh t (ai ht)).1;simpa [bL,ByteArray.size]using this);have fB:=aV (show((T.take i).map gZ).length=i by simp;omega);have dR:=aV (show bP xF (↑w2+2) 396 W2 (xL a i cap) ((T.take i).map gZ)by have h:=nT.o;rw[fB.o]at h;exact h);have qd3:=aV (show W2.heap[w1.heap.size]? =some (xK #[xL a i cap,xI 0,s.size, .map (some bm)] 391)by have h:=qd1.o;rw[fB.o]at h;exact h);simp only[Ei]at hzW;clear wO hacc hon Nu Re hP ht ho2;gi_wp2_with(first
   |(gi_at_builtin;go_loud(refine qQ (α:=xb) rfl _ _ _ rfl xF (↑w2+2) 396 i0 _ 40 underlying386 hi0 hzz0 hzz1 hzz2 rfl (by decide) (.slice a i cap) ((T.take i).map gZ) rfl (dR.o.alloc _) (λ_=>True) _ _ (gZ t) rfl (jz _ _ _ _ 4 rfl hzW trivial) ⟨rfl,Ac.o⟩ (by rw[fB.o];unfold maxLen;omega) (by rw[fB.o];omega) (by show _<=(W2.alloc _).heap.size;simp;omega) ?_);rw[fB.o];intro a2 c2 W3 kZ zt hb3;have qq:=aV kZ;have cR:=aV hb3;have Xb:Hd (W3.heap[w1.heap.size]? =some (xK #[xL a i cap,xI 0,s.size, .map (some bm)] 391)):=(hb3.block _ (by omega)).trans ((aB W2 _ _ (by omega)).trans qd3.o);have p0':=(aU Xb.o).1;have f0':=aY Xb.o 0;clear kZ zt hb3)
   |(rw[Oper.semAt_eq _ _ _ (λc h=>by cases h)];go_simp;try go_bits));exact L5 lT.o qd2.o (by omega) (by have:=nk.o;omega) JI.o cR.o (by omega) Xb.o qq.o oQ.o
 case hdone=>
  intro i W hE hI hD;obtain rfl:i=T.length:=hE;obtain⟨lv,wO,hacc,hon,Nu⟩:=hI;rw[List.take_length]at hacc;have hbW:=bZ.o.1.size;have hsW:=hon.size;have HPX:Hd (gp w1 bm lv s.size T W 0):=⟨wO,(hacc.swap (M':=cg w1) (λh=>h)).slice (λj hj=>by have:j=w1:=hj;omega),Nu,by have:=nk.o;omega,hl,ax _,HK.o⟩;have HWH:=aV (Pl w1 bm lv s.size T hsh x hp W HPX.o);have lT:=aV hon;have HD:=aV hD;clear wO hacc hon Nu hD hp;go_wp2_with fail;refine(HWH.o).mono ?_;rintro e w3⟨_,rfl,hag,Af⟩;have HR:Hd (∀W' v,bC w3 W'->dq (gO W) w3 v x->_):=λW' v hb ha=>AM x hxn hxd hxs (gO W) W' v (λj hj=>by
   have:j<W:=hj;have h1:=Af.size;have h2:=hb.size;omega) (ha.aT hb) (UF.o.aT ((kS (kS bZ.o.1 hbW lT.o (λj hj=>by omega)) (by omega) Af (λj hj=>by have:j=w1:=hj;omega)).trans (hb.mono (by have:=Af.size;omega))));obtain⟨xk,xn,xs,xl⟩:=x;have tU:=aV hag;obtain⟨cs,rfl,hrep⟩:=hag;obtain⟨av,rfl,hsl,hss⟩:=dF.iff.1 hrep;obtain⟨xa,xc,rfl,_⟩:=hsl.bj;have gS:=aV hsl;have R0:=Af.at_ (lT.o.at_ (bZ.o.cP rfl) (by omega)) (by unfold cg;omega);have R1:=Af.at_ (lT.o.at_ (bZ.o.cZ rfl) (by omega)) (by unfold cg;omega);have R2:=Af.at_ (lT.o.at_ (bZ.o.im rfl) (by omega)) (by unfold cg;omega);have HD3:=aV (Af.at_ HD.o (by unfold cg;omega));have cR:Hd (bC w w3):=kS (kS bZ.o.1 hbW lT.o (λj hj=>by omega)) (by omega) Af (λj hj=>by have:j=w1:=hj;omega);have RZ:=aV R0;have nU:=aV R1;have vZ:=aV R2;have RW:=Af.size;clear hrep hsl Af hxn hxd hxs R0 R1 R2;go_wp2_with fail;refine(HR.o _ _ cU tU.o).mono ?_;rintro e w4⟨rfl,eZ⟩;have nX:Hd (w4.heap[w3.heap.size]? =some (F9 xk xn xs (xL xa xl.length xc))):=boxed eZ;have fh:=aV (ct eZ);have⟨q0,q1,q2,q3⟩:=aU nX.o;have lt0:w.heap.size<w3:=by omega
  have lt1:w.heap.size+1<w3:=by omega
  have lt2:w.heap.size+1+1<w3:=by omega
  have Xc:=aV ((fh.o.block _ lt0).trans RZ.o);have Xd:=aV ((fh.o.block _ lt1).trans nU.o);have Xe:=aV ((fh.o.block _ lt2).trans vZ.o);have Gq:=aV ((fh.o.block _ (ab.1 HD3.o).1).trans HD3.o);have⟨r0,r1,r2,r3⟩:=aU Xc.o;have⟨f0,f1,f2,f3⟩:=iS Xc.o;have s0:=aY Xd.o 0;have s1:=aY Xe.o 0;have m0:w4.cell? ([w],0)=some (xI 0):=by simp[World.cell?,Xd.o,eX]
  have m1:w4.cell? ([w,w],0)=some (xI 0):=by simp[World.cell?,Xe.o,eX]
  clear eZ HR;go_wp2_with fail;have⟨W',hW'⟩:=dd ((((((w4.setCell (w,0) xk).setCell (w,1) xn).setCell (w,2) xs).setCell (w,3) (xL xa xl.length xc)).setCell ([w],0) (xI 0)).setCell ([w,w],0) (xI 0));rw[<-hW'];have⟨g0,g1,g2,g3⟩:=L6 Xc.o Xd.o Xe.o hW';have gd:=g3.at_ Gq.o (by omega);refine⟨by simp, .inl ⟨_,_,rfl,run_takeDeferred gd,?_⟩⟩;have⟨W2,hW2⟩:=dd (W'.putObj w2 (.deferred none));rw[<-hW2];have o2:bh (λj=>j=w2) W' W2:=by rw[hW2];exact(bh.refl (λj=>j=w2) W').putObj (.inl rfl) _
  have o4:bh (λj=>w<=j/\j<=w2) w4 W2:=(g3.mono λj hj=>⟨hj.1,by omega⟩).trans (o2.mono λj hj=>by have:j=w2:=hj;omega);have k0:=o2.at_ g0 (by omega);have k1:=o2.at_ g1 (by omega);have k2:=o2.at_ g2 (by omega);have h2W:w2.heap.size<W:=(ab.1 HD.o).1;have⟨a0,a1,a2,a3⟩:=aU k0;have a4:W2.cell? ([w],0)=some (xI 0):=by simp[World.cell?,k1,eX]
  have a5:W2.cell? ([w,w],0)=some (xI 0):=by simp[World.cell?,k2,eX]
  refine⟨.tuple #[.agg #[xk,xn,xs,xL xa xl.length xc],xI 0,xI 0],by simp[results,results267,go_sem,a0,a1,a2,a3,a4,a5],(show de _ _ _ _ from⟨_,rfl,⟨_,rfl,⟨_,rfl,dF.iff.2 ⟨_,rfl,?_,hss⟩⟩⟩,?_⟩)⟩
  .refine aS.ev (gS.o.aT fh.o) ⟨o4.mono λj hj=> ?_,λj hj=> .inl ?_⟩
   .show j<W;omega
   have h1:j<w:=hj;show j<W;omega
  exact kS (cR.o.trans (fh.o.mono (by omega))) (by have:=fh.o.size;omega) o4 (λj hj=>hj.1)
 case hstop=>intro c W h;exact h.elim
instance:bD cq where
 size:=2
 rep:=λ_ _ cs x=>cs=[xI x.bg,xI x.of]
 len:=λh=>by rw[h];rfl
 flat:=λh u hu=>by rw[h]at hu;simp at hu;rcases hu with rfl|rfl<;>rfl
 ev:=λh _=>h
def Ub(h:W.heap[g]? =some (xK #[c0] t)):W.cell? (g,0)=some c0:=by simp[World.cell?,h]
def Ie {l:List cq}(h:aS M w v l){x:cq}(hx:l[k]? =some x):∃b off cap,v=xL (b,off) l.length cap/\b<w.heap.size/\∀W,bC w W->cC W b (off+k*2) x.bg/\cC W b (off+k*2+1) x.of:=by
 obtain⟨a,cap,rfl,hl,_,hc⟩:=h.bj;have hk:=(ag.1 hx).1;obtain⟨b,off,rfl,_,hb,hcell⟩:=hc (by omega);obtain⟨cs,rfl,hcs⟩:=hcell k x hx;refine⟨b,off,cap,rfl,hb,λW hB=> ?_⟩;have g:∀j u,([xI x.bg,xI x.of]:List bt)[j]? =some u->cC W b (off+k*2+j) u:=λj u hu=>(hB.cell (p:=⟨b,off+k*2+j,none⟩) hb).trans (hcs j u hu);exact⟨g 0 _ rfl,g 1 _ rfl⟩
def yt {l:List Int}(h:aS M w v l){x:Int}(hx:l[k]? =some x):∃b off cap,v=xL (b,off) l.length cap/\b<w.heap.size/\∀W,bC w W->cC W b (off+k) x:=by
 obtain⟨a,cap,rfl,hl,_,hc⟩:=h.bj;have hk:=(ag.1 hx).1;obtain⟨b,off,rfl,_,hb,hcell⟩:=hc (by omega);obtain⟨cs,rfl,hcs⟩:=hcell k x hx;refine⟨b,off,cap,rfl,hb,λW hB=> ?_⟩;have:=(hB.cell (p:=⟨b,off+k*1+0,none⟩) hb).trans (hcs 0 _ rfl);simpa using this
def Po(hM:¬M w)(xs:List Int)(n:Nat)(hn:xs.length=n)(hb:n<=1000)(t:TypeId):aS (α:=Int) M (w.alloc (.cells (xs.map (Value.int .i64)).toArray t)) (xL (w,0) n n) xs:=by
 subst hn;refine⟨xs.map λx=>[xI x],?_,by simp,?_⟩
 .have e:(xs.map λx=>[Value.int .i64 x]).flatten=xs.map (Value.int .i64):=by
   induction xs with
   |nil=>rfl
   |cons a r ih=>simp at ih⊢;exact ih (by simp at hb;omega)
  rw[e];refine⟨by simp[bD.size],some ⟨w,0,none⟩,xs.length,rfl,cN,by unfold maxLen;omega,λ_=>⟨w,0,rfl,hM,by simp,?_⟩⟩;intro j u hu;rw[Nat.zero_add];exact cell_of_heap (az w _) (by simpa using hu)
 intro i cs x hc hx;rw[List.getElem?_map,hx]at hc;simp at hc;exact hc.symm
def jq(F:bY)(w:bq)(v:bt)(bg:Int)(ks:List Int):Prop:=
 ∃p q kv,v= .func (.func 426) #[] #[xP p,xP q]/\¬F p/\¬F q/\w.heap[p]? =some (xK #[kv] 65)/\w.heap[q]? =some (xK #[bg] 3)/\aS F w kv ks
def jq.only {bg:Int}{ks:List Int}(h:jq F w v bg ks)(ho:bh F w w'):jq F w' v bg ks:=by
 obtain⟨p,q,kv,h1,h2,h3,h4,h5,h6⟩:=h;exact⟨p,q,kv,h1,h2,h3,ho.at_ h4 h2,ho.at_ h5 h3,h6.ev ⟨ho,λ_ h=> .inl h⟩⟩
def yu(bg:Int)(a:fM)(n c:Nat)(w:bq):xC 387 #[bg,xL a n c] w λe w'=>e=xR (.func (.func 426) #[] #[xP [w],xP w.heap.size])/\(w.alloc (xK #[bg] 3)).alloc (xK #[xL a n c] 65)=w':=by
 have BC:∀(fn:Fn)(bu cap:Array bt)(w:bq),(Instr.makeFunc fn bu cap).run prog w= .ok (.func fn bu cap) w:=λ_ _ _ _=>rfl;delta xC;go_in;go_wp2;go_ret;exact⟨rfl,rfl⟩
def yx(w:bq)(hF:∀i,F i->i<w.heap.size)(bg:Int)(ks:List Int)(n:Nat)(hn:ks.length=n)(hb:n<=1000):
 jq F (((w.alloc (.cells (ks.map (Value.int .i64)).toArray 3)).alloc (xK #[bg] 3)).alloc (xK #[xL (w,0) n n] 65)) (.func (.func 426) #[] #[xP [w,w],xP [w]]) bg ks:=by
 have hB:=Bx.iN w (.cells (ks.map (Value.int .i64)).toArray 3 (0,0)) (xK #[bg] 3) (xK #[xL (w,0) n n] 65);refine⟨_,_,_,rfl,λh=>by have:=hF _ h;omega,λh=>by have:=hF _ h;omega,hB.im rfl,hB.cZ rfl,?_⟩;refine(Po (M:=F) (w:=w) (λh=>by have:=hF _ h;omega) ks n hn hb 3).aT ?_;exact cU.alloc (by simp) _
def uB(ts:List cq)(bg:Int)(M F:bY)(w:bq)(pv v:bt)(ht:ts.length<=8)(hp:aS M w pv ts)(p q:Nat)(kv:bt)(h4:cX w p (xK #[kv] 65))(h5:cX w q (xK #[bg] 3))(h6:aS F w kv (ts.map (·.bg))):
 xC 426 #[pv,xP p,xP q] w (di (.tuple #[.agg #[bg,xI 0],true]) w):=by
 have JJ:Hd (∀(i:Nat)(x:cq),ts[i]? =some x->_):=λi x hx=>Ie hp hx;have FV:Hd (∀(i:Nat)(x:Int),(ts.map (·.bg))[i]? =some x->_):=λi x hx=>yt h6 hx;obtain⟨pa,pc,rfl,iJ,hpm,_⟩:=hp.bj;have⟨ka,kc,hkv,hkl,hkm,_⟩:=h6.bj;subst hkv;have hpw:p<w:=(ab.1 h4).1;have hqw:q<w:=(ab.1 h5).1;have HP:Hd (∀W,bC w W->cC W p 0 (xL ka (ts.map (·.bg)).length kc)/\cC W q 0 bg):=λW hb=>⟨Ub ((hb.block p hpw).trans h4),Ub ((hb.block q hqw).trans h5)⟩;rw[aL]at hkl;generalize hn:ts.length=n at*;have HMK:=aV (show(ts.map (·.bg)).length=n by rw[aL];exact hn);rw[HMK.o]at HP FV;have fB:=aV hn;delta xC;go_in;go_wp2_with fail;have ik:Hd (bC w (w.alloc (xK #[xI 0,xI 0] 55))):=cU;have RZ:Hd ((w.alloc (xK #[xI 0,xI 0] 55)).heap[w.heap.size]? =some (xK #[xI 0,xI 0] 55)):=az w _;go_loopg [6,7,10]n(λg _ _ iv wr=>∃i:Nat,i<=n/\g=n-i/\iv=xI i/\Hd (bC w wr)/\Hd (ed wr w (xK #[xI 0,xI 0] 55)));exact⟨0,ax _,rfl,rfl,ik,RZ⟩;obtain⟨i,hi,rfl,rfl,HB,HR⟩:=hrel;have hsz:=HB.o.size;have Rk:w.heap.size<wr:=(ab.1 HR.o).1;by_cases cE:i<n
 .have⟨⟨xk,xo⟩,hx⟩:=fg ts i (by rw[fB.o];exact cE);have⟨b,off,cap,hv,hb,hcells⟩:=JJ.o i _ hx;obtain⟨rfl,rfl⟩:=jk hv;have⟨bk,offk,capk,hv2,hbk,hcells2⟩:=FV.o i xk (by rw[List.getElem?_map,hx];rfl);obtain⟨rfl,rfl⟩:=jk hv2;have⟨q0,q1⟩:=hcells wr HB.o;have r0:=λo=>hcells2 (wr.alloc o) (HB.o.alloc hsz o);have p0:=λo=>(HP.o (wr.alloc o) (HB.o.alloc hsz o)).1;have wI:b≠wr:=by omega
  have qg1:bk≠wr:=by omega
  have Wk:p≠wr:=by omega
  dsimp only at q0 q1;go_wp2_with fail;go_quiet(fail);go_wp2;go_roundg(n-(i+1));case measure=>omega
  case rel=>
   refine⟨i+1,by omega,rfl,by go_num,?_,?_⟩
   .exact(below_drewNv (HB.o.alloc hsz _) _)
   exact(show _=_ from(aB wr _ _ Rk).trans HR.o)
 have⟨_,q0⟩:=HP.o wr HB.o;have⟨e0,e1⟩:=aZ HR.o;have⟨f0,f1⟩:=nZ HR.o;have TI:q≠w:=by omega
 go_wp2_with fail;refine ah (v:= .tuple #[.agg #[bg,xI 0],true]) (by simp[results,results426,go_sem,e0,e1]) rfl ⟨rfl,?_⟩;exact(HB.o.setCell (by simp) _).setCell (by simp) _
def Em(t:cq)(ht:t.bg=1\/t.bg=2)(b off cap:Nat)(w:bq)(h0:cC w b off t.bg)(h1:cC w b (off+1) t.of)(h2:cC w b (off+2) t.bg)(h3:cC w b (off+3) t.of):
 xC 430 #[xL (b,off) 2 cap] w (di true w):=by
 obtain⟨k,o⟩:=t;dsimp only at*;rcases ht with rfl|rfl;all_goals
  delta xC;go_in;go_wp2_with fail;go_quiet(fail);go_wp2;go_ret;exact⟨rfl,below_drewNv eH _⟩
def sU:Tryz.prog.underlying 440=some (.map 9 463):=underlying440
def AO {es:List (bS×bt×Nat)}(h:cO fW w b es clk)(x:bS)(v:bt)(hv:cB es x=none):∃w',(Instr.mapUpdate 440 (.map (some b)) x v).run prog w= .ok () w'/\cO fW w' b (es++[(x,v,clk)]) (clk+1)/\bh (λi=>i=b) w w':=by
 have⟨h1,h2⟩:=cO.insert fW .string l6 (P:=prog) sU underlying9 jo h x v hv;exact⟨_,h1,h2,(bh.refl (λi=>i=b) w).putObj (.inl rfl) _⟩
def iT(v:bt)(f:Nat):bt:= .agg #[v, .func (.func f) #[] #[]]
abbrev tkW(w:bq)(bg:Int)(xs:Array bt)(n:Nat):bq:=((w.alloc (.cells xs 3)).alloc (xK #[bg] 3)).alloc (xK #[xL (w,0) n n] 65)
abbrev Zk(w:bq):bt:= .func (.func 426) #[] #[xP [w,w],xP [w]]
def En(w:bq)(bg:Int)(xs:Array bt)(n:Nat):bh F w (tkW w bg xs n):=(((bh.refl F w).alloc _).alloc _).alloc _
def SK {es:List (bS×bt×Nat)}(h:cO fW w b es clk)(bg:Int)(xs:Array bt)(n:Nat):cO fW (tkW w bg xs n) b es clk:=
 (En (F:=λ_=>False) w bg xs n).at_ h (λh=>h)
def hU(w:bq)(b:Nat):Prop:=∃es clk,cO fW w b es clk/\
 (∃v,cB es ⟨#[108,101,110]⟩=some (iT v 388)/\jq (λi=>i<=b) w v 1 [2])/\
 (∃v,cB es ⟨#[108,101,102,116]⟩=some (iT v 391)/\jq (λi=>i<=b) w v 2 [2,1])/\
 (∃v,cB es ⟨#[102,114,111,109]⟩=some (iT v 395)/\jq (λi=>i<=b) w v 2 [2,1])/\
 (∃v,cB es ⟨#[102,105,110,100]⟩=some (iT v 396)/\jq (λi=>i<=b) w v 1 [2,2])/\
 (∃v,cB es ⟨#[116,101,120,116]⟩=some (iT v 398)/\jq (λi=>i<=b) w v 2 [1])/\
 cB es ⟨#[105,102]⟩=some (iT (.func (.func 401) #[] #[]) 402)
def hU.aT(h:hU w b)(k:bC w w'):hU w' b:=by
 obtain⟨es,clk,h0,⟨v1,a1,t1⟩,⟨v2,a2,t2⟩,⟨v3,a3,t3⟩,⟨v4,a4,t4⟩,⟨v5,a5,t5⟩,h6⟩:=h;have ho:bh (λi=>i<=b) w w':=bh.bA k;exact⟨es,clk,(k.block b (ab.1 h0).1).trans h0,⟨v1,a1,t1.only ho⟩,⟨v2,a2,t2.only ho⟩,⟨v3,a3,t3.only ho⟩,⟨v4,a4,t4.only ho⟩,⟨v5,a5,t5.only ho⟩,h6⟩
def hU.only {S:bY}(h:hU w b)(k:bh S w w')(hS:∀i,S i->i<b):hU w' b:=by
 obtain⟨es,clk,h0,⟨v1,a1,t1⟩,⟨v2,a2,t2⟩,⟨v3,a3,t3⟩,⟨v4,a4,t4⟩,⟨v5,a5,t5⟩,h6⟩:=h;have ho:bh (λi=>i<=b) w w':=k.mono λi hi=>Nat.le_of_lt (hS i hi);exact⟨es,clk,k.at_ h0 (λh=>by have:=hS b h;omega),⟨v1,a1,t1.only ho⟩,⟨v2,a2,t2.only ho⟩,⟨v3,a3,t3.only ho⟩,⟨v4,a4,t4.only ho⟩,⟨v5,a5,t5.only ho⟩,h6⟩
def gG {es:List (bS×bt×Nat)}(h:cO fW w b es clk)(x:bS)(v:bt)(hv:cB es x=some v):(Instr.lookup 440 (.map (some b)) x false).run prog w= .ok v w:=
 cO.lookup fW .string l6 (P:=prog) sU underlying9 jo h x v hv
def Eo(w:bq):xC 361 #[] w λe w'=>∃b,e=xR (.map (some b))/\hU w' b/\w.heap.size<=b/\bC w w':=by
 have h0:cO fW (w.alloc (.map #[] 0)) w [] 0:=(MapKept.heap_alloc w _).1;have t0:w.heap.size<(w.alloc (.map #[] 0)).heap.size:=by simp
 have⟨w0,hw0⟩:=dd (w.alloc (.map #[] 0));rw[<-hw0]at h0 t0;have step:∀{W:bq}{es:List (bS×bt×Nat)}{clk:Nat},cO fW W w es clk->∀(x:bS)(bg:Int)(ks:List Int)(n f:Nat),ks.length=n->n<=1000->cB es x=none->
  ∃W',(Instr.mapUpdate 440 (.map (some w.heap.size)) x (iT (Zk W) f)).run prog (tkW W bg (ks.map (Value.int .i64)).toArray n)= .ok () W'/\cO fW W' w (es++[(x,iT (Zk W) f,clk)]) (clk+1)/\bh (λi=>i=w) W W'/\jq (λi=>i<=w) W' (Zk W) bg ks:=by
  intro W es clk h x bg ks n f hn hb hv;have⟨W',e1,e2,e3⟩:=AO (SK h bg (ks.map (Value.int .i64)).toArray n) x (iT (Zk W) f) hv;have cE:=(ab.1 h).1;refine⟨W',e1,e2,(En W bg _ n).trans e3,?_⟩;exact(yx W (F:=λi=>i<=w) (λi hi=>Nat.lt_of_le_of_lt hi cE) bg ks n hn hb).only (e3.mono λi hi=>Nat.le_of_eq hi)
 have⟨w1,e1,h1,o1,k1⟩:=step h0 ⟨#[108,101,110]⟩ 1 [2] 1 388 rfl (by omega) rfl;have⟨w2,e2,h2,o2,k2⟩:=step h1 ⟨#[108,101,102,116]⟩ 2 [2,1] 2 391 rfl (by omega) rfl;have⟨w3,e3,h3,o3,_⟩:=step h2 ⟨#[114,105,103,104,116]⟩ 2 [2,1] 2 394 rfl (by omega) rfl;have⟨w4,e4,h4,o4,k4⟩:=step h3 ⟨#[102,114,111,109]⟩ 2 [2,1] 2 395 rfl (by omega) rfl;have⟨w5,e5,h5,o5,k5⟩:=step h4 ⟨#[102,105,110,100]⟩ 1 [2,2] 2 396 rfl (by omega) rfl;have⟨w6,e6,h6,o6,k6⟩:=step h5 ⟨#[116,101,120,116]⟩ 2 [1] 1 398 rfl (by omega) rfl;have⟨w7,e7,h7,o7,_⟩:=step h6 ⟨#[110,117,109]⟩ 1 [2] 1 399 rfl (by omega) rfl;have⟨w8,e8,h8,o8⟩:=AO h7 ⟨#[105,102]⟩ (iT (.func (.func 401) #[] #[]) 402) rfl;have⟨w9,e9,h9,o9,_⟩:=step h8 ⟨#[109,105,110]⟩ 1 [1,1] 2 403 rfl (by omega) rfl;have⟨w10,e10,h10,o10,_⟩:=step h9 ⟨#[109,97,120]⟩ 1 [1,1] 2 404 rfl (by omega) rfl;have up:∀{W W':bq},bh (λi=>i=w) W W'->bh (λi=>i<=w) W W':=λh=>h.mono λi hi=>Nat.le_of_eq hi;have HO:Hd (bC w w10):=((((bh.refl xF w).alloc (.map #[] 0)).dL (hw0▸(((((((((o1.trans o2).trans o3).trans o4).trans o5).trans o6).trans o7).trans o8).trans o9).trans o10)) (λi hi cE=>by subst hi;omega)).aT);have HM:Hd (hU w10 w):=⟨_,_,h10,⟨_,rfl,k1.only (up ((((((((o2.trans o3).trans o4).trans o5).trans o6).trans o7).trans o8).trans o9).trans o10))⟩,⟨_,rfl,k2.only (up (((((((o3.trans o4).trans o5).trans o6).trans o7).trans o8).trans o9).trans o10))⟩,⟨_,rfl,k4.only (up (((((o5.trans o6).trans o7).trans o8).trans o9).trans o10))⟩,⟨_,rfl,k5.only (up ((((o6.trans o7).trans o8).trans o9).trans o10))⟩,⟨_,rfl,k6.only (up (((o7.trans o8).trans o9).trans o10))⟩,rfl⟩;clear h0 h1 h2 h3 h4 h5 h6 h7 h8 h9 h10 o1 o2 o3 o4 o5 o6 o7 o8 o9 o10 k1 k2 k4 k5 k6 t0 step up;unfold iT Zk tkW at e1 e2 e3 e4 e5 e6 e7 e9 e10;unfold iT at e8;simp only[List.map_cons,List.map_nil]at e1 e2 e3 e4 e5 e6 e7 e9 e10;have hmk:=fJ 440 w;rw[<-hw0]at hmk;clear hw0;delta xC;go_in;go_wp2_with(go_at_call 387;refine ey (yu _ _ _ _ _) ?_);go_ret;exact⟨_,rfl,HM.o,cN,HO.o⟩
def Kj {l:List cq}(h:aS M w v l){x:cq}(hx:l[k]? =some x):∃b off cap,v=xL (b,off) l.length cap/\l.length<=cap/\b<w.heap.size/\∀W,bC w W->∀j y,l[j]? =some y->cC W b (off+j*2) (xI y.bg)/\cC W b (off+j*2+1) (xI y.of):=by
 obtain⟨a,cap,rfl,hl,_,hc⟩:=h.bj;have hk:=(ag.1 hx).1;obtain⟨b,off,rfl,_,hb,hcell⟩:=hc (by omega);refine⟨b,off,cap,rfl,hl,hb,λW hB j y hy=> ?_⟩;obtain⟨cs,rfl,hcs⟩:=hcell j y hy;have g:∀i u,([xI y.bg,xI y.of]:List bt)[i]? =some u->cC W b (off+j*2+i) u:=λi u hu=>(hB.cell (p:=⟨b,off+j*2+i,none⟩) hb).trans (hcs i u hu);exact⟨g 0 _ rfl,g 1 _ rfl⟩
def Ga(k o:Int):Obj:=xK #[k,o] 55
def L9(t:cq)(ht:t.bg=1\/t.bg=2)(M:bY)(w:bq)(pv:bt)(hp:aS M w pv [⟨1,0⟩,t,t]):
 xC 401 #[pv] w (di (.tuple #[.agg #[t.bg,t.of],true]) w):=by
 obtain⟨b,off,cap,rfl,dN,hb,hc⟩:=Kj hp (k:=0) rfl;have HC:=aV hc;have dp:=aV (Bx.fm w (Ga 0 0));have⟨a0,_⟩:=HC.o _ dp.o.1 0 _ rfl;have⟨a2,a3⟩:=HC.o _ dp.o.1 1 _ rfl;have⟨a4,a5⟩:=HC.o _ dp.o.1 2 _ rfl;have zu:=aV (Em t ht b (off+2) (cap-1) (w.alloc (Ga 0 0)) a2 a3 a4 a5);have wI:b≠w:=by omega
 simp only[aC,aD]at dN;simp only[Nat.zero_mul,Nat.add_zero]at a0;unfold Ga at a0;delta xC;go_in;go_wp2_with fail;refine dx (zu.o) λw1 hb1=> ?_;have cu:=aV (dp.o.aT hb1);have⟨c0,c1⟩:=aZ (cu.o.cP rfl);have⟨f0,f1⟩:=nZ (cu.o.cP rfl);have⟨a2,a3⟩:=HC.o _ cu.o.1 1 _ rfl;go_wp2_with fail;refine ah (v:= .tuple #[.agg #[t.bg,t.of],true]) (by simp[results,results401,go_sem,c0,c1]) rfl ⟨rfl,?_⟩;exact(cu.o.1.setCell (by simp) _).setCell (by simp) _
def Pp(t:cq)(ht:t.bg=1\/t.bg=2)(M:bY)(w:bq)(pv:bt)(hp:aS M w pv [t,t]):
 xC 431 #[pv] w (di (.tuple #[.agg #[xI 1,xI 0],true]) w):=by
 obtain⟨b,off,cap,rfl,dN,hb,hc⟩:=Kj hp (k:=0) rfl;have dp:=aV (Bx.fm w (Ga 0 0));have⟨a2,a3⟩:=hc _ dp.o.1 0 _ rfl;have⟨a4,a5⟩:=hc _ dp.o.1 1 _ rfl;have zu:=aV (Em t ht b off cap (w.alloc (Ga 0 0)) (by simpa using a2) (by simpa using a3) a4 a5);delta xC;go_in;go_wp2_with fail;refine dx (zu.o) λw1 hb1=> ?_;have cu:=aV (dp.o.aT hb1);have⟨c0,c1⟩:=aZ (cu.o.cP rfl);have⟨f0,f1⟩:=nZ (cu.o.cP rfl);go_wp2_with fail;refine ah (v:= .tuple #[.agg #[xI 1,xI 0],true]) (by simp[results,results431,go_sem,c0,c1]) rfl ⟨rfl,?_⟩;exact(cu.o.1.setCell (by simp) _).setCell (by simp) _
def wA(bg:Int)(ks:List Int)(w:bq)(e:Ending)(w':bq):Prop:=∃v,e=xR v/\jq xF w' v bg ks/\bC w w'
def Ig(s:bS)(hs:s=⟨#[42]⟩\/s=⟨#[45]⟩\/s=⟨#[47]⟩)(w:bq):xC 405 #[s] w (wA 1 [1,1] w):=by
 have HT:=aV (yx (F:=λ_=>False) w (λ_ h=>h.elim) 1 [1,1] 2 rfl (by omega));rcases hs with rfl|rfl|rfl;all_goals
  delta xC;go_in;go_wp2_with(go_at_call 387;refine ey (yu _ _ _ _ _) ?_);go_ret;exact(show wA _ _ _ _ _ from⟨_,rfl,HT.o,(Bx.iN w _ _ _).1⟩)
def Ih(w:bq):xC 405 #[xS ⟨#[38]⟩] w (wA 2 [2,2] w):=by
 have HT:=aV (yx (F:=λ_=>False) w (λ_ h=>h.elim) 2 [2,2] 2 rfl (by omega));delta xC;go_in;go_wp2_with(go_at_call 387;refine ey (yu _ _ _ _ _) ?_);go_ret;exact(show wA _ _ _ _ _ from⟨_,rfl,HT.o,(Bx.iN w _ _ _).1⟩)
def Ii(s:bS)(hs:s=⟨#[61]⟩\/s=⟨#[62]⟩)(w:bq):xC 405 #[s] w (j7 (.func (.func 431) #[] #[]) w):=by
 rcases hs with rfl|rfl;all_goals
  delta xC;go_in;go_wp2;go_ret;exact⟨rfl,rfl⟩
def Zl {l:List bt}{o:Nat}{a b:bt}(h:o+2<=l.length):((l.set o a).set (o+1) b).take (o+2)=l.take o++[a,b]:=by
 apply List.ext_getElem?;intro i;rw[List.getElem?_take,List.getElem?_append];have hl:(l.take o).length=o:=by simp;omega
 rw[hl];by_cases h1:i<o
 .rw[if_pos (by omega),if_pos h1];rw[List.getElem?_set_ne (by omega),List.getElem?_set_ne (by omega),List.getElem?_take,if_pos h1]
 rw[if_neg h1];by_cases h2:i<o+2
 .rw[if_pos h2];have:i=o\/i=o+1:=by omega
  rcases this with rfl|rfl
  .rw[List.getElem?_set_ne (by omega),List.getElem?_set_self (by omega)];simp
  rw[List.getElem?_set_self (by simp;omega)];simp
 rw[if_neg h2];rw[List.getElem?_eq_none (by simp;omega)]
def eM.Pq {α:Type} [bD α](h4:bD.size α=2){n:Nat}{xs:List α}(h:eM M B t w n xs)(hk:xs.length=k)(hn:k<n){x:α}{a b:bt}(hx:bD.rep (orM M B) w [a,b] x):
 eM M B t ((w.setCell (B,k*2) a).setCell (B,k*2+1) b) n (xs++[x]):=by
 obtain⟨cur,css,h1,h2,h3,h5,h6,h7⟩:=h;subst hk;rw[h4]at h2 h6;have E:Ev (orM M B) w (orM M B) ((w.setCell (B,xs.length*2) a).setCell (B,xs.length*2+1) b):=
  ((Ev.refl _ w).setCell (.inl (.inr rfl)) a).setCell (.inl (.inr rfl)) b;have hh:=aA _ B (xs.length*2+1) _ _ b (aA _ B (xs.length*2) _ _ a h1);refine⟨_,css++[[a,b]],hh,by rw[h4];simp[h2],by simp;omega,by simp[h5],?_,λi cs y hc hy=> ?_⟩
 .rw[h4];simp only[List.flatten_append,List.flatten_cons,List.flatten_nil,List.append_nil,aJ,aC,aD,h6,Array.toList_setIfInBounds];rw[show(xs.length+(0+1))*2=xs.length*2+2 from by omega];rw[Zl (by simp[h2];omega)]
 by_cases hi:i<css.length
 .rw[aq hi]at hc;rw[aq (by omega)]at hy;exact bD.ev (h7 i cs y hc hy) E
 rw[au (by omega)]at hc;rw[au (by omega)]at hy;rw[h5]at hc;have h0:i-xs.length=0:=by
  cases hq:i-xs.length with
  |zero=>rfl
  |succ q=>rw[hq]at hc;simp at hc
 rw[h0]at hc hy;simp at hc hy;subst hc hy;exact bD.ev hx E
def Ma:(Tryz.prog.info? 55).map (λi=>(i.zero,i.size,i.bytes))=some (some (.agg #[xI 0,xI 0]),2,16):=by kernel_rfl
structure sV(N:bY)(c:bI)(vs:List bE)(b bm:Nat)(w:bq):Prop where
 box:∃fa fc vv,w.heap[b]? =some (xK #[c.aX,xL fa c.aW.length fc,vv, .map (some bm)] 443)/\aS N w (xL fa c.aW.length fc) c.aW/\aS N w vv vs
 calls:hU w bm
def sV.aT(h:sV N c vs b bm w)(k:bC w w'):sV N c vs b bm w':=by
 obtain⟨⟨fa,fc,vv,h1,h2,h3⟩,h4⟩:=h;exact⟨⟨fa,fc,vv,(k.block b (ab.1 h1).1).trans h1,h2.aT k,h3.aT k⟩,h4.aT k⟩
def sW(c:bI)(e:bG)(t:cq):Prop:=∀(M N:bY)(w:bq)(v:bt)(b bm:Nat)(vs:List bE),dq M w v e->sV N c vs b bm w->
 xC 362 #[xP b,v] w λε w'=>ε=xR (.tuple #[.agg #[t.bg,t.of],true])/\bC w w'
def kT:List (bS×Int×List Int):=[(⟨#[108,101,110]⟩,1,[2]),(⟨#[108,101,102,116]⟩,2,[2,1]),(⟨#[102,114,111,109]⟩,2,[2,1]),(⟨#[102,105,110,100]⟩,1,[2,2]),(⟨#[116,101,120,116]⟩,2,[1])]
def Ij(h:hU w bm){k:Int}{ks:List Int}(hm:(s,k,ks)∈kT):∃v f,jq (λi=>i<=bm) w v k ks/\∀W,W.heap[bm]? =w.heap[bm]?->(Instr.lookup 440 (.map (some bm)) s false).run prog W= .ok (iT v f) W:=by
 obtain⟨es,clk,h0,⟨v1,a1,t1⟩,⟨v2,a2,t2⟩,⟨v3,a3,t3⟩,⟨v4,a4,t4⟩,⟨v5,a5,t5⟩,h6⟩:=h;simp only[kT,aO,List.not_mem_nil,or_false,Prod.mk.injEq]at hm;rcases hm with⟨rfl,rfl,rfl⟩|⟨rfl,rfl,rfl⟩|⟨rfl,rfl,rfl⟩|⟨rfl,rfl,rfl⟩|⟨rfl,rfl,rfl⟩
 .exact⟨v1,_,t1,λW hW=>gG (hW.trans h0) _ _ a1⟩
 .exact⟨v2,_,t2,λW hW=>gG (hW.trans h0) _ _ a2⟩
 .exact⟨v3,_,t3,λW hW=>gG (hW.trans h0) _ _ a3⟩
 .exact⟨v4,_,t4,λW hW=>gG (hW.trans h0) _ _ a4⟩
 exact⟨v5,_,t5,λW hW=>gG (hW.trans h0) _ _ a5⟩
def Kk(h:hU w bm):∀W,W.heap[bm]? =w.heap[bm]?->(Instr.lookup 440 (.map (some bm)) (xS ⟨#[105,102]⟩) false).run prog W= .ok (iT (.func (.func 401) #[] #[]) 402) W:=by
 obtain⟨es,clk,h0,_,_,_,_,_,h6⟩:=h;exactλW hW=>gG (hW.trans h0) _ _ h6
inductive sX(c:bI):Int->bS->List cq->cq->Prop
 |num(s:bS):sX c 1 s [] ⟨1,0⟩
 |txt(s:bS):sX c 2 s [] ⟨2,0⟩
 |fld(f:bJ)(i:Nat):fieldAt c f.aX=i->c.aW[i]? =some f->sX c 3 f.aX [] f.type
 |ari(s:bS):s=⟨#[42]⟩\/s=⟨#[45]⟩\/s=⟨#[47]⟩->sX c 4 s [⟨1,0⟩,⟨1,0⟩] ⟨1,0⟩
 |cat:sX c 4 ⟨#[38]⟩ [⟨2,0⟩,⟨2,0⟩] ⟨2,0⟩
 |cmp(s:bS):s=⟨#[61]⟩\/s=⟨#[62]⟩->sX c 4 s [⟨1,0⟩,⟨1,0⟩] ⟨1,0⟩
 |call(s:bS)(k:Int)(ts:List cq):(s,k,ts.map (·.bg))∈kT->sX c 6 s ts ⟨k,0⟩
 |ite(p:Int):p=1\/p=2->sX c 6 ⟨#[105,102]⟩ [⟨1,0⟩,⟨p,0⟩,⟨p,0⟩] ⟨p,0⟩
def Ep(k n:Int)(s:bS)(v:bt):Obj:=xK #[k,n,s,v] 350
def Kl {l:List bG}(h:aS M w v l){k n:Int}{ll:List bG}(hx:l[i]? =some (.mk k n s ll)):∃b off cap a c,v=xL (b,off) l.length cap/\b<w.heap.size/\∀W,bC w W->(cC W b (off+i*4) k/\cC W b (off+i*4+1) n/\cC W b (off+i*4+2) s/\cC W b (off+i*4+3) (xL a ll.length c))/\dq M W (.agg #[k,n,s,xL a ll.length c]) (bG.mk k n s ll):=by
 have⟨b,off,cap,a,c,h1,h2,_,h4,h5,h6,h7,h8,h9⟩:=yo h hx;exact⟨b,off,cap,a,c,h1,h2,λW hB=>⟨⟨(hB.cell (p:=⟨b,off+i*4,none⟩) h2).trans h6,(hB.cell (p:=⟨b,off+i*4+1,none⟩) h2).trans h7,(hB.cell (p:=⟨b,off+i*4+2,none⟩) h2).trans h8,(hB.cell (p:=⟨b,off+i*4+3,none⟩) h2).trans h9⟩,yp (h4.aT hB) h5⟩⟩
def eN(c:bI)(hcn:c.aX.size<=maxLen)(k n:Int)(s:bS)(l:List bG)(ts:List cq)(t:cq)(RW:ts.length<=3)(Rl:l.length=ts.length)(Rm:∀(i:Nat)(x:bG)(u:cq),l[i]? =some x->ts[i]? =some u->sW c x u)(FW:sX c k s ts t):sW c (.mk k n s l) t:=by
 intro M N w v b bm vs hag hsc;obtain⟨cs,rfl,hrep⟩:=hag;obtain⟨lv,rfl,hsl,hss⟩:=dF.iff.1 hrep;have⟨i0,hi0,hz0,hz1,hz2⟩:=info_parts Ma;have Da:Hd (∀W,bC w W->sV N c vs b bm W):=λW hb=>hsc.aT hb;have HK:Hd (∀(i:Nat)(k n:Int)(s:bS)(ll:List bG),l[i]? =some (bG.mk k n s ll)->_):=λi k n s ll hx=>Kl hsl hx;have cI:Hd (∀(i:Nat)(x:bG)(u:cq)(W:bq)(v:bt),l[i]? =some x->ts[i]? =some u->bC w W->dq M W v x->_):=λi x u W v h1 h2 h3 h4=>Rm i x u h1 h2 M N W v b bm vs h4 (hsc.aT h3);have Rj:b<w:=by
  obtain⟨⟨fa,fc,vv,h1,_⟩,_⟩:=hsc;exact(ab.1 h1).1
 have TM:bm<w:=by
  obtain⟨_,es,clk,h0,_⟩:=hsc;exact(ab.1 h0).1
 have TJ:=aV FW;obtain⟨la,lc,rfl,hlc,hlm,_⟩:=hsl.bj;have Jr:Hd (ts.length=ts.length):=rfl;generalize hnn:ts.length=m at*;have fB:=aV Rl;rw[Rl]at hlc HK⊢;have⟨cur,hmk,hcs⟩:=nF (P:=prog) ((w.alloc (Ep k n s (.slice la m lc))).alloc (Ga 0 0)) 467 55 i0 _ underlying467 hi0 hz0 m (by omega) (by omega);have Ac:=aV hnn;clear hsc hrep hsl Rm FW Rl hnn Jr;have ik:Hd (Bx w [Ep k n s (xL la m lc),Ga 0 0] (((w.alloc (Ep k n s (xL la m lc))).alloc (Ga 0 0)).alloc (.cells cur 55))):=(Bx.ei w _ _).alloc _;have JF:Hd (eM (α:=cq) xF [w,w] 55 (((w.alloc (Ep k n s (xL la m lc))).alloc (Ga 0 0)).alloc (.cells cur 55)) m []):=eM.made cur ((Bx.iN w _ _ _).im rfl) (by rw[hcs,hz1];rfl);clear hcs;rw[show((w.alloc (Ep k n s (xL la m lc))).alloc (Ga 0 0)).heap.size=[w,w]from by simp]at hmk;unfold Ep Ga at hmk ik JF;go_enter func362,ntmps362;go_wp2;go_loopg [7,8,9,10,20]m(λg _ _ _ _ iv wr=>∃i:Nat,i<=m/\g=m-i/\iv=xI i/\Hd (Bx w [Ep k n s (xL la m lc),Ga 0 0] wr)/\Hd (eM (α:=cq) xF [w,w] 55 wr m (ts.take i)));exact⟨0,ax _,rfl,rfl,ik,JF⟩;obtain⟨i,hi,rfl,rfl,HB,HA⟩:=hrel;have hsz:=HB.o.cM;simp only[aC,aD]at hsz;have Xf:w.heap.size+1+1<wr:=HA.o.lt;by_cases cE:i<m
 .have⟨⟨xk,xn,xs,xl⟩,hx⟩:=fg l i (by rw[fB.o];exact cE);have⟨⟨uk,uo⟩,hu⟩:=fg ts i (by rw[Ac.o];exact cE);have⟨bk,off,cap,xa,xc,hv,hbk,hcells⟩:=HK.o i _ _ _ _ hx;obtain⟨rfl,rfl⟩:=jk hv;have⟨⟨q0,q1,q2,q3⟩,_⟩:=hcells wr HB.o.1;have mC:=aV (λo=>cI.o i _ _ (wr.alloc o) _ hx hu (HB.o.1.alloc HB.o.1.size o) (hcells (wr.alloc o) (HB.o.1.alloc HB.o.1.size o)).2);have oQ:=aV (show ts.take (i+1)=ts.take i++[⟨uk,uo⟩]by rw[ao,hu];rfl);have tT:=aV (show(ts.take i).length=i by have:=Ac.o;rw[aK];omega);clear hv hcells hx hu;go_wp2_with fail;refine dx (mC.o _) λw1 hb1=> ?_;have cu:=aV (HB.o.aT (ct hb1));have lJ:=aV (HA.o.aT (ct hb1));have qd4:=lJ.o.lt;clear hb1;have Yp:i*2+1<m*2:=by omega
  have⟨u0,p0,f0⟩:=lJ.o.cell (j:=i*2) (by show _<m*2;omega);have⟨u1,p1,f1⟩:=lJ.o.cell (j:=i*2+1) (by show _<m*2;omega);go_wp2;go_roundg(m-(i+1));case measure=>omega
  case rel=>
   refine⟨i+1,by omega,rfl,by go_num,?_,?_⟩
   .exact((cu.o.ej (B:=w.heap.size+2) ((eH.setCell (by simp) _).setCell (by simp) _) (by simp)).alloc _)
   exact(show eM _ _ _ _ _ _ by rw[oQ.o];exact(lJ.o.Pq rfl tT.o cE rfl).aT cU)
 have tS:=aV (show aS xF wr (xL (some ⟨[w,w],0,none⟩) m m) ts by
  have h1:=HA.o;rw[ak (by rw[Ac.o];omega)]at h1;exact h1.slice Ac.o (λh=>h) (by unfold maxLen;omega));have⟨e0,e1,e2,e3⟩:=aU (HB.o.cP rfl);have⟨c0,c1⟩:=aZ (HB.o.cZ rfl);have⟨f0,f1⟩:=nZ (HB.o.cZ rfl);clear HA;cases TJ.o with
 |num s=>
  go_wp2_with fail;refine ah (v:= .tuple #[.agg #[xI 1,xI 0],true]) (by simp[results,results362,go_sem,c0,c1]) rfl ⟨rfl,?_⟩;exact(HB.o.1.setCell (by simp) _).setCell (by simp) _
 |txt s=>
  go_wp2_with fail;refine ah (v:= .tuple #[.agg #[xI 2,xI 0],true]) (by simp[results,results362,go_sem,c0,c1]) rfl ⟨rfl,?_⟩;exact(HB.o.1.setCell (by simp) _).setCell (by simp) _
 |fld f i R3 Nw=>
  have HSW:=Da.o w eH;obtain⟨⟨fa,fc,vv,hbx,hfs,_⟩,_⟩:=HSW;have dp:Hd (∀W,bC w W->cX W b (xK #[c.aX,xL fa c.aW.length fc,vv, .map (some bm)] 443)):=λW hb=>(hb.block b Rj).trans hbx;have C5:Hd (∀W,bC w W->xC 109 #[.agg #[c.aX,xL fa c.aW.length fc],f.aX] W (di (.tuple #[xI (i:Int),true]) W)):=λW hb=>nr N _ W c f.aX i true (hfs.aT hb) hcn (by rw[R3];rw[if_neg (by omega)]) (by rw[R3];simp);have Tz:=aV (oK hfs Nw);have⟨bf,of,cf,hfv,hbf,_,_⟩:=Tz.o;obtain⟨rfl,rfl⟩:=jk hfv;have UB:Hd (∀W,bC w W->cC W bf (of+i*4+1) f.type.bg/\cC W bf (of+i*4+2) f.type.of):=λW hb=>by
   have⟨b2,o2,c2,h1,_,_,h4⟩:=Tz.o;obtain⟨⟨rfl,rfl⟩,rfl⟩:(bf=b2/\of=o2)/\fc=c2:=by simpa using h1
   exact⟨(h4 W hb).2.1,(h4 W hb).2.2.1⟩
  have wJ:=(ag.1 Nw).1;have⟨b0,b1,b2,b3⟩:=aU (dp.o wr HB.o.1);clear hbx hfs hfv Tz R3 Nw;go_upto_region 14 with fail;go_region_law(first
   |(go_simp;go_at_call 109;refine dx (C5.o _ HB.o.1.drew) λw2 cJ=> ?_;have bZ:=aV (HB.o.drew.aT cJ);clear cJ));all_goals
   have⟨b0,b1,b2,b3⟩:=aU (dp.o w2 bZ.o.1);have⟨q1,q2⟩:=UB.o w2 bZ.o.1;have⟨c0,c1⟩:=aZ (bZ.o.cZ rfl);have⟨f0,f1⟩:=nZ (bZ.o.cZ rfl);go_wp2_with fail;refine ah (v:= .tuple #[.agg #[f.type.bg,f.type.of],true]) (by simp[results,results362,go_sem,c0,c1]) rfl ⟨rfl,?_⟩;exact(bZ.o.1.setCell (by simp) _).setCell (by simp) _
 |ari s hs=>
  go_wp2_with fail;refine(Ig s hs _).mono ?_;rintro e w2⟨_,rfl,⟨p,q,kv,rfl,_,_,h4,h5,h6⟩,cJ⟩;have bZ:=aV (HB.o.aT cJ);have Nr:=aV (uB [⟨1,0⟩,⟨1,0⟩] 1 xF xF w2 _ undef (by simp) (tS.o.aT cJ) p q kv h4 h5 h6);clear h4 h5 h6 cJ;go_wp2_with fail;refine dx (Nr.o) λw3 hb3=> ?_;have cR:=aV (bZ.o.aT hb3);have⟨c0,c1⟩:=aZ (cR.o.cZ rfl);have⟨f0,f1⟩:=nZ (cR.o.cZ rfl);clear hb3;go_wp2_with fail;refine ah (v:= .tuple #[.agg #[xI 1,xI 0],true]) (by simp[results,results362,go_sem,c0,c1]) rfl ⟨rfl,?_⟩;exact(cR.o.1.setCell (by simp) _).setCell (by simp) _
 |cat=>
  go_wp2_with fail;refine(Ih _).mono ?_;rintro e w2⟨_,rfl,⟨p,q,kv,rfl,_,_,h4,h5,h6⟩,cJ⟩;have bZ:=aV (HB.o.aT cJ);have Nr:=aV (uB [⟨2,0⟩,⟨2,0⟩] 2 xF xF w2 _ undef (by simp) (tS.o.aT cJ) p q kv h4 h5 h6);clear h4 h5 h6 cJ;go_wp2_with fail;refine dx (Nr.o) λw3 hb3=> ?_;have cR:=aV (bZ.o.aT hb3);have⟨c0,c1⟩:=aZ (cR.o.cZ rfl);have⟨f0,f1⟩:=nZ (cR.o.cZ rfl);clear hb3;go_wp2_with fail;refine ah (v:= .tuple #[.agg #[xI 2,xI 0],true]) (by simp[results,results362,go_sem,c0,c1]) rfl ⟨rfl,?_⟩;exact(cR.o.1.setCell (by simp) _).setCell (by simp) _
 |cmp s hs=>
  go_wp2_with fail;refine ey (Ii s hs _) ?_;have Nr:=aV (Pp ⟨1,0⟩ (.inl rfl) _ wr _ tS.o);go_wp2_with fail;refine dx (Nr.o) λw3 hb3=> ?_;have cR:=aV (HB.o.aT hb3);have⟨c0,c1⟩:=aZ (cR.o.cZ rfl);have⟨f0,f1⟩:=nZ (cR.o.cZ rfl);clear hb3;go_wp2_with fail;refine ah (v:= .tuple #[.agg #[xI 1,xI 0],true]) (by simp[results,results362,go_sem,c0,c1]) rfl ⟨rfl,?_⟩;exact(cR.o.1.setCell (by simp) _).setCell (by simp) _
 |call s k ts hm=>
  have⟨⟨fa,fc,vv,hbx,_,_⟩,hca⟩:=Da.o wr HB.o.1;have⟨b0,b1,b2,b3⟩:=aU hbx;obtain⟨v,f,⟨p,q,kv,rfl,_,_,h4,h5,h6⟩,mD⟩:=Ij hca hm;have Rn:=mD wr.drew rfl;have Nr:=aV (uB ts k xF (λi=>i<=bm) wr.drew _ undef (by have:=Ac.o;omega) (tS.o.aT (w':=wr.drew) ⟨rfl,rfl,rfl,cN,λ_ _=>rfl⟩) p q kv h4 h5 (h6.ev ((Ev.refl _ _).drew)));clear h4 h5 h6 mD hbx hca hm;unfold iT at Rn;have hfd:∀(v u:bt)(w:bq),(Instr.field 463 (.agg #[v,u]) 0).run prog w= .ok v w:=λ_ _ _=>by kernel_rfl
  go_upto_region 23 with fail;go_region_law(first
   |(go_simp;go_at_call 426;refine dx (Nr.o) λw3 hb3=> ?_;have cR:=aV (HB.o.drew.aT hb3);clear hb3;have c0:=(aZ (cR.o.cZ rfl)).1;have c1:=(aZ (cR.o.cZ rfl)).2;have f0:=aY (cR.o.cZ rfl) 0;have f1:=aY (cR.o.cZ rfl) 1));all_goals
   go_wp2_with fail;refine ah (v:= .tuple #[.agg #[k,xI 0],true]) (by simp[results,results362,go_sem,c0,c1]) rfl ⟨rfl,?_⟩;exact(cR.o.1.setCell (by simp) _).setCell (by simp) _
 |ite p hp=>
  have⟨⟨fa,fc,vv,hbx,_,_⟩,hca⟩:=Da.o wr HB.o.1;have⟨b0,b1,b2,b3⟩:=aU hbx;have Rn:=Kk hca wr.drew rfl;have Nr:=aV (L9 ⟨p,0⟩ hp xF wr.drew _ (tS.o.aT (w':=wr.drew) ⟨rfl,rfl,rfl,cN,λ_ _=>rfl⟩));clear hbx hca hp;unfold iT at Rn;have hfd:∀(v u:bt)(w:bq),(Instr.field 463 (.agg #[v,u]) 0).run prog w= .ok v w:=λ_ _ _=>by kernel_rfl
  go_upto_region 23 with fail;go_region_law(first
   |(go_simp;go_at_call 401;refine dx (Nr.o) λw3 hb3=> ?_;have cR:=aV (HB.o.drew.aT hb3);clear hb3;have c0:=(aZ (cR.o.cZ rfl)).1;have c1:=(aZ (cR.o.cZ rfl)).2;have f0:=aY (cR.o.cZ rfl) 0;have f1:=aY (cR.o.cZ rfl) 1));all_goals
   go_wp2_with fail;refine ah (v:= .tuple #[.agg #[p,xI 0],true]) (by simp[results,results362,go_sem,c0,c1]) rfl ⟨rfl,?_⟩;exact(cR.o.1.setCell (by simp) _).setCell (by simp) _
end
end Go.Proofs.YtpjdjlnknfmfkaaGreatDoor
