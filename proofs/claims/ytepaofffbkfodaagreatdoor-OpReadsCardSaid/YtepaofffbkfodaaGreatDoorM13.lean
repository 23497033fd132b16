/- A part of OpReads's proof; no condition. -/
import Derived.Test.YtepaofffbkfodaaGreatDoorM11
import Derived.Test.YtepaofffbkfodaaGreatDoorM12
set_option linter.all false
set_option maxHeartbeats 8000000
set_option maxRecDepth 100000
namespace Go.Proofs.YtepaofffbkfodaaGreatDoor
open Tryz
open Go.RowKit
variable{clk b k:Nat}{w w':aj}{F M:aN}{v:an}
def oZ:List (aM×an×Nat):=[(⟨#[42]⟩,xI 4,0),(⟨#[47]⟩,xI 4,1),(⟨#[37]⟩,xI 4,2),(⟨#[43]⟩,xI 3,3),(⟨#[45]⟩,xI 3,4),(⟨#[38]⟩,xI 2,5),(⟨#[61]⟩,xI 1,6),(⟨#[60,62]⟩,xI 1,7),(⟨#[60]⟩,xI 1,8),(⟨#[60,61]⟩,xI 1,9),(⟨#[62]⟩,xI 1,10),(⟨#[62,61]⟩,xI 1,11)]
abbrev fe:aM->an:=λs=>xS s
def eP(w:aj)(b:Nat):Prop:=bD fe w b oZ 12
def jJ(e:Bool)(x:aM)(w:aj):(Instr.checkKey e 10000 9 (xS x)).run prog w= .ok () w:=by
 show(Instr.checkKey e (9999+1) 9 (xS x)).run prog w= .ok () w;rw[Instr.checkKey];simp only[Sem.run_bind,run_underlying underlying9,Result.andThen_ok];rfl
def eQ(t:TypeId)(w:aj):(Instr.makeMap t none).run prog w= .ok (.map (some w.heap.size)) (w.alloc (.map #[] 0)):=by
 exact run_makeMap ..
def eh {es:List (aM×an×Nat)}(h:bD fe w b es clk)(x:aM)(v:an)(hv:aZ es x=none):∃w',(Instr.mapUpdate 114 (.map (some b)) (xS x) v).run prog w= .ok () w'/\bD fe w' b (es++[(x,v,clk)]) (clk+1)/\ai (λi=>i=b) w w':=by
 obtain⟨h1,h2⟩:=bD.insert fe .string kR (P:=prog) underlying114 underlying9 jJ h x v hv;exact⟨_,h1,h2,(ai.refl (λi=>i=b) w).putObj (.inl rfl) _⟩
def uX(w:aj):xC 270 #[] w λe w'=>∃b,e=xR (.map (some b))/\eP w' b/\w.heap.size<=b/\aq w w':=by
 have h0:bD fe (w.alloc (.map #[] 0)) w.heap.size [] 0:=(MapKept.heap_alloc w _).1;obtain⟨w1,e1,h1,o1⟩:=eh h0 ⟨#[42]⟩ (xI 4) (by decide);obtain⟨w2,e2,h2,o2⟩:=eh h1 ⟨#[47]⟩ (xI 4) (by decide);obtain⟨w3,e3,h3,o3⟩:=eh h2 ⟨#[37]⟩ (xI 4) (by decide);obtain⟨w4,e4,h4,o4⟩:=eh h3 ⟨#[43]⟩ (xI 3) (by decide);obtain⟨w5,e5,h5,o5⟩:=eh h4 ⟨#[45]⟩ (xI 3) (by decide);obtain⟨w6,e6,h6,o6⟩:=eh h5 ⟨#[38]⟩ (xI 2) (by decide);obtain⟨w7,e7,h7,o7⟩:=eh h6 ⟨#[61]⟩ (xI 1) (by decide);obtain⟨w8,e8,h8,o8⟩:=eh h7 ⟨#[60,62]⟩ (xI 1) (by decide);obtain⟨w9,e9,h9,o9⟩:=eh h8 ⟨#[60]⟩ (xI 1) (by decide);obtain⟨tK,Tm,KQ,Q2⟩:=eh h9 ⟨#[60,61]⟩ (xI 1) (by decide);obtain⟨w11,e11,h11,o11⟩:=eh KQ ⟨#[62]⟩ (xI 1) (by decide);obtain⟨w12,e12,Ga,o12⟩:=eh h11 ⟨#[62,61]⟩ (xI 1) (by decide);have HO:Hd (aq w w12):=((((ai.refl xF w).alloc _).cO (((((((((((o1.trans o2).trans o3).trans o4).trans o5).trans o6).trans o7).trans o8).trans o9).trans Q2).trans o11).trans o12) (λi hi bu=>by subst hi;omega)).below);have HM:Hd (eP w12 w.heap.size):=Ga;have wj:=eQ 114 w;go_enter func270,ntmps270;go_wp2;go_ret;exact⟨_,rfl,HM.o,bN,HO.o⟩
def L1(c:UInt8)(hc:c∈dP)(h:0<cB [c]):aZ oZ ⟨#[c]⟩=some (xI (cB [c]:Int)):=by
 simp only[dP,Qdf,List.not_mem_nil,or_false]at hc;rcases hc with rfl|rfl|rfl|rfl|rfl|rfl|rfl|rfl|rfl|rfl|rfl;all_goals first|rfl|exact absurd h (by decide)
def xQ(h:eP w b)(c:UInt8)(hc:c∈dP)(h0:0<cB [c]):(Instr.lookup 114 (.map (some b)) (xS ⟨#[c]⟩) false).run prog w= .ok (xI (cB [c]:Int)) w:=
 bD.lookup fe .string kR (P:=prog) underlying114 underlying9 jJ h ⟨#[c]⟩ _ (L1 c hc h0)
def Ue(b:Nat)(n:Int):Obj:=xK #[.map (some b),xI n] 385
theorem eP.below(h:eP w b)(k:aq w w'):eP w' b:=(k.block b (Qaa.1 h).1).trans h
theorem eP.only {S:aN}(h:eP w b)(k:ai S w w')(hS:¬S b):eP w' b:=k.at_ h hS
def Pg(M:aN)(w:aj)(q b:Nat)(nn:Int)(k n:Int)(s:aM)(l:List aw)(lv:an)(hl:ab M w lv l)(hs:s.size<=200)(h:wI k n s.data.toList l.length=true)(hq:bR w q (Ue b nn))(hb:eP w b)(hT:Tb w):
 xC 339 #[xP q, .agg #[xI k,xI n,xS s,lv]] w (cr (xB true) w):=by
 obtain⟨a,cap,rfl,cV,hm,_⟩:=hl.open_;have hql:q<w.heap.size:=(Qaa.1 hq).1;have TF:q≠w.heap.size:=by omega
 obtain⟨r0,r1⟩:=ah hq;have HT:=af (λo=>hT.below (w':=w.alloc o) bM);have HBA:=af (λo=>hb.below (w':=w.alloc o) bM);unfold wI at h;by_cases h1:k=1
 .subst h1;simp only[if_true,Qce,decide_eq_true_eq,List.isEmpty_iff,beq_iff_eq]at h;obtain⟨⟨⟨yN,KD⟩,Bl⟩,uD⟩:=h;obtain rfl:=fg Bl;rw[uD];go_enter func339,ntmps339;go_wp2;go_ret;exact⟨rfl,bM⟩
 .rw[if_neg h1]at h;simp only[Qce,decide_eq_true_eq]at h;obtain⟨rfl,h⟩:=h;by_cases h2:k=2
  .subst h2;simp only[if_true,Qce,beq_iff_eq]at h;obtain⟨ht,uD⟩:=h;rw[uD];have HX:=af (DT ht);go_enter func339,ntmps339;go_wp2_with fail;refine bY (Az _ HX.o _ (HT.o _)) λw1 aF=> ?_;obtain⟨q0,q1,q2,q3⟩:=ae (boxed aF);have aY:=af aF;go_wp2;go_ret;exact⟨rfl,aU aY.o⟩
  .rw[if_neg h2]at h;by_cases h3:k=3
   .subst h3;simp only[if_true,Qce,beq_iff_eq]at h;obtain⟨ht,uD⟩:=h;rw[uD];have h20:s.size<=20:=by unfold qK at ht;simp only[Qce,decide_eq_true_eq]at ht;rw[<-bq];exact ht.1.1.2
    rw[pO]at ht;have HX:=af ht;go_enter func339,ntmps339;go_wp2_with fail;refine bY (Ay _ HX.o h20 _) λw1 aF=> ?_;obtain⟨q0,q1,q2,q3⟩:=ae (boxed aF);have aY:=af aF;go_wp2;go_ret;exact⟨rfl,aU aY.o⟩
   .rw[if_neg h3]at h;by_cases h4:k=4
    .subst h4;simp only[if_true,Qce,beq_iff_eq,decide_eq_true_eq]at h;obtain⟨ht,uD⟩:=h;obtain⟨c,hc,Fx⟩:=tT ht;obtain rfl:=fg Fx;rw[uD];have hz:(0:Int)<(cB [c]:Int):=by simp at ht;omega
     have qq:=λo=>xQ (HBA.o o) c hc (by simp at ht;exact ht);have qay:=λo=>xQ (w:=(w.alloc o).drew) (HBA.o o) c hc (by simp at ht;exact ht);generalize cB [c]=bb at*;go_enter func339,ntmps339;go_wp2_with fail;have hdz:decide ((0:Int)<(bb:Int))=true:=by simpa using hz
     have qhd:decide (0<bb)=true:=by simp;omega
     go_region;all_goals
      go_wp2;go_ret;exact⟨rfl,bM.trans ⟨rfl,rfl,rfl,bN,λ_ _=>rfl⟩⟩
    .rw[if_neg h4]at h;by_cases h6:k=6
     .subst h6;simp only[if_true,Qce,beq_iff_eq,decide_eq_true_eq]at h;obtain⟨ht,uD⟩:=h;have hz:(0:Int)<(dB s.data.toList:Int):=by omega
      have HA:=af (λw=>Ae s w);have er:decide ((0:Int)<(dB s.data.toList:Int))=true:=by simpa using ht
      have yK:decide (0<dB s.data.toList)=true:=by simpa using ht
      rw[uD];generalize dB s.data.toList=bb at*;go_enter func339,ntmps339;go_wp2_with fail;go_quiet((go_at_call 380;exact Calls.quiet_of_same ((HA.o _).mono λ_ _ h=>⟨h.1,h.2.symm⟩)));go_wp2;go_ret;exact⟨rfl,bM.trans ⟨rfl,rfl,rfl,bN,λ_ _=>rfl⟩⟩
     .rw[if_neg h6]at h;cases h
def sD:Tryz.prog.underlying 402=some (.map 9 425):=underlying402
def AF {es:List (aM×an×Nat)}(h:bD fe w b es clk)(x:aM)(v:an)(hv:aZ es x=none):∃w',(Instr.mapUpdate 402 (.map (some b)) (xS x) v).run prog w= .ok () w'/\bD fe w' b (es++[(x,v,clk)]) (clk+1)/\ai (λi=>i=b) w w':=by
 obtain⟨h1,h2⟩:=bD.insert fe .string kR (P:=prog) sD underlying9 jJ h x v hv;exact⟨_,h1,h2,(ai.refl (λi=>i=b) w).putObj (.inl rfl) _⟩
def gI(v:an)(f:Nat):an:= .agg #[v, .func (.func f) #[] #[]]
abbrev tkW(w:aj)(kind:Int)(xs:Array an)(n:Nat):aj:=((w.alloc (.cells xs 3)).alloc (xK #[xI kind] 3)).alloc (xK #[xL (some ⟨w.heap.size,0,none⟩) n n] 27)
abbrev Zt(w:aj):an:= .func (.func 391) #[] #[xP (w.heap.size+1+1),xP (w.heap.size+1)]
def Ee(w:aj)(kind:Int)(xs:Array an)(n:Nat):ai F w (tkW w kind xs n):=(((ai.refl F w).alloc _).alloc _).alloc _
def SF {es:List (aM×an×Nat)}(h:bD fe w b es clk)(kind:Int)(xs:Array an)(n:Nat):bD fe (tkW w kind xs n) b es clk:=
 (Ee (F:=λ_=>False) w kind xs n).at_ h (λh=>h)
def fH(w:aj)(b:Nat):Prop:=∃es clk,bD fe w b es clk/\
 (∃v,aZ es ⟨#[108,101,110]⟩=some (gI v 353)/\iq (λi=>i<=b) w v 1 [2])/\
 (∃v,aZ es ⟨#[108,101,102,116]⟩=some (gI v 356)/\iq (λi=>i<=b) w v 2 [2,1])/\
 (∃v,aZ es ⟨#[102,114,111,109]⟩=some (gI v 360)/\iq (λi=>i<=b) w v 2 [2,1])/\
 (∃v,aZ es ⟨#[102,105,110,100]⟩=some (gI v 361)/\iq (λi=>i<=b) w v 1 [2,2])/\
 (∃v,aZ es ⟨#[116,101,120,116]⟩=some (gI v 363)/\iq (λi=>i<=b) w v 2 [1])/\
 aZ es ⟨#[105,102]⟩=some (gI (.func (.func 366) #[] #[]) 367)
theorem fH.below(h:fH w b)(k:aq w w'):fH w' b:=by
 obtain⟨es,clk,h0,⟨v1,a1,t1⟩,⟨v2,a2,t2⟩,⟨v3,a3,t3⟩,⟨v4,a4,t4⟩,⟨v5,a5,t5⟩,h6⟩:=h;have ho:ai (λi=>i<=b) w w':=ai.ao k;exact⟨es,clk,(k.block b (Qaa.1 h0).1).trans h0,⟨v1,a1,t1.only ho⟩,⟨v2,a2,t2.only ho⟩,⟨v3,a3,t3.only ho⟩,⟨v4,a4,t4.only ho⟩,⟨v5,a5,t5.only ho⟩,h6⟩
theorem fH.only {S:aN}(h:fH w b)(k:ai S w w')(hS:∀i,S i->i<b):fH w' b:=by
 obtain⟨es,clk,h0,⟨v1,a1,t1⟩,⟨v2,a2,t2⟩,⟨v3,a3,t3⟩,⟨v4,a4,t4⟩,⟨v5,a5,t5⟩,h6⟩:=h;have ho:ai (λi=>i<=b) w w':=k.mono λi hi=>Nat.le_of_lt (hS i hi);exact⟨es,clk,k.at_ h0 (λh=>by have:=hS b h;omega),⟨v1,a1,t1.only ho⟩,⟨v2,a2,t2.only ho⟩,⟨v3,a3,t3.only ho⟩,⟨v4,a4,t4.only ho⟩,⟨v5,a5,t5.only ho⟩,h6⟩
def fm {es:List (aM×an×Nat)}(h:bD fe w b es clk)(x:aM)(v:an)(hv:aZ es x=some v):(Instr.lookup 402 (.map (some b)) (xS x) false).run prog w= .ok v w:=
 bD.lookup fe .string kR (P:=prog) sD underlying9 jJ h x v hv
def Ef(w:aj):xC 326 #[] w λe w'=>∃b,e=xR (.map (some b))/\fH w' b/\w.heap.size<=b/\aq w w':=by
 have h0:bD fe (w.alloc (.map #[] 0)) w.heap.size [] 0:=(MapKept.heap_alloc w _).1;have t0:w.heap.size<(w.alloc (.map #[] 0)).heap.size:=by simp
 obtain⟨w0,uF⟩:=bS (w.alloc (.map #[] 0));rw[<-uF]at h0 t0;have step:∀{W:aj}{es:List (aM×an×Nat)}{clk:Nat},bD fe W w.heap.size es clk->∀(x:aM)(kind:Int)(ks:List Int)(n f:Nat),ks.length=n->n<=1000->aZ es x=none->
  ∃W',(Instr.mapUpdate 402 (.map (some w.heap.size)) (xS x) (gI (Zt W) f)).run prog (tkW W kind (ks.map (Value.int .i64)).toArray n)= .ok () W'/\bD fe W' w.heap.size (es++[(x,gI (Zt W) f,clk)]) (clk+1)/\ai (λi=>i=w.heap.size) W W'/\iq (λi=>i<=w.heap.size) W' (Zt W) kind ks:=by
  intro W es clk h x kind ks n f hn hb hv;obtain⟨W',e1,e2,e3⟩:=AF (SF h kind (ks.map (Value.int .i64)).toArray n) x (gI (Zt W) f) hv;have bu:=(Qaa.1 h).1;refine⟨W',e1,e2,(Ee W kind _ n).trans e3,?_⟩;exact(x9 W (F:=λi=>i<=w.heap.size) (λi hi=>Nat.lt_of_le_of_lt hi bu) kind ks n hn hb).only (e3.mono λi hi=>Nat.le_of_eq hi)
 obtain⟨w1,e1,h1,o1,k1⟩:=step h0 ⟨#[108,101,110]⟩ 1 [2] 1 353 rfl (by omega) rfl;obtain⟨w2,e2,h2,o2,k2⟩:=step h1 ⟨#[108,101,102,116]⟩ 2 [2,1] 2 356 rfl (by omega) rfl;obtain⟨w3,e3,h3,o3,_⟩:=step h2 ⟨#[114,105,103,104,116]⟩ 2 [2,1] 2 359 rfl (by omega) rfl;obtain⟨w4,e4,h4,o4,k4⟩:=step h3 ⟨#[102,114,111,109]⟩ 2 [2,1] 2 360 rfl (by omega) rfl;obtain⟨w5,e5,h5,o5,k5⟩:=step h4 ⟨#[102,105,110,100]⟩ 1 [2,2] 2 361 rfl (by omega) rfl;obtain⟨w6,e6,h6,o6,k6⟩:=step h5 ⟨#[116,101,120,116]⟩ 2 [1] 1 363 rfl (by omega) rfl;obtain⟨w7,e7,h7,o7,_⟩:=step h6 ⟨#[110,117,109]⟩ 1 [2] 1 364 rfl (by omega) rfl;obtain⟨w8,e8,h8,o8⟩:=AF h7 ⟨#[105,102]⟩ (gI (.func (.func 366) #[] #[]) 367) rfl;obtain⟨w9,e9,h9,o9,_⟩:=step h8 ⟨#[109,105,110]⟩ 1 [1,1] 2 368 rfl (by omega) rfl;obtain⟨tK,Tm,KQ,Q2,_⟩:=step h9 ⟨#[109,97,120]⟩ 1 [1,1] 2 369 rfl (by omega) rfl;have up:∀{W W':aj},ai (λi=>i=w.heap.size) W W'->ai (λi=>i<=w.heap.size) W W':=λh=>h.mono λi hi=>Nat.le_of_eq hi;have HO:Hd (aq w tK):=((((ai.refl xF w).alloc (.map #[] 0)).cO (uF▸(((((((((o1.trans o2).trans o3).trans o4).trans o5).trans o6).trans o7).trans o8).trans o9).trans Q2)) (λi hi bu=>by subst hi;omega)).below);have HM:Hd (fH tK w.heap.size):=⟨_,_,KQ,⟨_,rfl,k1.only (up ((((((((o2.trans o3).trans o4).trans o5).trans o6).trans o7).trans o8).trans o9).trans Q2))⟩,⟨_,rfl,k2.only (up (((((((o3.trans o4).trans o5).trans o6).trans o7).trans o8).trans o9).trans Q2))⟩,⟨_,rfl,k4.only (up (((((o5.trans o6).trans o7).trans o8).trans o9).trans Q2))⟩,⟨_,rfl,k5.only (up ((((o6.trans o7).trans o8).trans o9).trans Q2))⟩,⟨_,rfl,k6.only (up (((o7.trans o8).trans o9).trans Q2))⟩,rfl⟩;clear h0 h1 h2 h3 h4 h5 h6 h7 h8 h9 KQ o1 o2 o3 o4 o5 o6 o7 o8 o9 Q2 k1 k2 k4 k5 k6 t0 step up;unfold gI Zt tkW at e1 e2 e3 e4 e5 e6 e7 e9 Tm;unfold gI at e8;simp only[List.map_cons,List.map_nil]at e1 e2 e3 e4 e5 e6 e7 e9 Tm;have wj:=eQ 402 w;rw[<-uF]at wj;clear uF;go_enter func326,ntmps326;go_wp2_with(go_at_call 352;refine cT (x8 _ _ _ _ _) ?_);go_ret;exact⟨_,rfl,HM.o,bN,HO.o⟩
def J8 {l:List aT}(h:ab M w v l){x:aT}(hx:l[k]? =some x):∃b off cap,v=xL (some ⟨b,off,none⟩) l.length cap/\l.length<=cap/\b<w.heap.size/\∀W,aq w W->∀j y,l[j]? =some y->bt W b (off+j*2) (xI y.kind)/\bt W b (off+j*2+1) (xI y.of):=by
 obtain⟨a,cap,rfl,hl,_,hc⟩:=h.open_;have hk:=(Qad.1 hx).1;obtain⟨b,off,rfl,_,hb,aL⟩:=hc (by omega);refine⟨b,off,cap,rfl,hl,hb,λW hB j y hy=> ?_⟩;obtain⟨cs,rfl,bJ⟩:=aL j y hy;have g:∀i u,([xI y.kind,xI y.of]:List an)[i]? =some u->bt W b (off+j*2+i) u:=λi u hu=>(hB.cell (p:=⟨b,off+j*2+i,none⟩) hb).trans (bJ i u hu);exact⟨g 0 _ rfl,g 1 _ rfl⟩
def FT(k o:Int):Obj:=xK #[xI k,xI o] 49
def Ma(t:aT)(ht:t.kind=1\/t.kind=2)(M:aN)(w:aj)(pv:an)(hp:ab M w pv [⟨1,0⟩,t,t]):
 xC 366 #[pv] w (cr (.tuple #[.agg #[xI t.kind,xI t.of],xB true]) w):=by
 obtain⟨b,off,cap,rfl,cV,hb,hc⟩:=J8 hp (k:=0) rfl;have HC:=af hc;have bW:=af (Bx.eD w (FT 0 0));obtain⟨a0,_⟩:=HC.o _ bW.o.1 0 _ rfl;obtain⟨a2,a3⟩:=HC.o _ bW.o.1 1 _ rfl;obtain⟨a4,a5⟩:=HC.o _ bW.o.1 2 _ rfl;have NX:=af (Ed t ht b (off+2) (cap-1) (w.alloc (FT 0 0)) a2 a3 a4 a5);have y9:b≠w.heap.size:=by omega
 simp only[Qcc,Qcd]at cV;simp only[Nat.zero_mul,Nat.add_zero]at a0;unfold FT at a0;go_enter func366,ntmps366;go_wp2_with fail;refine bY (NX.o) λw1 aF=> ?_;have aY:=af (bW.o.below aF);obtain⟨c0,c1⟩:=ah (aY.o.bG rfl);obtain⟨f0,f1⟩:=mV (aY.o.bG rfl);obtain⟨a2,a3⟩:=HC.o _ aY.o.1 1 _ rfl;go_wp2_with fail;refine Qae (v:= .tuple #[.agg #[xI t.kind,xI t.of],xB true]) (by simp[results,results366,go_sem,c0,c1]) rfl ⟨rfl,?_⟩;exact(aY.o.1.setCell (by simp) _).setCell (by simp) _
def Pr(t:aT)(ht:t.kind=1\/t.kind=2)(M:aN)(w:aj)(pv:an)(hp:ab M w pv [t,t]):
 xC 396 #[pv] w (cr (.tuple #[.agg #[xI 1,xI 0],xB true]) w):=by
 obtain⟨b,off,cap,rfl,cV,hb,hc⟩:=J8 hp (k:=0) rfl;have bW:=af (Bx.eD w (FT 0 0));obtain⟨a2,a3⟩:=hc _ bW.o.1 0 _ rfl;obtain⟨a4,a5⟩:=hc _ bW.o.1 1 _ rfl;have NX:=af (Ed t ht b off cap (w.alloc (FT 0 0)) (by simpa using a2) (by simpa using a3) a4 a5);go_enter func396,ntmps396;go_wp2_with fail;refine bY (NX.o) λw1 aF=> ?_;have aY:=af (bW.o.below aF);obtain⟨c0,c1⟩:=ah (aY.o.bG rfl);obtain⟨f0,f1⟩:=mV (aY.o.bG rfl);go_wp2_with fail;refine Qae (v:= .tuple #[.agg #[xI 1,xI 0],xB true]) (by simp[results,results396,go_sem,c0,c1]) rfl ⟨rfl,?_⟩;exact(aY.o.1.setCell (by simp) _).setCell (by simp) _
def vZ(kind:Int)(ks:List Int)(w:aj)(e:Ending)(w':aj):Prop:=∃v,e=xR v/\iq xF w' v kind ks/\aq w w'
def Hz(s:aM)(hs:s=⟨#[42]⟩\/s=⟨#[45]⟩\/s=⟨#[47]⟩)(w:aj):xC 370 #[xS s] w (vZ 1 [1,1] w):=by
 have HT:=af (x9 (F:=λ_=>False) w (λ_ h=>h.elim) 1 [1,1] 2 rfl (by omega));rcases hs with rfl|rfl|rfl;all_goals
  go_enter func370,ntmps370;go_wp2_with(go_at_call 352;refine cT (x8 _ _ _ _ _) ?_);go_ret;exact(show vZ _ _ _ _ _ from⟨_,rfl,HT.o,(Bx.gO w _ _ _).1⟩)
def H7(w:aj):xC 370 #[xS ⟨#[38]⟩] w (vZ 2 [2,2] w):=by
 have HT:=af (x9 (F:=λ_=>False) w (λ_ h=>h.elim) 2 [2,2] 2 rfl (by omega));go_enter func370,ntmps370;go_wp2_with(go_at_call 352;refine cT (x8 _ _ _ _ _) ?_);go_ret;exact(show vZ _ _ _ _ _ from⟨_,rfl,HT.o,(Bx.gO w _ _ _).1⟩)
def H8(s:aM)(hs:s=⟨#[61]⟩\/s=⟨#[62]⟩)(w:aj):xC 370 #[xS s] w (ji (.func (.func 396) #[] #[]) w):=by
 rcases hs with rfl|rfl;all_goals
  go_enter func370,ntmps370;go_wp2;go_ret;exact⟨rfl,rfl⟩
end Go.Proofs.YtepaofffbkfodaaGreatDoor
