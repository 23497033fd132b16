/- A part of MarkAsks's proof; no condition. -/
import Derived.Test.YtccpcfcochffcaaGreatDoorM11
import Derived.Test.YtccpcfcochffcaaGreatDoorM12
set_option linter.all false
set_option maxHeartbeats 8000000
set_option maxRecDepth 100000
namespace Go.Proofs.YtccpcfcochffcaaGreatDoor
open Tryz
open Go.RowKit
variable{clk b g k:Nat}{w w' W:aj}{t:TypeId}{c0 v:an}{M F:aS}
def pL:List (aT×an×Nat):=[(⟨#[42]⟩,xI 4,0),(⟨#[47]⟩,xI 4,1),(⟨#[37]⟩,xI 4,2),(⟨#[43]⟩,xI 3,3),(⟨#[45]⟩,xI 3,4),(⟨#[38]⟩,xI 2,5),(⟨#[61]⟩,xI 1,6),(⟨#[60,62]⟩,xI 1,7),(⟨#[60]⟩,xI 1,8),(⟨#[60,61]⟩,xI 1,9),(⟨#[62]⟩,xI 1,10),(⟨#[62,61]⟩,xI 1,11)]
abbrev nR:aT->an:=λs=>xS s
def eP(w:aj)(b:Nat):Prop:=cg nR w b pL 12
def qp(e:Bool)(x:aT)(w:aj):(Instr.checkKey e 10000 9 (xS x)).run prog w= .ok () w:=by
 show(Instr.checkKey e (9999+1) 9 (xS x)).run prog w= .ok () w;rw[Instr.checkKey];simp only[Sem.run_bind,run_underlying underlying9,Result.andThen_ok];rfl
def lg(t:TypeId)(w:aj):(Instr.makeMap t none).run prog w= .ok (.map (some w.heap.size)) (w.alloc (.map #[] 0)):=by
 exact run_makeMap ..
def ei {es:List (aT×an×Nat)}(h:cg nR w b es clk)(x:aT)(v:an)(hv:bP es x=none):∃w',(Instr.mapUpdate 338 (.map (some b)) (xS x) v).run prog w= .ok () w'/\cg nR w' b (es++[(x,v,clk)]) (clk+1)/\ai (λi=>i=b) w w':=by
 obtain⟨h1,h2⟩:=cg.insert nR .string mU (P:=prog) underlying338 underlying9 qp h x v hv;exact⟨_,h1,h2,(ai.refl (λi=>i=b) w).putObj (.inl rfl) _⟩
def vR(w:aj):xC 264 #[] w λe w'=>∃b,e=xR (.map (some b))/\eP w' b/\w.heap.size<=b/\aq w w':=by
 have h0:cg nR (w.alloc (.map #[] 0)) w.heap.size [] 0:=(MapKept.heap_alloc w _).1;obtain⟨w1,e1,h1,o1⟩:=ei h0 ⟨#[42]⟩ (xI 4) (by decide);obtain⟨w2,e2,h2,o2⟩:=ei h1 ⟨#[47]⟩ (xI 4) (by decide);obtain⟨w3,e3,h3,o3⟩:=ei h2 ⟨#[37]⟩ (xI 4) (by decide);obtain⟨w4,e4,h4,o4⟩:=ei h3 ⟨#[43]⟩ (xI 3) (by decide);obtain⟨w5,e5,h5,o5⟩:=ei h4 ⟨#[45]⟩ (xI 3) (by decide);obtain⟨w6,e6,h6,o6⟩:=ei h5 ⟨#[38]⟩ (xI 2) (by decide);obtain⟨w7,e7,h7,o7⟩:=ei h6 ⟨#[61]⟩ (xI 1) (by decide);obtain⟨w8,e8,h8,o8⟩:=ei h7 ⟨#[60,62]⟩ (xI 1) (by decide);obtain⟨w9,e9,h9,o9⟩:=ei h8 ⟨#[60]⟩ (xI 1) (by decide);obtain⟨vu,WM,GY,Ub⟩:=ei h9 ⟨#[60,61]⟩ (xI 1) (by decide);obtain⟨w11,e11,h11,o11⟩:=ei GY ⟨#[62]⟩ (xI 1) (by decide);obtain⟨w12,e12,Dv,o12⟩:=ei h11 ⟨#[62,61]⟩ (xI 1) (by decide);have HO:Hd (aq w w12):=((((ai.refl xF w).alloc _).dc (((((((((((o1.trans o2).trans o3).trans o4).trans o5).trans o6).trans o7).trans o8).trans o9).trans Ub).trans o11).trans o12) (λi hi aX=>by subst hi;omega)).below);have HM:Hd (eP w12 w.heap.size):=Dv;have Cb:=lg 338 w;go_enter func264,ntmps264;go_wp2;go_ret;exact⟨_,rfl,HM.o,bq,HO.o⟩
def Mj(c:UInt8)(hc:c∈dF)(h:0<cj [c]):bP pL ⟨#[c]⟩=some (xI (cj [c]:Int)):=by
 simp only[dF,Qdf,List.not_mem_nil,or_false]at hc;rcases hc with rfl|rfl|rfl|rfl|rfl|rfl|rfl|rfl|rfl|rfl|rfl;all_goals first|rfl|exact absurd h (by decide)
def yX(h:eP w b)(c:UInt8)(hc:c∈dF)(h0:0<cj [c]):(Instr.lookup 338 (.map (some b)) (xS ⟨#[c]⟩) false).run prog w= .ok (xI (cj [c]:Int)) w:=
 cg.lookup nR .string mU (P:=prog) underlying338 underlying9 qp h ⟨#[c]⟩ _ (Mj c hc h0)
def UI(b:Nat)(n:Int):Obj:=xK #[.map (some b),xI n] 367
theorem eP.below(h:eP w b)(k:aq w w'):eP w' b:=(k.block b (Qaa.1 h).1).trans h
theorem eP.only {S:aS}(h:eP w b)(k:ai S w w')(hS:¬S b):eP w' b:=k.at_ h hS
def Pm(M:aS)(w:aj)(q b:Nat)(nn:Int)(k n:Int)(s:aT)(l:List ax)(lv:an)(hl:ab M w lv l)(hs:s.size<=200)(h:x9 k n s.data.toList l.length=true)(hq:cI w q (UI b nn))(hb:eP w b)(hT:Tb w):
 xC 311 #[xP q, .agg #[xI k,xI n,xS s,lv]] w (cN (xB true) w):=by
 obtain⟨a,cap,rfl,cK,hm,_⟩:=hl.open_;have hql:q<w.heap.size:=(Qaa.1 hq).1;have hqn:q≠w.heap.size:=by omega
 obtain⟨r0,r1⟩:=ah hq;have HT:=af (λo=>hT.below (w':=w.alloc o) bO);have DR:=af (λo=>hb.below (w':=w.alloc o) bO);unfold x9 at h;by_cases h1:k=1
 .subst h1;simp only[if_true,Qce,decide_eq_true_eq,List.isEmpty_iff,beq_iff_eq]at h;obtain⟨⟨⟨vj,Cd⟩,DH⟩,wC⟩:=h;obtain rfl:=ff DH;rw[wC];go_enter func311,ntmps311;go_wp2;go_ret;exact⟨rfl,bO⟩
 .rw[if_neg h1]at h;simp only[Qce,decide_eq_true_eq]at h;obtain⟨rfl,h⟩:=h;by_cases h2:k=2
  .subst h2;simp only[if_true,Qce,beq_iff_eq]at h;obtain⟨ht,wC⟩:=h;rw[wC];have HX:=af (ER ht);go_enter func311,ntmps311;go_wp2_with fail;refine cG (BA _ HX.o _ (HT.o _)) λw1 aC=> ?_;obtain⟨q0,q1,q2,q3⟩:=ae (boxed aC);have aO:=af aC;go_wp2;go_ret;exact⟨rfl,aQ aO.o⟩
  .rw[if_neg h2]at h;by_cases h3:k=3
   .subst h3;simp only[if_true,Qce,beq_iff_eq]at h;obtain⟨ht,wC⟩:=h;rw[wC];have h20:s.size<=20:=by unfold qR at ht;simp only[Qce,decide_eq_true_eq]at ht;rw[<-bh];exact ht.1.1.2
    rw[p9]at ht;have HX:=af ht;go_enter func311,ntmps311;go_wp2_with fail;refine cG (Bz _ HX.o h20 _) λw1 aC=> ?_;obtain⟨q0,q1,q2,q3⟩:=ae (boxed aC);have aO:=af aC;go_wp2;go_ret;exact⟨rfl,aQ aO.o⟩
   .rw[if_neg h3]at h;by_cases h4:k=4
    .subst h4;simp only[if_true,Qce,beq_iff_eq,decide_eq_true_eq]at h;obtain⟨ht,wC⟩:=h;obtain⟨c,hc,Gp⟩:=uB ht;obtain rfl:=ff Gp;rw[wC];have hz:(0:Int)<(cj [c]:Int):=by simp at ht;omega
     have oW:=λo=>yX (DR.o o) c hc (by simp at ht;exact ht);have qaz:=λo=>yX (w:=(w.alloc o).drew) (DR.o o) c hc (by simp at ht;exact ht);generalize cj [c]=bb at*;go_enter func311,ntmps311;go_wp2_with fail;have hdz:decide ((0:Int)<(bb:Int))=true:=by simpa using hz
     have qg6:decide (0<bb)=true:=by simp;omega
     go_region;all_goals
      go_wp2;go_ret;exact⟨rfl,bO.trans ⟨rfl,rfl,rfl,bq,λ_ _=>rfl⟩⟩
    .rw[if_neg h4]at h;by_cases h6:k=6
     .subst h6;simp only[if_true,Qce,beq_iff_eq,decide_eq_true_eq]at h;obtain⟨ht,wC⟩:=h;have hz:(0:Int)<(dq s.data.toList:Int):=by omega
      have HA:=af (λw=>Bc s w);have dA:decide ((0:Int)<(dq s.data.toList:Int))=true:=by simpa using ht
      have xJ:decide (0<dq s.data.toList)=true:=by simpa using ht
      rw[wC];generalize dq s.data.toList=bb at*;go_enter func311,ntmps311;go_wp2_with fail;go_quiet((go_at_call 327;exact Calls.quiet_of_same ((HA.o _).mono λ_ _ h=>⟨h.1,h.2.symm⟩)));go_wp2;go_ret;exact⟨rfl,bO.trans ⟨rfl,rfl,rfl,bq,λ_ _=>rfl⟩⟩
     .rw[if_neg h6]at h;cases h
instance:aA aR where
 size:=2
 rep:=λ_ _ cs x=>cs=[xI x.kind,xI x.of]
 len:=λh=>by rw[h];rfl
 flat:=λh u hu=>by rw[h]at hu;simp at hu;rcases hu with rfl|rfl<;>rfl
 ev:=λh _=>h
def UJ(h:W.heap[g]? =some (xK #[c0] t)):W.cell? ⟨g,0,none⟩=some c0:=by simp[World.cell?,h]
def IL {l:List aR}(h:ab M w v l){x:aR}(hx:l[k]? =some x):∃b off cap,v=xL (some ⟨b,off,none⟩) l.length cap/\b<w.heap.size/\∀W,aq w W->aU W b (off+k*2) (xI x.kind)/\aU W b (off+k*2+1) (xI x.of):=by
 obtain⟨a,cap,rfl,hl,_,hc⟩:=h.open_;have hk:=(Qad.1 hx).1;obtain⟨b,off,rfl,_,hb,aG⟩:=hc (by omega);obtain⟨cs,rfl,bD⟩:=aG k x hx;refine⟨b,off,cap,rfl,hb,λW hB=> ?_⟩;have g:∀j u,([xI x.kind,xI x.of]:List an)[j]? =some u->aU W b (off+k*2+j) u:=λj u hu=>(hB.cell (p:=⟨b,off+k*2+j,none⟩) hb).trans (bD j u hu);exact⟨g 0 _ rfl,g 1 _ rfl⟩
def ze {l:List Int}(h:ab M w v l){x:Int}(hx:l[k]? =some x):∃b off cap,v=xL (some ⟨b,off,none⟩) l.length cap/\b<w.heap.size/\∀W,aq w W->aU W b (off+k) (xI x):=by
 obtain⟨a,cap,rfl,hl,_,hc⟩:=h.open_;have hk:=(Qad.1 hx).1;obtain⟨b,off,rfl,_,hb,aG⟩:=hc (by omega);obtain⟨cs,rfl,bD⟩:=aG k x hx;refine⟨b,off,cap,rfl,hb,λW hB=> ?_⟩;have:=(hB.cell (p:=⟨b,off+k*1+0,none⟩) hb).trans (bD 0 _ rfl);simpa using this
def Pu(hM:¬M w.heap.size)(xs:List Int)(n:Nat)(hn:xs.length=n)(hb:n<=1000)(t:TypeId):ab (α:=Int) M (w.alloc (.cells (xs.map (Value.int .i64)).toArray t)) (xL (some ⟨w.heap.size,0,none⟩) n n) xs:=by
 subst hn;refine⟨xs.map λx=>[xI x],?_,by simp,?_⟩
 .have e:(xs.map λx=>[Value.int .i64 x]).flatten=xs.map (Value.int .i64):=by
   induction xs with
   |nil=>rfl
   |cons a r ih=>simp at ih⊢;exact ih (by simp at hb;omega)
  rw[e];refine⟨by simp[aA.size],some ⟨w.heap.size,0,none⟩,xs.length,rfl,bq,by unfold maxLen;omega,λ_=>⟨w.heap.size,0,rfl,hM,by simp,?_⟩⟩;intro j u hu;rw[Nat.zero_add];exact cell_of_heap (Qbh w _) (by simpa using hu)
 .intro i cs x hc hx;rw[List.getElem?_map,hx]at hc;simp at hc;exact hc.symm
def ik(F:aS)(w:aj)(v:an)(kind:Int)(ks:List Int):Prop:=
 ∃p q kv,v= .func (.func 312) #[] #[xP p,xP q]/\¬F p/\¬F q/\w.heap[p]? =some (xK #[kv] 27)/\w.heap[q]? =some (xK #[xI kind] 3)/\ab F w kv ks
theorem ik.only {kind:Int}{ks:List Int}(h:ik F w v kind ks)(ho:ai F w w'):ik F w' v kind ks:=by
 obtain⟨p,q,kv,h1,h2,h3,h4,h5,h6⟩:=h;exact⟨p,q,kv,h1,h2,h3,ho.at_ h4 h2,ho.at_ h5 h3,h6.ev ⟨ho,λ_ h=> .inl h⟩⟩
def zf(kind:Int)(a:dC)(n c:Nat)(w:aj):xC 282 #[xI kind,xL a n c] w λe w'=>e=xR (.func (.func 312) #[] #[xP (w.heap.size+1),xP w.heap.size])/\(w.alloc (xK #[xI kind] 3)).alloc (xK #[xL a n c] 27)=w':=by
 have DK:∀(fn:Fn)(first cap:Array an)(w:aj),(Instr.makeFunc fn first cap).run prog w= .ok (.func fn first cap) w:=λ_ _ _ _=>rfl;go_enter func282,ntmps282;go_wp2;go_ret;exact⟨rfl,rfl⟩
def zg(w:aj)(hF:∀i,F i->i<w.heap.size)(kind:Int)(ks:List Int)(n:Nat)(hn:ks.length=n)(hb:n<=1000):
 ik F (((w.alloc (.cells (ks.map (Value.int .i64)).toArray 3)).alloc (xK #[xI kind] 3)).alloc (xK #[xL (some ⟨w.heap.size,0,none⟩) n n] 27)) (.func (.func 312) #[] #[xP (w.heap.size+1+1),xP (w.heap.size+1)]) kind ks:=by
 have hB:=Bx.gI w (.cells (ks.map (Value.int .i64)).toArray 3 (0,0)) (xK #[xI kind] 3) (xK #[xL (some ⟨w.heap.size,0,none⟩) n n] 27);refine⟨_,_,_,rfl,λh=>by have:=hF _ h;omega,λh=>by have:=hF _ h;omega,hB.gy rfl,hB.cE rfl,?_⟩;refine(Pu (M:=F) (w:=w) (λh=>by have:=hF _ h;omega) ks n hn hb 3).below ?_;exact bO.alloc (by simp) _
def uQ(ts:List aR)(kind:Int)(M F:aS)(w:aj)(pv v:an)(ht:ts.length<=8)(hp:ab M w pv ts)(p q:Nat)(kv:an)(h4:cI w p (xK #[kv] 27))(h5:cI w q (xK #[xI kind] 3))(h6:ab F w kv (ts.map (·.kind))):
 xC 312 #[pv,xP p,xP q] w (cN (.tuple #[.agg #[xI kind,xI 0],xB true]) w):=by
 have HTC:Hd (∀(i:Nat)(x:aR),ts[i]? =some x->_):=λi x hx=>IL hp hx;have Nw:Hd (∀(i:Nat)(x:Int),(ts.map (·.kind))[i]? =some x->_):=λi x hx=>ze h6 hx;obtain⟨pa,pc,rfl,gO,hpm,_⟩:=hp.open_;obtain⟨ka,kc,hkv,rz,hkm,_⟩:=h6.open_;subst hkv;have hpw:p<w.heap.size:=(Qaa.1 h4).1;have hqw:q<w.heap.size:=(Qaa.1 h5).1;have HP:Hd (∀W,aq w W->aU W p 0 (xL ka (ts.map (·.kind)).length kc)/\aU W q 0 (xI kind)):=λW hb=>⟨UJ ((hb.block p hpw).trans h4),UJ ((hb.block q hqw).trans h5)⟩;rw[Qdc]at rz;generalize hn:ts.length=n at*;have HMK:=af (show(ts.map (·.kind)).length=n by rw[Qdc];exact hn);rw[HMK.o]at HP Nw;have ek:=af hn;go_enter func312,ntmps312;go_wp2_with fail;have iA:Hd (aq w (w.alloc (xK #[xI 0,xI 0] 136))):=bO;have Sg:Hd ((w.alloc (xK #[xI 0,xI 0] 136)).heap[w.heap.size]? =some (xK #[xI 0,xI 0] 136)):=Qbh w _;go_loopg [6,7,10]n(λg _ _ iv wr=>∃i:Nat,i<=n/\g=n-i/\iv=xI i/\Hd (aq w wr)/\Hd (dY wr w (xK #[xI 0,xI 0] 136)));case atStart=>exact⟨0,Qbf _,rfl,rfl,iA,Sg⟩
 case round=>
  obtain⟨i,hi,rfl,rfl,HB,HR⟩:=hrel;have hsz:=HB.o.size;have Rh:w.heap.size<wr.heap.size:=(Qaa.1 HR.o).1;by_cases aX:i<n
  .obtain⟨⟨xk,xo⟩,hx⟩:=dQ ts i (by rw[ek.o];exact aX);obtain⟨b,off,cap,hv,hb,aw⟩:=HTC.o i _ hx;obtain⟨rfl,rfl⟩:=gY hv;obtain⟨bk,qhh,qhi,vw,Lh,Dx⟩:=Nw.o i xk (by rw[List.getElem?_map,hx];rfl);obtain⟨rfl,rfl⟩:=gY vw;obtain⟨q0,q1⟩:=aw wr HB.o;have r0:=λo=>Dx (wr.alloc o) (HB.o.alloc hsz o);have p0:=λo=>(HP.o (wr.alloc o) (HB.o.alloc hsz o)).1;have GM:b≠wr.heap.size:=by omega
   have qhj:bk≠wr.heap.size:=by omega
   have hpn:p≠wr.heap.size:=by omega
   dsimp only at q0 q1;go_wp2_with fail;go_quiet(fail);go_wp2;go_roundg(n-(i+1));case measure=>omega
   case rel=>
    refine⟨i+1,by omega,rfl,by go_num,?_,?_⟩
    .exact(below_drewNv (HB.o.alloc hsz _) _)
    .exact(show _=_ from(Qcb wr _ _ Rh).trans HR.o)
  .obtain⟨_,q0⟩:=HP.o wr HB.o;obtain⟨e0,e1⟩:=ah HR.o;obtain⟨f0,f1⟩:=nu HR.o;have hqn:q≠w.heap.size:=by omega
   go_wp2_with fail;refine Qae (v:= .tuple #[.agg #[xI kind,xI 0],xB true]) (by simp[results,results312,go_sem,e0,e1]) rfl ⟨rfl,?_⟩;exact(HB.o.setCell (by simp) _).setCell (by simp) _
def E4(t:aR)(ht:t.kind=1\/t.kind=2)(b off cap:Nat)(w:aj)(h0:aU w b off (xI t.kind))(h1:aU w b (off+1) (xI t.of))(h2:aU w b (off+2) (xI t.kind))(h3:aU w b (off+3) (xI t.of)):
 xC 317 #[xL (some ⟨b,off,none⟩) 2 cap] w (cN (xB true) w):=by
 obtain⟨k,o⟩:=t;dsimp only at*;rcases ht with rfl|rfl;all_goals
  go_enter func317,ntmps317;go_wp2_with fail;go_quiet(fail);go_wp2;go_ret;exact⟨rfl,below_drewNv dK _⟩
def sY:Tryz.prog.underlying 349=some (.map 9 373):=underlying349
def BI {es:List (aT×an×Nat)}(h:cg nR w b es clk)(x:aT)(v:an)(hv:bP es x=none):∃w',(Instr.mapUpdate 349 (.map (some b)) (xS x) v).run prog w= .ok () w'/\cg nR w' b (es++[(x,v,clk)]) (clk+1)/\ai (λi=>i=b) w w':=by
 obtain⟨h1,h2⟩:=cg.insert nR .string mU (P:=prog) sY underlying9 qp h x v hv;exact⟨_,h1,h2,(ai.refl (λi=>i=b) w).putObj (.inl rfl) _⟩
def gP(v:an)(f:Nat):an:= .agg #[v, .func (.func f) #[] #[]]
abbrev tkW(w:aj)(kind:Int)(xs:Array an)(n:Nat):aj:=((w.alloc (.cells xs 3)).alloc (xK #[xI kind] 3)).alloc (xK #[xL (some ⟨w.heap.size,0,none⟩) n n] 27)
abbrev ZL(w:aj):an:= .func (.func 312) #[] #[xP (w.heap.size+1+1),xP (w.heap.size+1)]
def E5(w:aj)(kind:Int)(xs:Array an)(n:Nat):ai F w (tkW w kind xs n):=(((ai.refl F w).alloc _).alloc _).alloc _
def Td {es:List (aT×an×Nat)}(h:cg nR w b es clk)(kind:Int)(xs:Array an)(n:Nat):cg nR (tkW w kind xs n) b es clk:=
 (E5 (F:=λ_=>False) w kind xs n).at_ h (λh=>h)
def fC(w:aj)(b:Nat):Prop:=∃es clk,cg nR w b es clk/\
 (∃v,bP es ⟨#[108,101,110]⟩=some (gP v 283)/\ik (λi=>i<=b) w v 1 [2])/\
 (∃v,bP es ⟨#[108,101,102,116]⟩=some (gP v 286)/\ik (λi=>i<=b) w v 2 [2,1])/\
 (∃v,bP es ⟨#[102,114,111,109]⟩=some (gP v 290)/\ik (λi=>i<=b) w v 2 [2,1])/\
 (∃v,bP es ⟨#[102,105,110,100]⟩=some (gP v 291)/\ik (λi=>i<=b) w v 1 [2,2])/\
 (∃v,bP es ⟨#[116,101,120,116]⟩=some (gP v 293)/\ik (λi=>i<=b) w v 2 [1])/\
 bP es ⟨#[105,102]⟩=some (gP (.func (.func 297) #[] #[]) 298)
theorem fC.below(h:fC w b)(k:aq w w'):fC w' b:=by
 obtain⟨es,clk,h0,⟨v1,a1,t1⟩,⟨v2,a2,t2⟩,⟨v3,a3,t3⟩,⟨v4,a4,t4⟩,⟨v5,a5,t5⟩,h6⟩:=h;have ho:ai (λi=>i<=b) w w':=ai.ao k;exact⟨es,clk,(k.block b (Qaa.1 h0).1).trans h0,⟨v1,a1,t1.only ho⟩,⟨v2,a2,t2.only ho⟩,⟨v3,a3,t3.only ho⟩,⟨v4,a4,t4.only ho⟩,⟨v5,a5,t5.only ho⟩,h6⟩
theorem fC.only {S:aS}(h:fC w b)(k:ai S w w')(hS:∀i,S i->i<b):fC w' b:=by
 obtain⟨es,clk,h0,⟨v1,a1,t1⟩,⟨v2,a2,t2⟩,⟨v3,a3,t3⟩,⟨v4,a4,t4⟩,⟨v5,a5,t5⟩,h6⟩:=h;have ho:ai (λi=>i<=b) w w':=k.mono λi hi=>Nat.le_of_lt (hS i hi);exact⟨es,clk,k.at_ h0 (λh=>by have:=hS b h;omega),⟨v1,a1,t1.only ho⟩,⟨v2,a2,t2.only ho⟩,⟨v3,a3,t3.only ho⟩,⟨v4,a4,t4.only ho⟩,⟨v5,a5,t5.only ho⟩,h6⟩
def fh {es:List (aT×an×Nat)}(h:cg nR w b es clk)(x:aT)(v:an)(hv:bP es x=some v):(Instr.lookup 349 (.map (some b)) (xS x) false).run prog w= .ok v w:=
 cg.lookup nR .string mU (P:=prog) sY underlying9 qp h x v hv
def E6(w:aj):xC 268 #[] w λe w'=>∃b,e=xR (.map (some b))/\fC w' b/\w.heap.size<=b/\aq w w':=by
 have h0:cg nR (w.alloc (.map #[] 0)) w.heap.size [] 0:=(MapKept.heap_alloc w _).1;have t0:w.heap.size<(w.alloc (.map #[] 0)).heap.size:=by simp
 obtain⟨w0,Ds⟩:=cM (w.alloc (.map #[] 0));rw[<-Ds]at h0 t0;have step:∀{W:aj}{es:List (aT×an×Nat)}{clk:Nat},cg nR W w.heap.size es clk->∀(x:aT)(kind:Int)(ks:List Int)(n f:Nat),ks.length=n->n<=1000->bP es x=none->
  ∃W',(Instr.mapUpdate 349 (.map (some w.heap.size)) (xS x) (gP (ZL W) f)).run prog (tkW W kind (ks.map (Value.int .i64)).toArray n)= .ok () W'/\cg nR W' w.heap.size (es++[(x,gP (ZL W) f,clk)]) (clk+1)/\ai (λi=>i=w.heap.size) W W'/\ik (λi=>i<=w.heap.size) W' (ZL W) kind ks:=by
  intro W es clk h x kind ks n f hn hb hv;obtain⟨W',e1,e2,e3⟩:=BI (Td h kind (ks.map (Value.int .i64)).toArray n) x (gP (ZL W) f) hv;have aX:=(Qaa.1 h).1;refine⟨W',e1,e2,(E5 W kind _ n).trans e3,?_⟩;exact(zg W (F:=λi=>i<=w.heap.size) (λi hi=>Nat.lt_of_le_of_lt hi aX) kind ks n hn hb).only (e3.mono λi hi=>Nat.le_of_eq hi)
 obtain⟨w1,e1,h1,o1,k1⟩:=step h0 ⟨#[108,101,110]⟩ 1 [2] 1 283 rfl (by omega) rfl;obtain⟨w2,e2,h2,o2,k2⟩:=step h1 ⟨#[108,101,102,116]⟩ 2 [2,1] 2 286 rfl (by omega) rfl;obtain⟨w3,e3,h3,o3,_⟩:=step h2 ⟨#[114,105,103,104,116]⟩ 2 [2,1] 2 289 rfl (by omega) rfl;obtain⟨w4,e4,h4,o4,k4⟩:=step h3 ⟨#[102,114,111,109]⟩ 2 [2,1] 2 290 rfl (by omega) rfl;obtain⟨w5,e5,h5,o5,k5⟩:=step h4 ⟨#[102,105,110,100]⟩ 1 [2,2] 2 291 rfl (by omega) rfl;obtain⟨w6,e6,h6,o6,k6⟩:=step h5 ⟨#[116,101,120,116]⟩ 2 [1] 1 293 rfl (by omega) rfl;obtain⟨w7,e7,h7,o7,_⟩:=step h6 ⟨#[110,117,109]⟩ 1 [2] 1 295 rfl (by omega) rfl;obtain⟨w8,e8,h8,o8⟩:=BI h7 ⟨#[105,102]⟩ (gP (.func (.func 297) #[] #[]) 298) rfl;obtain⟨w9,e9,h9,o9,_⟩:=step h8 ⟨#[109,105,110]⟩ 1 [1,1] 2 299 rfl (by omega) rfl;obtain⟨vu,WM,GY,Ub,_⟩:=step h9 ⟨#[109,97,120]⟩ 1 [1,1] 2 300 rfl (by omega) rfl;have up:∀{W W':aj},ai (λi=>i=w.heap.size) W W'->ai (λi=>i<=w.heap.size) W W':=λh=>h.mono λi hi=>Nat.le_of_eq hi;have HO:Hd (aq w vu):=((((ai.refl xF w).alloc (.map #[] 0)).dc (Ds▸(((((((((o1.trans o2).trans o3).trans o4).trans o5).trans o6).trans o7).trans o8).trans o9).trans Ub)) (λi hi aX=>by subst hi;omega)).below);have HM:Hd (fC vu w.heap.size):=⟨_,_,GY,⟨_,rfl,k1.only (up ((((((((o2.trans o3).trans o4).trans o5).trans o6).trans o7).trans o8).trans o9).trans Ub))⟩,⟨_,rfl,k2.only (up (((((((o3.trans o4).trans o5).trans o6).trans o7).trans o8).trans o9).trans Ub))⟩,⟨_,rfl,k4.only (up (((((o5.trans o6).trans o7).trans o8).trans o9).trans Ub))⟩,⟨_,rfl,k5.only (up ((((o6.trans o7).trans o8).trans o9).trans Ub))⟩,⟨_,rfl,k6.only (up (((o7.trans o8).trans o9).trans Ub))⟩,rfl⟩;clear h0 h1 h2 h3 h4 h5 h6 h7 h8 h9 GY o1 o2 o3 o4 o5 o6 o7 o8 o9 Ub k1 k2 k4 k5 k6 t0 step up;unfold gP ZL tkW at e1 e2 e3 e4 e5 e6 e7 e9 WM;unfold gP at e8;simp only[List.map_cons,List.map_nil]at e1 e2 e3 e4 e5 e6 e7 e9 WM;have Cb:=lg 349 w;rw[<-Ds]at Cb;clear Ds;go_enter func268,ntmps268;go_wp2_with(go_at_call 282;refine dJ (zf _ _ _ _ _) ?_);go_ret;exact⟨_,rfl,HM.o,bq,HO.o⟩
def KF {l:List aR}(h:ab M w v l){x:aR}(hx:l[k]? =some x):∃b off cap,v=xL (some ⟨b,off,none⟩) l.length cap/\l.length<=cap/\b<w.heap.size/\∀W,aq w W->∀j y,l[j]? =some y->aU W b (off+j*2) (xI y.kind)/\aU W b (off+j*2+1) (xI y.of):=by
 obtain⟨a,cap,rfl,hl,_,hc⟩:=h.open_;have hk:=(Qad.1 hx).1;obtain⟨b,off,rfl,_,hb,aG⟩:=hc (by omega);refine⟨b,off,cap,rfl,hl,hb,λW hB j y hy=> ?_⟩;obtain⟨cs,rfl,bD⟩:=aG j y hy;have g:∀i u,([xI y.kind,xI y.of]:List an)[i]? =some u->aU W b (off+j*2+i) u:=λi u hu=>(hB.cell (p:=⟨b,off+j*2+i,none⟩) hb).trans (bD i u hu);exact⟨g 0 _ rfl,g 1 _ rfl⟩
def GK(k o:Int):Obj:=xK #[xI k,xI o] 136
def Ms(t:aR)(ht:t.kind=1\/t.kind=2)(M:aS)(w:aj)(pv:an)(hp:ab M w pv [⟨1,0⟩,t,t]):
 xC 297 #[pv] w (cN (.tuple #[.agg #[xI t.kind,xI t.of],xB true]) w):=by
 obtain⟨b,off,cap,rfl,cK,hb,hc⟩:=KF hp (k:=0) rfl;have HC:=af hc;have bN:=af (Bx.dR w (GK 0 0));obtain⟨a0,_⟩:=HC.o _ bN.o.1 0 _ rfl;obtain⟨a2,a3⟩:=HC.o _ bN.o.1 1 _ rfl;obtain⟨a4,a5⟩:=HC.o _ bN.o.1 2 _ rfl;have Nx:=af (E4 t ht b (off+2) (cap-1) (w.alloc (GK 0 0)) a2 a3 a4 a5);have GM:b≠w.heap.size:=by omega
 simp only[Qcc,Qcd]at cK;simp only[Nat.zero_mul,Nat.add_zero]at a0;unfold GK at a0;go_enter func297,ntmps297;go_wp2_with fail;refine cG (Nx.o) λw1 aC=> ?_;have aO:=af (bN.o.below aC);obtain⟨c0,c1⟩:=ah (aO.o.bJ rfl);obtain⟨f0,f1⟩:=nu (aO.o.bJ rfl);obtain⟨a2,a3⟩:=HC.o _ aO.o.1 1 _ rfl;go_wp2_with fail;refine Qae (v:= .tuple #[.agg #[xI t.kind,xI t.of],xB true]) (by simp[results,results297,go_sem,c0,c1]) rfl ⟨rfl,?_⟩;exact(aO.o.1.setCell (by simp) _).setCell (by simp) _
def Pv(t:aR)(ht:t.kind=1\/t.kind=2)(M:aS)(w:aj)(pv:an)(hp:ab M w pv [t,t]):
 xC 318 #[pv] w (cN (.tuple #[.agg #[xI 1,xI 0],xB true]) w):=by
 obtain⟨b,off,cap,rfl,cK,hb,hc⟩:=KF hp (k:=0) rfl;have bN:=af (Bx.dR w (GK 0 0));obtain⟨a2,a3⟩:=hc _ bN.o.1 0 _ rfl;obtain⟨a4,a5⟩:=hc _ bN.o.1 1 _ rfl;have Nx:=af (E4 t ht b off cap (w.alloc (GK 0 0)) (by simpa using a2) (by simpa using a3) a4 a5);go_enter func318,ntmps318;go_wp2_with fail;refine cG (Nx.o) λw1 aC=> ?_;have aO:=af (bN.o.below aC);obtain⟨c0,c1⟩:=ah (aO.o.bJ rfl);obtain⟨f0,f1⟩:=nu (aO.o.bJ rfl);go_wp2_with fail;refine Qae (v:= .tuple #[.agg #[xI 1,xI 0],xB true]) (by simp[results,results318,go_sem,c0,c1]) rfl ⟨rfl,?_⟩;exact(aO.o.1.setCell (by simp) _).setCell (by simp) _
def xq(kind:Int)(ks:List Int)(w:aj)(e:Ending)(w':aj):Prop:=∃v,e=xR v/\ik xF w' v kind ks/\aq w w'
def IM(s:aT)(hs:s=⟨#[42]⟩\/s=⟨#[45]⟩\/s=⟨#[47]⟩)(w:aj):xC 301 #[xS s] w (xq 1 [1,1] w):=by
 have HT:=af (zg (F:=λ_=>False) w (λ_ h=>h.elim) 1 [1,1] 2 rfl (by omega));rcases hs with rfl|rfl|rfl;all_goals
  go_enter func301,ntmps301;go_wp2_with(go_at_call 282;refine dJ (zf _ _ _ _ _) ?_);go_ret;exact(show xq _ _ _ _ _ from⟨_,rfl,HT.o,(Bx.gI w _ _ _).1⟩)
def IN(w:aj):xC 301 #[xS ⟨#[38]⟩] w (xq 2 [2,2] w):=by
 have HT:=af (zg (F:=λ_=>False) w (λ_ h=>h.elim) 2 [2,2] 2 rfl (by omega));go_enter func301,ntmps301;go_wp2_with(go_at_call 282;refine dJ (zf _ _ _ _ _) ?_);go_ret;exact(show xq _ _ _ _ _ from⟨_,rfl,HT.o,(Bx.gI w _ _ _).1⟩)
def IP(s:aT)(hs:s=⟨#[61]⟩\/s=⟨#[62]⟩)(w:aj):xC 301 #[xS s] w (gE (.func (.func 318) #[] #[]) w):=by
 rcases hs with rfl|rfl;all_goals
  go_enter func301,ntmps301;go_wp2;go_ret;exact⟨rfl,rfl⟩
end Go.Proofs.YtccpcfcochffcaaGreatDoor
