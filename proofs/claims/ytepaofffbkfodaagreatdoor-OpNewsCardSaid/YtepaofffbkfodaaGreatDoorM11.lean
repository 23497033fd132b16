/- A part; no condition. -/
import Derived.Test.YtepaofffbkfodaaGreatDoorM09
import Derived.Test.YtepaofffbkfodaaGreatDoorM10
set_option linter.all false
set_option maxHeartbeats 8000000
set_option maxRecDepth 100000
namespace Go.Proofs.YtepaofffbkfodaaGreatDoor
open Tryz
open Go.RowKit
variable{clk b g k:Nat}{w w' W:ax}{t:TypeId}{c0 v:aA}{M F:aV}
def oY:List (aY×aA×Nat):=[(⟨#[42]⟩,xI 4,0),(⟨#[47]⟩,xI 4,1),(⟨#[37]⟩,xI 4,2),(⟨#[43]⟩,xI 3,3),(⟨#[45]⟩,xI 3,4),(⟨#[38]⟩,xI 2,5),(⟨#[61]⟩,xI 1,6),(⟨#[60,62]⟩,xI 1,7),(⟨#[60]⟩,xI 1,8),(⟨#[60,61]⟩,xI 1,9),(⟨#[62]⟩,xI 1,10),(⟨#[62,61]⟩,xI 1,11)]
abbrev fw:aY->aA:=λs=>xS s
def eY(w:ax)(b:Nat):Prop:=bP fw w b oY 12
def jT(e:Bool)(x:aY)(w:ax):(Instr.checkKey e 10000 9 x).run prog w= .ok () w:=by
 show(Instr.checkKey e (9999+1) 9 x).run prog w= .ok () w;rw[Instr.checkKey];simp only[Sem.run_bind,run_underlying underlying9,Result.andThen_ok];rfl
def eM(t:TypeId)(w:ax):(Instr.makeMap t none).run prog w= .ok (.map (some w.heap.size)) (w.alloc (.map #[] 0)):=by
 exact run_makeMap ..
def ew {es:List (aY×aA×Nat)}(h:bP fw w b es clk)(x:aY)(v:aA)(hv:bB es x=none):∃w',(Instr.mapUpdate 114 (.map (some b)) x v).run prog w= .ok () w'/\bP fw w' b (es++[(x,v,clk)]) (clk+1)/\ao (λi=>i=b) w w':=by
 have⟨h1,h2⟩:=bP.insert fw .string lj (P:=prog) underlying114 underlying9 jT h x v hv;exact⟨_,h1,h2,(ao.refl (λi=>i=b) w).putObj (.inl rfl) _⟩
def uM(w:ax):xC 270 #[] w λe w'=>∃b,e=xR (.map (some b))/\eY w' b/\w.heap.size<=b/\aC w w':=by
 have h0:bP fw (w.alloc (.map #[] 0)) w [] 0:=(MapKept.heap_alloc w _).1;have⟨w1,e1,h1,o1⟩:=ew h0 ⟨#[42]⟩ (xI 4) (by decide);have⟨w2,e2,h2,o2⟩:=ew h1 ⟨#[47]⟩ (xI 4) (by decide);have⟨w3,e3,h3,o3⟩:=ew h2 ⟨#[37]⟩ (xI 4) (by decide);have⟨w4,e4,h4,o4⟩:=ew h3 ⟨#[43]⟩ (xI 3) (by decide);have⟨w5,e5,h5,o5⟩:=ew h4 ⟨#[45]⟩ (xI 3) (by decide);have⟨w6,e6,h6,o6⟩:=ew h5 ⟨#[38]⟩ (xI 2) (by decide);have⟨w7,e7,h7,o7⟩:=ew h6 ⟨#[61]⟩ (xI 1) (by decide);have⟨w8,e8,h8,o8⟩:=ew h7 ⟨#[60,62]⟩ (xI 1) (by decide);have⟨w9,e9,h9,o9⟩:=ew h8 ⟨#[60]⟩ (xI 1) (by decide);have⟨w10,e10,h10,o10⟩:=ew h9 ⟨#[60,61]⟩ (xI 1) (by decide);have⟨w11,e11,h11,o11⟩:=ew h10 ⟨#[62]⟩ (xI 1) (by decide);have⟨w12,e12,h12,o12⟩:=ew h11 ⟨#[62,61]⟩ (xI 1) (by decide);have HO:Hd (aC w w12):=((((ao.refl xF w).alloc _).cV (((((((((((o1.trans o2).trans o3).trans o4).trans o5).trans o6).trans o7).trans o8).trans o9).trans o10).trans o11).trans o12) (λi hi bH=>by subst hi;omega)).ae);have HM:Hd (eY w12 w):=h12;have hmk:=eM 114 w;go_enter func270,ntmps270;go_wp2;go_ret;exact⟨_,rfl,HM.o,bT,HO.o⟩
def Lk(c:UInt8)(hc:c∈dW)(h:0<cH [c]):bB oY ⟨#[c]⟩=some (xI (cH [c]:Int)):=by
 simp only[dW,Qdf,List.not_mem_nil,or_false]at hc;rcases hc with rfl|rfl|rfl|rfl|rfl|rfl|rfl|rfl|rfl|rfl|rfl;all_goals first|rfl|exact absurd h (by decide)
def xD(h:eY w b)(c:UInt8)(hc:c∈dW)(h0:0<cH [c]):(Instr.lookup 114 (.map (some b)) (xS ⟨#[c]⟩) false).run prog w= .ok (xI (cH [c]:Int)) w:=
 bP.lookup fw .string lj (P:=prog) underlying114 underlying9 jT h ⟨#[c]⟩ _ (Lk c hc h0)
def Tn(b:Nat)(n:Int):Obj:=xK #[.map (some b),n] 385
theorem eY.ae(h:eY w b)(k:aC w w'):eY w' b:=(k.block b (Qaa.1 h).1).trans h
theorem eY.only {S:aV}(h:eY w b)(k:ao S w w')(hS:¬S b):eY w' b:=k.at_ h hS
def OF(M:aV)(w:ax)(q b:Nat)(nn:Int)(k n:Int)(s:aY)(l:List aG)(lv:aA)(hl:ab M w lv l)(hs:s.size<=200)(h:wA k n s.data.toList l.length=true)(hq:bW w q (Tn b nn))(hb:eY w b)(hT:Tb w):
 xC 339 #[xP q, .agg #[k,n,s,lv]] w (cu true w):=by
 obtain⟨a,cap,rfl,cY,hm,_⟩:=hl.aq;have hql:q<w:=(Qaa.1 hq).1;have V8:q≠w:=by omega
 have⟨r0,r1⟩:=ak hq;have HT:=ag (λo=>hT.ae (w':=w.alloc o) bU);have Z7:=ag (λo=>hb.ae (w':=w.alloc o) bU);unfold wA at h;by_cases h1:k=1
 .subst h1;simp only[if_true,Qce,decide_eq_true_eq,List.isEmpty_iff,beq_iff_eq]at h;obtain⟨⟨⟨hn1,hn2⟩,hs0⟩,uj⟩:=h;obtain rfl:=fz hs0;rw[uj];go_enter func339,ntmps339;go_wp2;go_ret;exact⟨rfl,bU⟩
 .rw[if_neg h1]at h;simp only[Qce,decide_eq_true_eq]at h;obtain⟨rfl,h⟩:=h;by_cases h2:k=2
  .subst h2;simp only[if_true,Qce,beq_iff_eq]at h;obtain⟨ht,uj⟩:=h;rw[uj];have HX:=ag (DD ht);go_enter func339,ntmps339;go_wp2_with fail;refine cC (Al _ HX.o _ (HT.o _)) λw1 hb1=> ?_;have⟨q0,q1,q2,q3⟩:=af (boxed hb1);have bz:=ag hb1;go_wp2;go_ret;exact⟨rfl,bt bz.o⟩
  .rw[if_neg h2]at h;by_cases h3:k=3
   .subst h3;simp only[if_true,Qce,beq_iff_eq]at h;obtain⟨ht,uj⟩:=h;rw[uj];have h20:s.size<=20:=by unfold qy at ht;simp only[Qce,decide_eq_true_eq]at ht;rw[<-bG];exact ht.1.1.2
    rw[pO]at ht;have HX:=ag ht;go_enter func339,ntmps339;go_wp2_with fail;refine cC (Ak _ HX.o h20 _) λw1 hb1=> ?_;have⟨q0,q1,q2,q3⟩:=af (boxed hb1);have bz:=ag hb1;go_wp2;go_ret;exact⟨rfl,bt bz.o⟩
   .rw[if_neg h3]at h;by_cases h4:k=4
    .subst h4;simp only[if_true,Qce,beq_iff_eq,decide_eq_true_eq]at h;obtain⟨ht,uj⟩:=h;have⟨c,hc,hsc⟩:=tz ht;obtain rfl:=fz hsc;rw[uj];have hz:(0:Int)<(cH [c]:Int):=by simp at ht;omega
     have pM:=λo=>xD (Z7.o o) c hc (by simp at ht;exact ht);have Z8:=λo=>xD (w:=(w.alloc o).drew) (Z7.o o) c hc (by simp at ht;exact ht);generalize cH [c]=bb at*;go_enter func339,ntmps339;go_wp2_with fail;have hdz:decide ((0:Int)<(bb:Int))=true:=by simpa using hz
     have qf7:decide (0<bb)=true:=by simp;omega
     go_region;all_goals
      go_wp2;go_ret;exact⟨rfl,bU.trans ⟨rfl,rfl,rfl,bT,λ_ _=>rfl⟩⟩
    .rw[if_neg h4]at h;by_cases h6:k=6
     .subst h6;simp only[if_true,Qce,beq_iff_eq,decide_eq_true_eq]at h;obtain⟨ht,uj⟩:=h;have hz:(0:Int)<(dM s.data.toList:Int):=by omega
      have HA:=ag (λw=>zQ s w);have hz2:decide ((0:Int)<(dM s.data.toList:Int))=true:=by simpa using ht
      have yJ:decide (0<dM s.data.toList)=true:=by simpa using ht
      rw[uj];generalize dM s.data.toList=bb at*;go_enter func339,ntmps339;go_wp2_with fail;go_quiet((go_at_call 380;exact Calls.quiet_of_same ((HA.o _).mono λ_ _ h=>⟨h.1,h.2.symm⟩)));go_wp2;go_ret;exact⟨rfl,bU.trans ⟨rfl,rfl,rfl,bT,λ_ _=>rfl⟩⟩
     .rw[if_neg h6]at h;cases h
instance:aD br where
 size:=2
 rep:=λ_ _ cs x=>cs=[xI x.an,xI x.of]
 len:=λh=>by rw[h];rfl
 flat:=λh u hu=>by rw[h]at hu;simp at hu;rcases hu with rfl|rfl<;>rfl
 ev:=λh _=>h
def To(h:W.heap[g]? =some (xK #[c0] t)):W.cell? (g,0)=some c0:=by simp[World.cell?,h]
def G4 {l:List br}(h:ab M w v l){x:br}(hx:l[k]? =some x):∃b off cap,v=xL (b,off) l.length cap/\b<w.heap.size/\∀W,aC w W->bJ W b (off+k*2) x.an/\bJ W b (off+k*2+1) x.of:=by
 obtain⟨a,cap,rfl,hl,_,hc⟩:=h.aq;have hk:=(Qad.1 hx).1;obtain⟨b,off,rfl,_,hb,hcell⟩:=hc (by omega);obtain⟨cs,rfl,hcs⟩:=hcell k x hx;refine⟨b,off,cap,rfl,hb,λW hB=> ?_⟩;have g:∀j u,([xI x.an,xI x.of]:List aA)[j]? =some u->bJ W b (off+k*2+j) u:=λj u hu=>(hB.cell (p:=⟨b,off+k*2+j,none⟩) hb).trans (hcs j u hu);exact⟨g 0 _ rfl,g 1 _ rfl⟩
def xO {l:List Int}(h:ab M w v l){x:Int}(hx:l[k]? =some x):∃b off cap,v=xL (b,off) l.length cap/\b<w.heap.size/\∀W,aC w W->bJ W b (off+k) x:=by
 obtain⟨a,cap,rfl,hl,_,hc⟩:=h.aq;have hk:=(Qad.1 hx).1;obtain⟨b,off,rfl,_,hb,hcell⟩:=hc (by omega);obtain⟨cs,rfl,hcs⟩:=hcell k x hx;refine⟨b,off,cap,rfl,hb,λW hB=> ?_⟩;have:=(hB.cell (p:=⟨b,off+k*1+0,none⟩) hb).trans (hcs 0 _ rfl);simpa using this
def OO(hM:¬M w)(xs:List Int)(n:Nat)(hn:xs.length=n)(hb:n<=1000)(t:TypeId):ab (α:=Int) M (w.alloc (.cells (xs.map (Value.int .i64)).toArray t)) (xL (w,0) n n) xs:=by
 subst hn;refine⟨xs.map λx=>[xI x],?_,by simp,?_⟩
 .have e:(xs.map λx=>[Value.int .i64 x]).flatten=xs.map (Value.int .i64):=by
   induction xs with
   |nil=>rfl
   |cons a r ih=>simp at ih⊢;exact ih (by simp at hb;omega)
  rw[e];refine⟨by simp[aD.size],some ⟨w,0,none⟩,xs.length,rfl,bT,by unfold maxLen;omega,λ_=>⟨w,0,rfl,hM,by simp,?_⟩⟩;intro j u hu;rw[Nat.zero_add];exact cell_of_heap (Qbh w _) (by simpa using hu)
 .intro i cs x hc hx;rw[List.getElem?_map,hx]at hc;simp at hc;exact hc.symm
def iB(F:aV)(w:ax)(v:aA)(an:Int)(ks:List Int):Prop:=
 ∃p q kv,v= .func (.func 391) #[] #[xP p,xP q]/\¬F p/\¬F q/\w.heap[p]? =some (xK #[kv] 27)/\w.heap[q]? =some (xK #[an] 3)/\ab F w kv ks
theorem iB.only {an:Int}{ks:List Int}(h:iB F w v an ks)(ho:ao F w w'):iB F w' v an ks:=by
 obtain⟨p,q,kv,h1,h2,h3,h4,h5,h6⟩:=h;exact⟨p,q,kv,h1,h2,h3,ho.at_ h4 h2,ho.at_ h5 h3,h6.ev ⟨ho,λ_ h=> .inl h⟩⟩
def xQ(an:Int)(a:fx)(n c:Nat)(w:ax):xC 352 #[an,xL a n c] w λe w'=>e=xR (.func (.func 391) #[] #[xP [w],xP w.heap.size])/\(w.alloc (xK #[an] 3)).alloc (xK #[xL a n c] 27)=w':=by
 have Cs:∀(fn:Fn)(au cap:Array aA)(w:ax),(Instr.makeFunc fn au cap).run prog w= .ok (.func fn au cap) w:=λ_ _ _ _=>rfl;go_enter func352,ntmps352;go_wp2;go_ret;exact⟨rfl,rfl⟩
def xT(w:ax)(hF:∀i,F i->i<w.heap.size)(an:Int)(ks:List Int)(n:Nat)(hn:ks.length=n)(hb:n<=1000):
 iB F (((w.alloc (.cells (ks.map (Value.int .i64)).toArray 3)).alloc (xK #[an] 3)).alloc (xK #[xL (w,0) n n] 27)) (.func (.func 391) #[] #[xP [w,w],xP [w]]) an ks:=by
 have hB:=Bx.gj w (.cells (ks.map (Value.int .i64)).toArray 3 (0,0)) (xK #[an] 3) (xK #[xL (w,0) n n] 27);refine⟨_,_,_,rfl,λh=>by have:=hF _ h;omega,λh=>by have:=hF _ h;omega,hB.fB rfl,hB.cg rfl,?_⟩;refine(OO (M:=F) (w:=w) (λh=>by have:=hF _ h;omega) ks n hn hb 3).ae ?_;exact bU.alloc (by simp) _
def tO(ts:List br)(an:Int)(M F:aV)(w:ax)(pv v:aA)(ht:ts.length<=8)(hp:ab M w pv ts)(p q:Nat)(kv:aA)(h4:bW w p (xK #[kv] 27))(h5:bW w q (xK #[an] 3))(h6:ab F w kv (ts.map (·.an))):
 xC 391 #[pv,xP p,xP q] w (cu (.tuple #[.agg #[an,xI 0],true]) w):=by
 have CL:Hd (∀(i:Nat)(x:br),ts[i]? =some x->_):=λi x hx=>G4 hp hx;have I2:Hd (∀(i:Nat)(x:Int),(ts.map (·.an))[i]? =some x->_):=λi x hx=>xO h6 hx;obtain⟨pa,pc,rfl,iy,hpm,_⟩:=hp.aq;have⟨ka,kc,hkv,hkl,hkm,_⟩:=h6.aq;subst hkv;have hpw:p<w:=(Qaa.1 h4).1;have hqw:q<w:=(Qaa.1 h5).1;have HP:Hd (∀W,aC w W->bJ W p 0 (xL ka (ts.map (·.an)).length kc)/\bJ W q 0 an):=λW hb=>⟨To ((hb.block p hpw).trans h4),To ((hb.block q hqw).trans h5)⟩;rw[Qdc]at hkl;generalize hn:ts.length=n at*;have HMK:=ag (show(ts.map (·.an)).length=n by rw[Qdc];exact hn);rw[HMK.o]at HP I2;have eJ:=ag hn;go_enter func391,ntmps391;go_wp2_with fail;have iW:Hd (aC w (w.alloc (xK #[xI 0,xI 0] 49))):=bU;have Wf:Hd ((w.alloc (xK #[xI 0,xI 0] 49)).heap[w.heap.size]? =some (xK #[xI 0,xI 0] 49)):=Qbh w _;go_loopg [6,7,10]n(λg _ _ iv wr=>∃i:Nat,i<=n/\g=n-i/\iv=xI i/\Hd (aC w wr)/\Hd (dk wr w (xK #[xI 0,xI 0] 49)));case atStart=>exact⟨0,Qbf _,rfl,rfl,iW,Wf⟩
 case round=>
  obtain⟨i,hi,rfl,rfl,HB,HR⟩:=hrel;have hsz:=HB.o.size;have I3:w.heap.size<wr:=(Qaa.1 HR.o).1;by_cases bH:i<n
  .have⟨⟨xk,xo⟩,hx⟩:=eG ts i (by rw[eJ.o];exact bH);have⟨b,off,cap,hv,hb,hcells⟩:=CL.o i _ hx;obtain⟨rfl,rfl⟩:=iY hv;have⟨bk,offk,capk,hv2,hbk,hcells2⟩:=I2.o i xk (by rw[List.getElem?_map,hx];rfl);obtain⟨rfl,rfl⟩:=iY hv2;have⟨q0,q1⟩:=hcells wr HB.o;have r0:=λo=>hcells2 (wr.alloc o) (HB.o.alloc hsz o);have p0:=λo=>(HP.o (wr.alloc o) (HB.o.alloc hsz o)).1;have sX:b≠wr:=by omega
   have qgi:bk≠wr:=by omega
   have Vy:p≠wr:=by omega
   dsimp only at q0 q1;go_wp2_with fail;go_quiet(fail);go_wp2;go_roundg(n-(i+1));case measure=>omega
   case rel=>
    refine⟨i+1,by omega,rfl,by go_num,?_,?_⟩
    .exact(below_drewNv (HB.o.alloc hsz _) _)
    .exact(show _=_ from(Qcb wr _ _ I3).trans HR.o)
  .have⟨_,q0⟩:=HP.o wr HB.o;have⟨e0,e1⟩:=ak HR.o;have⟨f0,f1⟩:=mu HR.o;have V8:q≠w:=by omega
   go_wp2_with fail;refine Qae (v:= .tuple #[.agg #[an,xI 0],true]) (by simp[results,results391,go_sem,e0,e1]) rfl ⟨rfl,?_⟩;exact(HB.o.setCell (by simp) _).setCell (by simp) _
def DW(t:br)(ht:t.an=1\/t.an=2)(b off cap:Nat)(w:ax)(h0:bJ w b off t.an)(h1:bJ w b (off+1) t.of)(h2:bJ w b (off+2) t.an)(h3:bJ w b (off+3) t.of):
 xC 395 #[xL (b,off) 2 cap] w (cu true w):=by
 obtain⟨k,o⟩:=t;dsimp only at*;rcases ht with rfl|rfl;all_goals
  go_enter func395,ntmps395;go_wp2_with fail;go_quiet(fail);go_wp2;go_ret;exact⟨rfl,below_drewNv dS _⟩
def sj:Tryz.prog.underlying 402=some (.map 9 425):=underlying402
def Aq {es:List (aY×aA×Nat)}(h:bP fw w b es clk)(x:aY)(v:aA)(hv:bB es x=none):∃w',(Instr.mapUpdate 402 (.map (some b)) x v).run prog w= .ok () w'/\bP fw w' b (es++[(x,v,clk)]) (clk+1)/\ao (λi=>i=b) w w':=by
 have⟨h1,h2⟩:=bP.insert fw .string lj (P:=prog) sj underlying9 jT h x v hv;exact⟨_,h1,h2,(ao.refl (λi=>i=b) w).putObj (.inl rfl) _⟩
def gS(v:aA)(f:Nat):aA:= .agg #[v, .func (.func f) #[] #[]]
abbrev tkW(w:ax)(an:Int)(xs:Array aA)(n:Nat):ax:=((w.alloc (.cells xs 3)).alloc (xK #[an] 3)).alloc (xK #[xL (w,0) n n] 27)
abbrev YH(w:ax):aA:= .func (.func 391) #[] #[xP [w,w],xP [w]]
def DX(w:ax)(an:Int)(xs:Array aA)(n:Nat):ao F w (tkW w an xs n):=(((ao.refl F w).alloc _).alloc _).alloc _
def RS {es:List (aY×aA×Nat)}(h:bP fw w b es clk)(an:Int)(xs:Array aA)(n:Nat):bP fw (tkW w an xs n) b es clk:=
 (DX (F:=λ_=>False) w an xs n).at_ h (λh=>h)
def fR(w:ax)(b:Nat):Prop:=∃es clk,bP fw w b es clk/\
 (∃v,bB es ⟨#[108,101,110]⟩=some (gS v 353)/\iB (λi=>i<=b) w v 1 [2])/\
 (∃v,bB es ⟨#[108,101,102,116]⟩=some (gS v 356)/\iB (λi=>i<=b) w v 2 [2,1])/\
 (∃v,bB es ⟨#[102,114,111,109]⟩=some (gS v 360)/\iB (λi=>i<=b) w v 2 [2,1])/\
 (∃v,bB es ⟨#[102,105,110,100]⟩=some (gS v 361)/\iB (λi=>i<=b) w v 1 [2,2])/\
 (∃v,bB es ⟨#[116,101,120,116]⟩=some (gS v 363)/\iB (λi=>i<=b) w v 2 [1])/\
 bB es ⟨#[105,102]⟩=some (gS (.func (.func 366) #[] #[]) 367)
theorem fR.ae(h:fR w b)(k:aC w w'):fR w' b:=by
 obtain⟨es,clk,h0,⟨v1,a1,t1⟩,⟨v2,a2,t2⟩,⟨v3,a3,t3⟩,⟨v4,a4,t4⟩,⟨v5,a5,t5⟩,h6⟩:=h;have ho:ao (λi=>i<=b) w w':=ao.az k;exact⟨es,clk,(k.block b (Qaa.1 h0).1).trans h0,⟨v1,a1,t1.only ho⟩,⟨v2,a2,t2.only ho⟩,⟨v3,a3,t3.only ho⟩,⟨v4,a4,t4.only ho⟩,⟨v5,a5,t5.only ho⟩,h6⟩
theorem fR.only {S:aV}(h:fR w b)(k:ao S w w')(hS:∀i,S i->i<b):fR w' b:=by
 obtain⟨es,clk,h0,⟨v1,a1,t1⟩,⟨v2,a2,t2⟩,⟨v3,a3,t3⟩,⟨v4,a4,t4⟩,⟨v5,a5,t5⟩,h6⟩:=h;have ho:ao (λi=>i<=b) w w':=k.mono λi hi=>Nat.le_of_lt (hS i hi);exact⟨es,clk,k.at_ h0 (λh=>by have:=hS b h;omega),⟨v1,a1,t1.only ho⟩,⟨v2,a2,t2.only ho⟩,⟨v3,a3,t3.only ho⟩,⟨v4,a4,t4.only ho⟩,⟨v5,a5,t5.only ho⟩,h6⟩
def fC {es:List (aY×aA×Nat)}(h:bP fw w b es clk)(x:aY)(v:aA)(hv:bB es x=some v):(Instr.lookup 402 (.map (some b)) x false).run prog w= .ok v w:=
 bP.lookup fw .string lj (P:=prog) sj underlying9 jT h x v hv
def DY(w:ax):xC 326 #[] w λe w'=>∃b,e=xR (.map (some b))/\fR w' b/\w.heap.size<=b/\aC w w':=by
 have h0:bP fw (w.alloc (.map #[] 0)) w [] 0:=(MapKept.heap_alloc w _).1;have t0:w.heap.size<(w.alloc (.map #[] 0)).heap.size:=by simp
 have⟨w0,hw0⟩:=bY (w.alloc (.map #[] 0));rw[<-hw0]at h0 t0;have step:∀{W:ax}{es:List (aY×aA×Nat)}{clk:Nat},bP fw W w es clk->∀(x:aY)(an:Int)(ks:List Int)(n f:Nat),ks.length=n->n<=1000->bB es x=none->
  ∃W',(Instr.mapUpdate 402 (.map (some w.heap.size)) x (gS (YH W) f)).run prog (tkW W an (ks.map (Value.int .i64)).toArray n)= .ok () W'/\bP fw W' w (es++[(x,gS (YH W) f,clk)]) (clk+1)/\ao (λi=>i=w) W W'/\iB (λi=>i<=w) W' (YH W) an ks:=by
  intro W es clk h x an ks n f hn hb hv;have⟨W',e1,e2,e3⟩:=Aq (RS h an (ks.map (Value.int .i64)).toArray n) x (gS (YH W) f) hv;have bH:=(Qaa.1 h).1;refine⟨W',e1,e2,(DX W an _ n).trans e3,?_⟩;exact(xT W (F:=λi=>i<=w) (λi hi=>Nat.lt_of_le_of_lt hi bH) an ks n hn hb).only (e3.mono λi hi=>Nat.le_of_eq hi)
 have⟨w1,e1,h1,o1,k1⟩:=step h0 ⟨#[108,101,110]⟩ 1 [2] 1 353 rfl (by omega) rfl;have⟨w2,e2,h2,o2,k2⟩:=step h1 ⟨#[108,101,102,116]⟩ 2 [2,1] 2 356 rfl (by omega) rfl;have⟨w3,e3,h3,o3,_⟩:=step h2 ⟨#[114,105,103,104,116]⟩ 2 [2,1] 2 359 rfl (by omega) rfl;have⟨w4,e4,h4,o4,k4⟩:=step h3 ⟨#[102,114,111,109]⟩ 2 [2,1] 2 360 rfl (by omega) rfl;have⟨w5,e5,h5,o5,k5⟩:=step h4 ⟨#[102,105,110,100]⟩ 1 [2,2] 2 361 rfl (by omega) rfl;have⟨w6,e6,h6,o6,k6⟩:=step h5 ⟨#[116,101,120,116]⟩ 2 [1] 1 363 rfl (by omega) rfl;have⟨w7,e7,h7,o7,_⟩:=step h6 ⟨#[110,117,109]⟩ 1 [2] 1 364 rfl (by omega) rfl;have⟨w8,e8,h8,o8⟩:=Aq h7 ⟨#[105,102]⟩ (gS (.func (.func 366) #[] #[]) 367) rfl;have⟨w9,e9,h9,o9,_⟩:=step h8 ⟨#[109,105,110]⟩ 1 [1,1] 2 368 rfl (by omega) rfl;have⟨w10,e10,h10,o10,_⟩:=step h9 ⟨#[109,97,120]⟩ 1 [1,1] 2 369 rfl (by omega) rfl;have up:∀{W W':ax},ao (λi=>i=w) W W'->ao (λi=>i<=w) W W':=λh=>h.mono λi hi=>Nat.le_of_eq hi;have HO:Hd (aC w w10):=((((ao.refl xF w).alloc (.map #[] 0)).cV (hw0▸(((((((((o1.trans o2).trans o3).trans o4).trans o5).trans o6).trans o7).trans o8).trans o9).trans o10)) (λi hi bH=>by subst hi;omega)).ae);have HM:Hd (fR w10 w):=⟨_,_,h10,⟨_,rfl,k1.only (up ((((((((o2.trans o3).trans o4).trans o5).trans o6).trans o7).trans o8).trans o9).trans o10))⟩,⟨_,rfl,k2.only (up (((((((o3.trans o4).trans o5).trans o6).trans o7).trans o8).trans o9).trans o10))⟩,⟨_,rfl,k4.only (up (((((o5.trans o6).trans o7).trans o8).trans o9).trans o10))⟩,⟨_,rfl,k5.only (up ((((o6.trans o7).trans o8).trans o9).trans o10))⟩,⟨_,rfl,k6.only (up (((o7.trans o8).trans o9).trans o10))⟩,rfl⟩;clear h0 h1 h2 h3 h4 h5 h6 h7 h8 h9 h10 o1 o2 o3 o4 o5 o6 o7 o8 o9 o10 k1 k2 k4 k5 k6 t0 step up;unfold gS YH tkW at e1 e2 e3 e4 e5 e6 e7 e9 e10;unfold gS at e8;simp only[List.map_cons,List.map_nil]at e1 e2 e3 e4 e5 e6 e7 e9 e10;have hmk:=eM 402 w;rw[<-hw0]at hmk;clear hw0;go_enter func326,ntmps326;go_wp2_with(go_at_call 352;refine dw (xQ _ _ _ _ _) ?_);go_ret;exact⟨_,rfl,HM.o,bT,HO.o⟩
def JC {l:List br}(h:ab M w v l){x:br}(hx:l[k]? =some x):∃b off cap,v=xL (b,off) l.length cap/\l.length<=cap/\b<w.heap.size/\∀W,aC w W->∀j y,l[j]? =some y->bJ W b (off+j*2) (xI y.an)/\bJ W b (off+j*2+1) (xI y.of):=by
 obtain⟨a,cap,rfl,hl,_,hc⟩:=h.aq;have hk:=(Qad.1 hx).1;obtain⟨b,off,rfl,_,hb,hcell⟩:=hc (by omega);refine⟨b,off,cap,rfl,hl,hb,λW hB j y hy=> ?_⟩;obtain⟨cs,rfl,hcs⟩:=hcell j y hy;have g:∀i u,([xI y.an,xI y.of]:List aA)[i]? =some u->bJ W b (off+j*2+i) u:=λi u hu=>(hB.cell (p:=⟨b,off+j*2+i,none⟩) hb).trans (hcs i u hu);exact⟨g 0 _ rfl,g 1 _ rfl⟩
def FB(k o:Int):Obj:=xK #[k,o] 49
def Lu(t:br)(ht:t.an=1\/t.an=2)(M:aV)(w:ax)(pv:aA)(hp:ab M w pv [⟨1,0⟩,t,t]):
 xC 366 #[pv] w (cu (.tuple #[.agg #[t.an,t.of],true]) w):=by
 obtain⟨b,off,cap,rfl,cY,hb,hc⟩:=JC hp (k:=0) rfl;have HC:=ag hc;have cI:=ag (Bx.eI w (FB 0 0));have⟨a0,_⟩:=HC.o _ cI.o.1 0 _ rfl;have⟨a2,a3⟩:=HC.o _ cI.o.1 1 _ rfl;have⟨a4,a5⟩:=HC.o _ cI.o.1 2 _ rfl;have I4:=ag (DW t ht b (off+2) (cap-1) (w.alloc (FB 0 0)) a2 a3 a4 a5);have sX:b≠w:=by omega
 simp only[Qcc,Qcd]at cY;simp only[Nat.zero_mul,Nat.add_zero]at a0;unfold FB at a0;go_enter func366,ntmps366;go_wp2_with fail;refine cC (I4.o) λw1 hb1=> ?_;have bz:=ag (cI.o.ae hb1);have⟨c0,c1⟩:=ak (bz.o.bO rfl);have⟨f0,f1⟩:=mu (bz.o.bO rfl);have⟨a2,a3⟩:=HC.o _ bz.o.1 1 _ rfl;go_wp2_with fail;refine Qae (v:= .tuple #[.agg #[t.an,t.of],true]) (by simp[results,results366,go_sem,c0,c1]) rfl ⟨rfl,?_⟩;exact(bz.o.1.setCell (by simp) _).setCell (by simp) _
def OP(t:br)(ht:t.an=1\/t.an=2)(M:aV)(w:ax)(pv:aA)(hp:ab M w pv [t,t]):
 xC 396 #[pv] w (cu (.tuple #[.agg #[xI 1,xI 0],true]) w):=by
 obtain⟨b,off,cap,rfl,cY,hb,hc⟩:=JC hp (k:=0) rfl;have cI:=ag (Bx.eI w (FB 0 0));have⟨a2,a3⟩:=hc _ cI.o.1 0 _ rfl;have⟨a4,a5⟩:=hc _ cI.o.1 1 _ rfl;have I4:=ag (DW t ht b off cap (w.alloc (FB 0 0)) (by simpa using a2) (by simpa using a3) a4 a5);go_enter func396,ntmps396;go_wp2_with fail;refine cC (I4.o) λw1 hb1=> ?_;have bz:=ag (cI.o.ae hb1);have⟨c0,c1⟩:=ak (bz.o.bO rfl);have⟨f0,f1⟩:=mu (bz.o.bO rfl);go_wp2_with fail;refine Qae (v:= .tuple #[.agg #[xI 1,xI 0],true]) (by simp[results,results396,go_sem,c0,c1]) rfl ⟨rfl,?_⟩;exact(bz.o.1.setCell (by simp) _).setCell (by simp) _
def vU(an:Int)(ks:List Int)(w:ax)(e:Ending)(w':ax):Prop:=∃v,e=xR v/\iB xF w' v an ks/\aC w w'
def G5(s:aY)(hs:s=⟨#[42]⟩\/s=⟨#[45]⟩\/s=⟨#[47]⟩)(w:ax):xC 370 #[s] w (vU 1 [1,1] w):=by
 have HT:=ag (xT (F:=λ_=>False) w (λ_ h=>h.elim) 1 [1,1] 2 rfl (by omega));rcases hs with rfl|rfl|rfl;all_goals
  go_enter func370,ntmps370;go_wp2_with(go_at_call 352;refine dw (xQ _ _ _ _ _) ?_);go_ret;exact(show vU _ _ _ _ _ from⟨_,rfl,HT.o,(Bx.gj w _ _ _).1⟩)
def G6(w:ax):xC 370 #[xS ⟨#[38]⟩] w (vU 2 [2,2] w):=by
 have HT:=ag (xT (F:=λ_=>False) w (λ_ h=>h.elim) 2 [2,2] 2 rfl (by omega));go_enter func370,ntmps370;go_wp2_with(go_at_call 352;refine dw (xQ _ _ _ _ _) ?_);go_ret;exact(show vU _ _ _ _ _ from⟨_,rfl,HT.o,(Bx.gj w _ _ _).1⟩)
def G7(s:aY)(hs:s=⟨#[61]⟩\/s=⟨#[62]⟩)(w:ax):xC 370 #[s] w (jt (.func (.func 396) #[] #[]) w):=by
 rcases hs with rfl|rfl;all_goals
  go_enter func370,ntmps370;go_wp2;go_ret;exact⟨rfl,rfl⟩
end Go.Proofs.YtepaofffbkfodaaGreatDoor
