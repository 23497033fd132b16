/- What the table of calls answers; no condition beyond each theorem's own. -/
import Derived.Test.YtlkjnefenialbaaGreatDoorM22
import Derived.Test.YtlkjnefenialbaaGreatDoorM31
import Derived.Test.YtlkjnefenialbaaGreatDoorM32
set_option linter.unusedVariables false
set_option linter.unusedSimpArgs false
set_option maxHeartbeats 8000000
set_option maxRecDepth 100000
namespace Go.Proofs.YtlkjnefenialbaaGreatDoor
open Go.RowKit
def mS:List (ByteArray×Value×Nat):=[(⟨#[42]⟩, .int .i64 4,0),(⟨#[47]⟩, .int .i64 4,1),(⟨#[37]⟩, .int .i64 4,2),(⟨#[43]⟩, .int .i64 3,3),(⟨#[45]⟩, .int .i64 3,4),(⟨#[38]⟩, .int .i64 2,5),(⟨#[61]⟩, .int .i64 1,6),(⟨#[60,62]⟩, .int .i64 1,7),(⟨#[60]⟩, .int .i64 1,8),(⟨#[60,61]⟩, .int .i64 1,9),(⟨#[62]⟩, .int .i64 1,10),(⟨#[62,61]⟩, .int .i64 1,11)]
abbrev lG:ByteArray→Value:=fun s=> .string s
def dK(w:World)(b:Nat):Prop:=bq lG w b mS 12
theorem nG(e:Bool)(x:ByteArray)(w:World):(Instr.checkKey e 10000 9 (.string x)).run Tryz.prog w= .ok () w:=by
 show(Instr.checkKey e (9999+1) 9 (.string x)).run Tryz.prog w= .ok () w
 rw[Instr.checkKey]
 simp only[Sem.run_bind,run_underlying Tryz.underlying9,Result.andThen_ok]
 rfl
theorem kN(t:TypeId)(w:World):(Instr.makeMap t none).run Tryz.prog w= .ok (.map (some w.heap.size)) (w.alloc (.map #[] 0)):=by
 exact run_makeMap ..
theorem dx {w:World}{b:Nat}{es:List (ByteArray×Value×Nat)}{clk:Nat}(h:bq lG w b es clk)(x:ByteArray)(v:Value)(hv:bA es x=none):∃w',(Instr.mapUpdate 283 (.map (some b)) (.string x) v).run Tryz.prog w= .ok () w'∧bq lG w' b (es++[(x,v,clk)]) (clk+1)∧ag (fun i=>i=b) w w':=by
 obtain⟨h1,h2⟩:=bq.insert lG .string kM (P:=Tryz.prog) Tryz.underlying283 Tryz.underlying9 nG h x v hv
 exact⟨_,h1,h2,(ag.refl (fun i=>i=b) w).putObj (.inl rfl) _⟩
theorem rZ(w:World):Calls Tryz.prog 195 #[] w fun e w'=>∃b,e= .returned (.map (some b))∧dK w' b∧w.heap.size≤b∧Below w.heap.size w w':=by
 have h0:bq lG (w.alloc (.map #[] 0)) w.heap.size [] 0:=(MapKept.heap_alloc w _).1
 obtain⟨w1,e1,h1,o1⟩:=dx h0 ⟨#[42]⟩ (.int .i64 4) (by decide)
 obtain⟨w2,e2,h2,o2⟩:=dx h1 ⟨#[47]⟩ (.int .i64 4) (by decide)
 obtain⟨w3,e3,h3,o3⟩:=dx h2 ⟨#[37]⟩ (.int .i64 4) (by decide)
 obtain⟨w4,e4,h4,o4⟩:=dx h3 ⟨#[43]⟩ (.int .i64 3) (by decide)
 obtain⟨w5,e5,h5,o5⟩:=dx h4 ⟨#[45]⟩ (.int .i64 3) (by decide)
 obtain⟨w6,e6,h6,o6⟩:=dx h5 ⟨#[38]⟩ (.int .i64 2) (by decide)
 obtain⟨w7,e7,h7,o7⟩:=dx h6 ⟨#[61]⟩ (.int .i64 1) (by decide)
 obtain⟨w8,e8,h8,o8⟩:=dx h7 ⟨#[60,62]⟩ (.int .i64 1) (by decide)
 obtain⟨w9,e9,h9,o9⟩:=dx h8 ⟨#[60]⟩ (.int .i64 1) (by decide)
 obtain⟨qC,QF,Iy,MD⟩:=dx h9 ⟨#[60,61]⟩ (.int .i64 1) (by decide)
 obtain⟨Ro,Ww,h11,o11⟩:=dx Iy ⟨#[62]⟩ (.int .i64 1) (by decide)
 obtain⟨ZA,Wx,WO,o12⟩:=dx h11 ⟨#[62,61]⟩ (.int .i64 1) (by decide)
 have HO:Hid (Below w.heap.size w ZA):=(show Below _ _ _ from((((ag.refl (fun _=>False) w).alloc _).cD (((((((((((o1.trans o2).trans o3).trans o4).trans o5).trans o6).trans o7).trans o8).trans o9).trans MD).trans o11).trans o12) (fun i hi aT=>by subst hi;omega)).below))
 have HM:Hid (dK ZA w.heap.size):=(show _ from WO)
 clear h0 h1 h2 h3 h4 h5 h6 h7 h8 h9 Iy h11 WO o1 o2 o3 o4 o5 o6 o7 o8 o9 MD o11 o12
 have Cc:=kN 283 w
 go_enter Tryz.func195,Tryz.ntmps195
 go_wp2_with fail
 go_ret
 exact⟨_,rfl,HM.out,Nat.le_refl _,HO.out⟩
theorem xA(s:ByteArray)(w:World):Calls Tryz.prog 268 #[.string s] w fun e w'=>e= .returned (.int .i64 (cO s.data.toList))∧w=w':=by
 by_cases h0:s.data.toList=[108,101,110]
 ·obtain rfl:=bB h0
  clear h0
  go_enter Tryz.func268,Tryz.ntmps268
  go_wp2
  go_ret
  exact⟨rfl,rfl⟩
 by_cases h1:s.data.toList=[116,101,120,116]
 ·obtain rfl:=bB h1
  clear h0 h1
  go_enter Tryz.func268,Tryz.ntmps268
  go_wp2
  go_ret
  exact⟨rfl,rfl⟩
 by_cases h2:s.data.toList=[110,117,109]
 ·obtain rfl:=bB h2
  clear h0 h1 h2
  go_enter Tryz.func268,Tryz.ntmps268
  go_wp2
  go_ret
  exact⟨rfl,rfl⟩
 by_cases h3:s.data.toList=[108,101,102,116]
 ·obtain rfl:=bB h3
  clear h0 h1 h2 h3
  go_enter Tryz.func268,Tryz.ntmps268
  go_wp2
  go_ret
  exact⟨rfl,rfl⟩
 by_cases h4:s.data.toList=[114,105,103,104,116]
 ·obtain rfl:=bB h4
  clear h0 h1 h2 h3 h4
  go_enter Tryz.func268,Tryz.ntmps268
  go_wp2
  go_ret
  exact⟨rfl,rfl⟩
 by_cases h5:s.data.toList=[102,114,111,109]
 ·obtain rfl:=bB h5
  clear h0 h1 h2 h3 h4 h5
  go_enter Tryz.func268,Tryz.ntmps268
  go_wp2
  go_ret
  exact⟨rfl,rfl⟩
 by_cases h6:s.data.toList=[102,105,110,100]
 ·obtain rfl:=bB h6
  clear h0 h1 h2 h3 h4 h5 h6
  go_enter Tryz.func268,Tryz.ntmps268
  go_wp2
  go_ret
  exact⟨rfl,rfl⟩
 by_cases h7:s.data.toList=[109,105,110]
 ·obtain rfl:=bB h7
  clear h0 h1 h2 h3 h4 h5 h6 h7
  go_enter Tryz.func268,Tryz.ntmps268
  go_wp2
  go_ret
  exact⟨rfl,rfl⟩
 by_cases h8:s.data.toList=[109,97,120]
 ·obtain rfl:=bB h8
  clear h0 h1 h2 h3 h4 h5 h6 h7 h8
  go_enter Tryz.func268,Tryz.ntmps268
  go_wp2
  go_ret
  exact⟨rfl,rfl⟩
 by_cases h9:s.data.toList=[105,102]
 ·obtain rfl:=bB h9
  clear h0 h1 h2 h3 h4 h5 h6 h7 h8 h9
  go_enter Tryz.func268,Tryz.ntmps268
  go_wp2
  go_ret
  exact⟨rfl,rfl⟩
 have e0:cO s.data.toList=0:=by simp[cO,h0,h1,h2,h3,h4,h5,h6,h7,h8,h9]
 rw[e0]
 replace h0:=cr h0
 replace h1:=cr h1
 replace h2:=cr h2
 replace h3:=cr h3
 replace h4:=cr h4
 replace h5:=cr h5
 replace h6:=cr h6
 replace h7:=cr h7
 replace h8:=cr h8
 replace h9:=cr h9
 clear e0
 go_enter Tryz.func268,Tryz.ntmps268
 go_wp2
 go_ret
 exact⟨rfl,rfl⟩
theorem Hh(c:UInt8)(hc:c∈cW)(h:0<bM [c]):bA mS ⟨#[c]⟩=some (.int .i64 (bM [c]:Int)):=by
 simp only[cW,List.mem_cons,List.not_mem_nil,or_false]at hc
 rcases hc with rfl|rfl|rfl|rfl|rfl|rfl|rfl|rfl|rfl|rfl|rfl
 all_goals first|rfl|exact absurd h (by decide)
theorem uH {w:World}{b:Nat}(h:dK w b)(c:UInt8)(hc:c∈cW)(h0:0<bM [c]):(Instr.lookup 283 (.map (some b)) (.string ⟨#[c]⟩) false).run Tryz.prog w= .ok (.int .i64 (bM [c]:Int)) w:=
 bq.lookup lG .string kM (P:=Tryz.prog) Tryz.underlying283 Tryz.underlying9 nG h ⟨#[c]⟩ _ (Hh c hc h0)
def ON(b:Nat)(n:Int):Obj:= .cells #[.map (some b), .int .i64 n] 315 (0,0)
theorem dK.below {w w':World}{b:Nat}(h:dK w b)(k:Below w.heap.size w w'):dK w' b:=(k.block b (Array.getElem?_eq_some_iff.1 h).1).trans h
theorem dK.only {S:Nat→Prop}{w w':World}{b:Nat}(h:dK w b)(k:ag S w w')(hS:¬S b):dK w' b:=k.at_ h hS
theorem Km(M:Nat→Prop)(w:World)(q b:Nat)(nn:Int)(k n:Int)(s:ByteArray)(l:List an)(lv:Value)(hl:ae M w lv l)(hs:s.size≤200)(h:tD k n s.data.toList l.length=true)(hq:w.heap[q]? =some (ON b nn))(hb:dK w b)(hT:Tb w):
 Calls Tryz.prog 250 #[.pointer (some ⟨q,0,none⟩), .agg #[.int .i64 k, .int .i64 n, .string s,lv]] w fun e w'=>e= .returned (.bool true)∧Below w.heap.size w w':=by
 obtain⟨a,cap,rfl,cq,hm,_⟩:=hl.open_
 have hql:q<w.heap.size:=(Array.getElem?_eq_some_iff.1 hq).1
 have hqn:q≠w.heap.size:=by omega
 obtain⟨r0,r1⟩:=af hq
 have HT:=hD (fun o=>hT.below (w':=w.alloc o) ((Below.refl _ _).alloc (Nat.le_refl _) _))
 have U3:=hD (fun o=>hb.below (w':=w.alloc o) ((Below.refl _ _).alloc (Nat.le_refl _) _))
 clear hl hq hb hT
 unfold tD at h
 by_cases h1:k=1
 ·subst h1
  simp only[if_true,Bool.and_eq_true,decide_eq_true_eq,List.isEmpty_iff,beq_iff_eq]at h
  obtain⟨⟨⟨wh,wi⟩,zR⟩,mz⟩:=h
  obtain rfl:=bB zR
  rw[mz]
  clear mz zR
  go_enter Tryz.func250,Tryz.ntmps250
  go_wp2_with fail
  go_ret
  exact⟨rfl,(Below.refl _ _).alloc (Nat.le_refl _) _⟩
 ·rw[if_neg h1]at h
  simp only[Bool.and_eq_true,decide_eq_true_eq]at h
  obtain⟨rfl,h⟩:=h
  by_cases h2:k=2
  ·subst h2
   simp only[if_true,Bool.and_eq_true,beq_iff_eq]at h
   obtain⟨ht,mz⟩:=h
   rw[mz]
   clear mz h1
   have HX:=hD (AX ht)
   clear ht
   go_enter Tryz.func250,Tryz.ntmps250
   go_wp2_with fail
   refine(xg _ HX.out _ (HT.out _)).mono ?_
   rintro e w1⟨rfl,aw⟩
   obtain⟨q0,q1,q2,q3⟩:=ab (boxed aw)
   have aO:=hD aw;clear aw
   go_wp2_with fail
   go_ret
   exact⟨rfl,aL aO.out⟩
  ·rw[if_neg h2]at h
   by_cases h3:k=3
   ·subst h3
    simp only[if_true,Bool.and_eq_true,beq_iff_eq]at h
    obtain⟨ht,mz⟩:=h
    rw[mz]
    have Zh:s.size≤20:=by unfold oo at ht;simp only[Bool.and_eq_true,decide_eq_true_eq]at ht;rw[←aP];exact ht.1.1.2
    rw[nt]at ht
    clear mz h1 h2
    have HX:=hD ht;clear ht
    go_enter Tryz.func250,Tryz.ntmps250
    go_wp2_with fail
    refine(xd _ HX.out Zh _).mono ?_
    rintro e w1⟨rfl,aw⟩
    obtain⟨q0,q1,q2,q3⟩:=ab (boxed aw)
    have aO:=hD aw;clear aw
    go_wp2_with fail
    go_ret
    exact⟨rfl,aL aO.out⟩
   ·rw[if_neg h3]at h
    by_cases h4:k=4
    ·subst h4
     simp only[if_true,Bool.and_eq_true,beq_iff_eq,decide_eq_true_eq]at h
     obtain⟨ht,mz⟩:=h
     obtain⟨c,hc,zx⟩:=qP ht
     obtain rfl:=bB zx
     rw[mz]
     have hz:(0:Int)<(bM [c]:Int):=by simp at ht;omega
     have nQ:=fun o=>uH (U3.out o) c hc (by simp at ht;exact ht)
     have U4:=fun o=>uH (w:=(w.alloc o).drew) (U3.out o) c hc (by simp at ht;exact ht)
     generalize bM [c]=bb at*
     clear mz h1 h2 h3 ht zx hc
     go_enter Tryz.func250,Tryz.ntmps250
     go_wp2_with fail
     have hdz:decide ((0:Int)<(bb:Int))=true:=by simpa using hz
     have qc0:decide (0<bb)=true:=by simp;omega
     go_region
     all_goals
      go_wp2_with fail
      go_ret
      exact⟨rfl,((Below.refl _ _).alloc (Nat.le_refl _) _).trans ⟨rfl,rfl,rfl,Nat.le_refl _,fun _ _=>rfl⟩⟩
    ·rw[if_neg h4]at h
     by_cases h6:k=6
     ·subst h6
      simp only[if_true,Bool.and_eq_true,beq_iff_eq,decide_eq_true_eq]at h
      obtain⟨ht,mz⟩:=h
      have hz:(0:Int)<(cO s.data.toList:Int):=by omega
      have HA:=hD (fun w=>xA s w)
      have dL:decide ((0:Int)<(cO s.data.toList:Int))=true:=by simpa using ht
      have vb:decide (0<cO s.data.toList)=true:=by simpa using ht
      rw[mz]
      generalize cO s.data.toList=bb at*
      clear mz h1 h2 h3 ht h4
      go_enter Tryz.func250,Tryz.ntmps250
      go_wp2_with fail
      go_quiet((go_at_call 268;exact Calls.quiet_of_same ((HA.out _).mono fun _ _ h=>⟨h.1,h.2.symm⟩)))
      go_wp2_with fail
      go_ret
      exact⟨rfl,((Below.refl _ _).alloc (Nat.le_refl _) _).trans ⟨rfl,rfl,rfl,Nat.le_refl _,fun _ _=>rfl⟩⟩
     ·rw[if_neg h6]at h;cases h
theorem qh:Tryz.prog.underlying 294=some (.map 9 321):=Tryz.underlying294
theorem xE {w:World}{b:Nat}{es:List (ByteArray×Value×Nat)}{clk:Nat}(h:bq lG w b es clk)(x:ByteArray)(v:Value)(hv:bA es x=none):∃w',(Instr.mapUpdate 294 (.map (some b)) (.string x) v).run Tryz.prog w= .ok () w'∧bq lG w' b (es++[(x,v,clk)]) (clk+1)∧ag (fun i=>i=b) w w':=by
 obtain⟨h1,h2⟩:=bq.insert lG .string kM (P:=Tryz.prog) qh Tryz.underlying9 nG h x v hv
 exact⟨_,h1,h2,(ag.refl (fun i=>i=b) w).putObj (.inl rfl) _⟩
def er(v:Value)(f:Nat):Value:= .agg #[v, .func (.func f) #[] #[]]
abbrev Wd(w:World)(kind:Int)(xs:Array Value)(n:Nat):World:=((w.alloc (.cells xs 3)).alloc (.cells #[.int .i64 kind] 3)).alloc (.cells #[.slice (some ⟨w.heap.size,0,none⟩) n n] 27)
abbrev Tm(w:World):Value:= .func (.func 251) #[] #[.pointer (some ⟨w.heap.size+1+1,0,none⟩), .pointer (some ⟨w.heap.size+1,0,none⟩)]
theorem By {F:Nat→Prop}(w:World)(kind:Int)(xs:Array Value)(n:Nat):ag F w (Wd w kind xs n):=(((ag.refl F w).alloc _).alloc _).alloc _
theorem Nq {w:World}{b:Nat}{es:List (ByteArray×Value×Nat)}{clk:Nat}(h:bq lG w b es clk)(kind:Int)(xs:Array Value)(n:Nat):bq lG (Wd w kind xs n) b es clk:=
 (By (F:=fun _=>False) w kind xs n).at_ h (fun h=>h)
def ej(w:World)(b:Nat):Prop:=∃es clk,bq lG w b es clk∧
 (∃v,bA es ⟨#[108,101,110]⟩=some (er v 221)∧fW (fun i=>i≤b) w v 1 [2])∧
 (∃v,bA es ⟨#[108,101,102,116]⟩=some (er v 224)∧fW (fun i=>i≤b) w v 2 [2,1])∧
 (∃v,bA es ⟨#[102,114,111,109]⟩=some (er v 228)∧fW (fun i=>i≤b) w v 2 [2,1])∧
 (∃v,bA es ⟨#[102,105,110,100]⟩=some (er v 229)∧fW (fun i=>i≤b) w v 1 [2,2])∧
 (∃v,bA es ⟨#[116,101,120,116]⟩=some (er v 231)∧fW (fun i=>i≤b) w v 2 [1])∧
 bA es ⟨#[105,102]⟩=some (er (.func (.func 235) #[] #[]) 236)
theorem ej.below {w w':World}{b:Nat}(h:ej w b)(k:Below w.heap.size w w'):ej w' b:=by
 obtain⟨es,clk,h0,⟨v1,a1,t1⟩,⟨v2,a2,t2⟩,⟨v3,a3,t3⟩,⟨v4,a4,t4⟩,⟨v5,a5,t5⟩,h6⟩:=h
 have ho:ag (fun i=>i≤b) w w':=ag.aj k
 exact⟨es,clk,(k.block b (Array.getElem?_eq_some_iff.1 h0).1).trans h0,⟨v1,a1,t1.only ho⟩,⟨v2,a2,t2.only ho⟩,⟨v3,a3,t3.only ho⟩,⟨v4,a4,t4.only ho⟩,⟨v5,a5,t5.only ho⟩,h6⟩
theorem ej.only {S:Nat→Prop}{w w':World}{b:Nat}(h:ej w b)(k:ag S w w')(hS:∀i,S i→i<b):ej w' b:=by
 obtain⟨es,clk,h0,⟨v1,a1,t1⟩,⟨v2,a2,t2⟩,⟨v3,a3,t3⟩,⟨v4,a4,t4⟩,⟨v5,a5,t5⟩,h6⟩:=h
 have ho:ag (fun i=>i≤b) w w':=k.mono fun i hi=>Nat.le_of_lt (hS i hi)
 exact⟨es,clk,k.at_ h0 (fun h=>by have:=hS b h;omega),⟨v1,a1,t1.only ho⟩,⟨v2,a2,t2.only ho⟩,⟨v3,a3,t3.only ho⟩,⟨v4,a4,t4.only ho⟩,⟨v5,a5,t5.only ho⟩,h6⟩
theorem eu {w:World}{b:Nat}{es:List (ByteArray×Value×Nat)}{clk:Nat}(h:bq lG w b es clk)(x:ByteArray)(v:Value)(hv:bA es x=some v):(Instr.lookup 294 (.map (some b)) (.string x) false).run Tryz.prog w= .ok v w:=
 bq.lookup lG .string kM (P:=Tryz.prog) qh Tryz.underlying9 nG h x v hv
theorem Bz(w:World):Calls Tryz.prog 199 #[] w fun e w'=>∃b,e= .returned (.map (some b))∧ej w' b∧w.heap.size≤b∧Below w.heap.size w w':=by
 have h0:bq lG (w.alloc (.map #[] 0)) w.heap.size [] 0:=(MapKept.heap_alloc w _).1
 have t0:w.heap.size<(w.alloc (.map #[] 0)).heap.size:=by simp
 obtain⟨w0,Ch⟩:∃w0,w0=w.alloc (.map #[] 0):=⟨_,rfl⟩
 rw[←Ch]at h0 t0
 have step:∀{W:World}{es:List (ByteArray×Value×Nat)}{clk:Nat},bq lG W w.heap.size es clk→∀(x:ByteArray)(kind:Int)(ks:List Int)(n f:Nat),ks.length=n→n≤1000→bA es x=none→
  ∃W',(Instr.mapUpdate 294 (.map (some w.heap.size)) (.string x) (er (Tm W) f)).run Tryz.prog (Wd W kind (ks.map (Value.int .i64)).toArray n)= .ok () W'∧bq lG W' w.heap.size (es++[(x,er (Tm W) f,clk)]) (clk+1)∧ag (fun i=>i=w.heap.size) W W'∧fW (fun i=>i≤w.heap.size) W' (Tm W) kind ks:=by
  intro W es clk h x kind ks n f hn hb hv
  obtain⟨W',e1,e2,e3⟩:=xE (Nq h kind (ks.map (Value.int .i64)).toArray n) x (er (Tm W) f) hv
  have aT:=(Array.getElem?_eq_some_iff.1 h).1
  refine⟨W',e1,e2,(By W kind _ n).trans e3,?_⟩
  exact(uN W (F:=fun i=>i≤w.heap.size) (fun i hi=>Nat.lt_of_le_of_lt hi aT) kind ks n hn hb).only (e3.mono fun i hi=>Nat.le_of_eq hi)
 obtain⟨w1,e1,h1,o1,k1⟩:=step h0 ⟨#[108,101,110]⟩ 1 [2] 1 221 rfl (by omega) rfl
 obtain⟨w2,e2,h2,o2,k2⟩:=step h1 ⟨#[108,101,102,116]⟩ 2 [2,1] 2 224 rfl (by omega) rfl
 obtain⟨w3,e3,h3,o3,_⟩:=step h2 ⟨#[114,105,103,104,116]⟩ 2 [2,1] 2 227 rfl (by omega) rfl
 obtain⟨w4,e4,h4,o4,k4⟩:=step h3 ⟨#[102,114,111,109]⟩ 2 [2,1] 2 228 rfl (by omega) rfl
 obtain⟨w5,e5,h5,o5,k5⟩:=step h4 ⟨#[102,105,110,100]⟩ 1 [2,2] 2 229 rfl (by omega) rfl
 obtain⟨w6,e6,h6,o6,k6⟩:=step h5 ⟨#[116,101,120,116]⟩ 2 [1] 1 231 rfl (by omega) rfl
 obtain⟨w7,e7,h7,o7,_⟩:=step h6 ⟨#[110,117,109]⟩ 1 [2] 1 233 rfl (by omega) rfl
 obtain⟨w8,e8,h8,o8⟩:=xE h7 ⟨#[105,102]⟩ (er (.func (.func 235) #[] #[]) 236) rfl
 obtain⟨w9,e9,h9,o9,_⟩:=step h8 ⟨#[109,105,110]⟩ 1 [1,1] 2 237 rfl (by omega) rfl
 obtain⟨qC,QF,Iy,MD,_⟩:=step h9 ⟨#[109,97,120]⟩ 1 [1,1] 2 238 rfl (by omega) rfl
 have up:∀{W W':World},ag (fun i=>i=w.heap.size) W W'→ag (fun i=>i≤w.heap.size) W W':=fun h=>h.mono fun i hi=>Nat.le_of_eq hi
 have HO:Hid (Below w.heap.size w qC):=(show Below _ _ _ from((((ag.refl (fun _=>False) w).alloc (.map #[] 0)).cD (Ch▸(((((((((o1.trans o2).trans o3).trans o4).trans o5).trans o6).trans o7).trans o8).trans o9).trans MD)) (fun i hi aT=>by subst hi;omega)).below))
 have HM:Hid (ej qC w.heap.size):=(show ej _ _ from⟨_,_,Iy,⟨_,rfl,k1.only (up ((((((((o2.trans o3).trans o4).trans o5).trans o6).trans o7).trans o8).trans o9).trans MD))⟩,⟨_,rfl,k2.only (up (((((((o3.trans o4).trans o5).trans o6).trans o7).trans o8).trans o9).trans MD))⟩,⟨_,rfl,k4.only (up (((((o5.trans o6).trans o7).trans o8).trans o9).trans MD))⟩,⟨_,rfl,k5.only (up ((((o6.trans o7).trans o8).trans o9).trans MD))⟩,⟨_,rfl,k6.only (up (((o7.trans o8).trans o9).trans MD))⟩,rfl⟩)
 clear h0 h1 h2 h3 h4 h5 h6 h7 h8 h9 Iy o1 o2 o3 o4 o5 o6 o7 o8 o9 MD k1 k2 k4 k5 k6 t0 step up
 unfold er Tm Wd at e1 e2 e3 e4 e5 e6 e7 e9 QF
 unfold er at e8
 simp only[List.map_cons,List.map_nil]at e1 e2 e3 e4 e5 e6 e7 e9 QF
 have Cc:=kN 294 w
 rw[←Ch]at Cc
 clear Ch
 go_enter Tryz.func199,Tryz.ntmps199
 go_wp2_with(go_at_call 220;refine(uM _ _ _ _ _).mono ?_;rintro e w'⟨rfl,rfl⟩)
 go_ret
 exact⟨_,rfl,HM.out,Nat.le_refl _,HO.out⟩
theorem FF {M:Nat→Prop}{w:World}{v:Value}{l:List aJ}(h:ae M w v l){k:Nat}{x:aJ}(hx:l[k]? =some x):∃b off cap,v= .slice (some ⟨b,off,none⟩) l.length cap∧l.length≤cap∧b<w.heap.size∧∀W,Below w.heap.size w W→∀j y,l[j]? =some y→W.cell? ⟨b,off+j*2,none⟩=some (.int .i64 y.kind)∧W.cell? ⟨b,off+j*2+1,none⟩=some (.int .i64 y.of):=by
 obtain⟨a,cap,rfl,hl,_,hc⟩:=h.open_
 have hk:=(List.getElem?_eq_some_iff.1 hx).1
 obtain⟨b,off,rfl,_,hb,aC⟩:=hc (by omega)
 refine⟨b,off,cap,rfl,hl,hb,fun W hB j y hy=> ?_⟩
 obtain⟨cs,rfl,bE⟩:=aC j y hy
 have g:∀i u,([.int .i64 y.kind, .int .i64 y.of]:List Value)[i]? =some u→W.cell? ⟨b,off+j*2+i,none⟩=some u:=fun i u hu=>(hB.cell (p:=⟨b,off+j*2+i,none⟩) hb).trans (bE i u hu)
 exact⟨g 0 _ rfl,g 1 _ rfl⟩
def Cx(k o:Int):Obj:= .cells #[.int .i64 k, .int .i64 o] 140 (0,0)
theorem Ho(t:aJ)(ht:t.kind=1∨t.kind=2)(M:Nat→Prop)(w:World)(pv:Value)(hp:ae M w pv [⟨1,0⟩,t,t]):
 Calls Tryz.prog 235 #[pv] w fun e w'=>e= .returned (.tuple #[.agg #[.int .i64 t.kind, .int .i64 t.of], .bool true])∧Below w.heap.size w w':=by
 obtain⟨b,off,cap,rfl,cq,hb,hc⟩:=FF hp (k:=0) rfl
 have HC:=hD hc
 have cQ:=hD (Bx.fA w (Cx 0 0))
 obtain⟨a0,_⟩:=HC.out _ cQ.out.1 0 _ rfl
 obtain⟨a2,a3⟩:=HC.out _ cQ.out.1 1 _ rfl
 obtain⟨a4,a5⟩:=HC.out _ cQ.out.1 2 _ rfl
 have SM:=hD (Bw t ht b (off+2) (cap-1) (w.alloc (Cx 0 0)) a2 a3 a4 a5)
 have zP:b≠w.heap.size:=by omega
 simp only[List.length_cons,List.length_nil]at cq
 simp only[Nat.zero_mul,Nat.add_zero]at a0
 clear hp hc a2 a3 a4 a5
 unfold Cx at a0
 go_enter Tryz.func235,Tryz.ntmps235
 go_wp2_with fail
 refine(SM.out).mono ?_
 rintro e w1⟨rfl,aw⟩
 have aO:=hD (cQ.out.below aw)
 obtain⟨c0,c1⟩:=af (aO.out.bJ rfl)
 have f0:=aa (aO.out.bJ rfl) 0
 have f1:=aa (aO.out.bJ rfl) 1
 obtain⟨a2,a3⟩:=HC.out _ aO.out.1 1 _ rfl
 clear aw
 go_wp2_with fail
 refine bodyPost_ret (v:= .tuple #[.agg #[.int .i64 t.kind, .int .i64 t.of], .bool true]) (by simp[results,Tryz.results235,go_sem,c0,c1]) rfl ⟨rfl,?_⟩
 exact(aO.out.1.setCell (by simp) _).setCell (by simp) _
theorem Kw(t:aJ)(ht:t.kind=1∨t.kind=2)(M:Nat→Prop)(w:World)(pv:Value)(hp:ae M w pv [t,t]):
 Calls Tryz.prog 257 #[pv] w fun e w'=>e= .returned (.tuple #[.agg #[.int .i64 1, .int .i64 0], .bool true])∧Below w.heap.size w w':=by
 obtain⟨b,off,cap,rfl,cq,hb,hc⟩:=FF hp (k:=0) rfl
 have cQ:=hD (Bx.fA w (Cx 0 0))
 obtain⟨a2,a3⟩:=hc _ cQ.out.1 0 _ rfl
 obtain⟨a4,a5⟩:=hc _ cQ.out.1 1 _ rfl
 have SM:=hD (Bw t ht b off cap (w.alloc (Cx 0 0)) (by simpa using a2) (by simpa using a3) a4 a5)
 clear hp hc a2 a3 a4 a5
 go_enter Tryz.func257,Tryz.ntmps257
 go_wp2_with fail
 refine(SM.out).mono ?_
 rintro e w1⟨rfl,aw⟩
 have aO:=hD (cQ.out.below aw)
 obtain⟨c0,c1⟩:=af (aO.out.bJ rfl)
 have f0:=aa (aO.out.bJ rfl) 0
 have f1:=aa (aO.out.bJ rfl) 1
 clear aw
 go_wp2_with fail
 refine bodyPost_ret (v:= .tuple #[.agg #[.int .i64 1, .int .i64 0], .bool true]) (by simp[results,Tryz.results257,go_sem,c0,c1]) rfl ⟨rfl,?_⟩
 exact(aO.out.1.setCell (by simp) _).setCell (by simp) _
def sX(kind:Int)(ks:List Int)(w:World)(e:Ending)(w':World):Prop:=∃v,e= .returned v∧fW (fun _=>False) w' v kind ks∧Below w.heap.size w w'
theorem D1(s:ByteArray)(hs:s=⟨#[42]⟩∨s=⟨#[45]⟩∨s=⟨#[47]⟩)(w:World):Calls Tryz.prog 239 #[.string s] w (sX 1 [1,1] w):=by
 have HT:=hD (uN (F:=fun _=>False) w (fun _ h=>h.elim) 1 [1,1] 2 rfl (by omega))
 rcases hs with rfl|rfl|rfl
 all_goals
  go_enter Tryz.func239,Tryz.ntmps239
  go_wp2_with(go_at_call 220;refine(uM _ _ _ _ _).mono ?_;rintro e w'⟨rfl,rfl⟩)
  go_ret
  exact(show sX _ _ _ _ _ from⟨_,rfl,HT.out,(Bx.fB w _ _ _).1⟩)
theorem D2(w:World):Calls Tryz.prog 239 #[.string ⟨#[38]⟩] w (sX 2 [2,2] w):=by
 have HT:=hD (uN (F:=fun _=>False) w (fun _ h=>h.elim) 2 [2,2] 2 rfl (by omega))
 go_enter Tryz.func239,Tryz.ntmps239
 go_wp2_with(go_at_call 220;refine(uM _ _ _ _ _).mono ?_;rintro e w'⟨rfl,rfl⟩)
 go_ret
 exact(show sX _ _ _ _ _ from⟨_,rfl,HT.out,(Bx.fB w _ _ _).1⟩)
theorem D3(s:ByteArray)(hs:s=⟨#[61]⟩∨s=⟨#[62]⟩)(w:World):Calls Tryz.prog 239 #[.string s] w fun e w'=>e= .returned (.func (.func 257) #[] #[])∧w=w':=by
 rcases hs with rfl|rfl
 all_goals
  go_enter Tryz.func239,Tryz.ntmps239
  go_wp2_with fail
  go_ret
  exact⟨rfl,rfl⟩
end Go.Proofs.YtlkjnefenialbaaGreatDoor
