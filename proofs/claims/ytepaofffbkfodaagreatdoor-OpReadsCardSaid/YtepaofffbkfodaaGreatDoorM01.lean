/- A part of OpReads's proof; no condition. -/
import Derived.WalkSpells
import Derived.WalkLawsBesides
import Derived.Lib.Hide
import Derived.BigQuiet
import Derived.Test.YtepaofffbkfodaaGreatDoorProg
import Derived.Deep.DeepCutAuto
import Derived.Deep.CutBlock
import Derived.Deep.RegionHeld3
set_option linter.all false
set_option maxHeartbeats 8000000
set_option maxRecDepth 100000
namespace Go.Proofs.YtepaofffbkfodaaGreatDoor
open Tryz
open Go.RowKit
def hD{p:Prop}(h:p):Hid p:=Lib.hid h
theorem Qaa{α:Type _}{i:Nat}{b:α}{xs:Array α}:xs[i]? =some b↔∃h:i<xs.size,xs[i]=b:=Array.getElem?_eq_some_iff
theorem Qab(n:Nat):n<=n:=Nat.le_refl n
theorem Qac{α:Type _}{l:List α}{i:Nat}(h:i<l.length):l[i]? =some l[i]:=List.getElem?_eq_getElem h
theorem Qad{α:Type _}{i:Nat}{a:α}{l:List α}:l[i]? =some a↔∃h:i<l.length,l[i]=a:=List.getElem?_eq_some_iff
theorem Qae{P:Program}{fn:Func}{R:Ending->World->Prop}{a:Act}{w:World}{v:Value}(h:Sem.run P (results fn a.tmps) w=Result.ok v w)(k:a.defers=[])(r:R (Ending.returned v) w):bodyPost P fn R Exit.ret a w:=bodyPost_ret h k r
theorem Qaf{α:Type _}{l:List α}{i:Nat}{a:α}(h:l[i]? =some a):a∈l:=List.mem_of_getElem? h
theorem Qag(w:World)(a:Addr)(k:Nat)(v:Value)(h:k≠a.block):(w.setCell a v).heap[k]? =w.heap[k]? :=heap_setCell_other w a k v h
theorem Qah{α:Type _}{i:Nat}{l:List α}(h:l.length<=i):List.take i l=l:=List.take_of_length_le h
theorem Qba(n:Nat):(0:Int)<=n:=Int.natCast_nonneg n
theorem Qbb{α:Type _}{l:List α}{i:Nat}:List.take (i+1) l=List.take i l++l[i]?.toList:=List.take_add_one
theorem Qbc{α:Type _}{l₁ l₂:List α}{i:Nat}(h:i<l₁.length):(l₁++l₂)[i]? =l₁[i]? :=List.getElem?_append_left h
theorem Qbd{α:Type _}{l₁ l₂:List α}{i:Nat}(h:l₁.length<=i):(l₁++l₂)[i]? =l₂[i-l₁.length]? :=List.getElem?_append_right h
theorem Qbe(n:Int)(h: -9223372036854775808<=n/\n<=9223372036854775807):IntKind.i64.wrap n=n:=IntWalk.i64_in n h
theorem Qbf(n:Nat):0<=n:=Nat.zero_le n
theorem Qbg(n:Nat)(w:World):Below n w w:=Below.refl n w
theorem Qbh(w:World)(o:Obj):(w.alloc o).heap[w.heap.size]? =some o:=heap_alloc_new w o
theorem Qca(w:World)(g i:Nat)(cs:Array Value)(t:TypeId)(v:Value)(h:w.heap[g]? =some (.cells cs t (0,0))):(w.setCell ⟨g,i,none⟩ v).heap[g]? =some (.cells (cs.setIfInBounds i v) t (0,0)):=heap_setCell_same w g i cs t v h
theorem Qcb(w:World)(o:Obj)(k:Nat)(h:k<w.heap.size):(w.alloc o).heap[k]? =w.heap[k]? :=Below.heap_alloc w o k h
theorem Qcc{α:Type _}{a:α}{l:List α}:(a::l).length=l.length+1:=List.length_cons
theorem Qcd{α:Type _}:([]:List α).length=0:=List.length_nil
theorem Qce(a b:Bool):((a&&b)=true)=(a=true/\b=true):=Bool.and_eq_true a b
theorem Qcf{α:Type _}(a b:α):(some a=some b)=(a=b):=Option.some.injEq a b
theorem Qcg{a b c:Nat}:a<=b->b<=c->a<=c:=Nat.le_trans
theorem Qch{α:Type _}{a:α}{s t:List α}:a∈s++t↔a∈s\/a∈t:=List.mem_append
theorem Qda{α:Type _}{s t:List α}:(s++t).length=s.length+t.length:=List.length_append
theorem Qdb{α:Type _}{i:Nat}{l:List α}:(List.take i l).length=min i l.length:=List.length_take
theorem Qdc{α β:Type _}{l:List α}(f:α->β):(List.map f l).length=l.length:=List.length_map f
theorem Qdd{α:Type _}{l:List α}:l.length=0->l=[]:=List.eq_nil_of_length_eq_zero
theorem Qde{n m k:Nat}:n<m->m<=k->n<k:=Nat.lt_of_lt_of_le
theorem Qdf{α:Type _}{a b:α}{l:List α}:a∈b::l↔a=b\/a∈l:=List.mem_cons
def iN {k:IntKind}{a b:Int}(h:a=b):Ending.returned (.int k a)= .returned (.int k b):=by rw[h]
def bz {a b:Bool}(h:a=b):Ending.returned (.bool a)= .returned (.bool b):=by rw[h]
def lr {α:Type}{l:List α}{n j:Nat}{u:α}(h:(l.take n)[j]? =some u):l[j]? =some u:=by
 rw[List.getElem?_take]at h;split at h
 .exact h
 .cases h
structure ai(S:Nat->Prop)(w w':World):Prop where
 os:w'.os=w.os
 tape:w'.tape=w.tape
 output:w'.output=w.output
 size:w.heap.size<=w'.heap.size
 block:∀k,k<w.heap.size->¬S k->w'.heap[k]? =w.heap[k]?
section
variable {S T:Nat->Prop}{w w' w'':World}
theorem ai.refl(S:Nat->Prop)(w:World):ai S w w:=⟨rfl,rfl,rfl,Qab _,λ_ _ _=>rfl⟩
theorem ai.trans(h:ai S w w')(k:ai S w' w''):ai S w w'':=
 ⟨k.os.trans h.os,k.tape.trans h.tape,k.output.trans h.output,Qcg h.size k.size,λi hi hS=>(k.block i (Qde hi h.size) hS).trans (h.block i hi hS)⟩
theorem ai.cO(h:ai S w w')(k:ai T w' w'')(hT:∀i,T i->i<w.heap.size->S i):ai S w w'':=
 ⟨k.os.trans h.os,k.tape.trans h.tape,k.output.trans h.output,Qcg h.size k.size,λi hi hS=>(k.block i (Qde hi h.size) (λhh=>hS (hT i hh hi))).trans (h.block i hi hS)⟩
theorem ai.mono(h:ai S w w')(hST:∀i,S i->T i):ai T w w':=⟨h.os,h.tape,h.output,h.size,λi hi hT=>h.block i hi (λhs=>hT (hST i hs))⟩
theorem ai.drewN(h:ai S w w')(n:Nat):ai S w (w'.drewN n):=⟨h.os,h.tape,h.output,h.size,h.block⟩
theorem ai.drew(h:ai S w w'):ai S w w'.drew:=⟨h.os,h.tape,h.output,h.size,h.block⟩
theorem ai.alloc(h:ai S w w')(o:Obj):ai S w (w'.alloc o):=
 ⟨h.os,h.tape,h.output,Qcg h.size (by simp),λi hi hS=>(Qcb w' o i (Qde hi h.size)).trans (h.block i hi hS)⟩
theorem ai.setCell(h:ai S w w'){p:Addr}(hp:S p.block\/w.heap.size<=p.block)(u:Value):ai S w (w'.setCell p u):=
 ⟨h.os,h.tape,h.output,by simpa [World.setCell]using h.size,λi hi hS=>(Below.heap_setCell w' p u i (by rintro rfl;rcases hp with hp|hp;exact hS hp;omega)).trans (h.block i hi hS)⟩
theorem ai.ao(h:Below w.heap.size w w'):ai S w w':=⟨h.os,h.tape,h.output,h.size,λi hi _=>h.block i hi⟩
theorem ai.below(h:ai (λ_=>False) w w'):Below w.heap.size w w':=⟨h.os,h.tape,h.output,h.size,λi hi=>h.block i hi (λh=>h)⟩
theorem ai.grown {row:Option Nat}(h:ai S w w')(hg:w'.grownBy w'' row)(hr:∀g,row=some g->S g\/w.heap.size<=g):ai S w w'':=
 ⟨hg.os.trans h.os,hg.tape.trans h.tape,hg.output.trans h.output,Qcg h.size hg.size,λi hi hS=>(hg.block i (Qde hi h.size) (λe=>by rcases hr i e.symm with h1|h1;exact hS h1;omega)).trans (h.block i hi hS)⟩
theorem ai.cell(h:ai S w w'){p:Addr}(hp:p.block<w.heap.size)(hS:¬S p.block):w'.cell? p=w.cell? p:=World.cell?_of_block (w:=w) (h.block p.block hp hS)
theorem ai.frozen(h:ai S w w'){p:Addr}(hp:p.block<w.heap.size)(hS:¬S p.block):w'.frozen? p=w.frozen? p:=World.frozen?_of_block (w:=w) (h.block p.block hp hS)
end
def cA(F:Nat->Prop)(w:World)(size:Nat)(v:Value)(n:Nat)(xs:List Value):Prop:=
 xs.length=n*size/\∃a cap,v= .slice a n cap/\n<=cap/\cap<=maxLen/\(0<n->∃b off,a=some ⟨b,off,none⟩/\F b/\b<w.heap.size/\∀j u,xs[j]? =some u->w.cell? ⟨b,off+j,none⟩=some u)
section
variable {F G:Nat->Prop}{w w':World}{size n:Nat}{v:Value}{xs:List Value}
theorem cA.nil(F:Nat->Prop)(w:World)(size:Nat):cA F w size (.slice none 0 0) 0 []:=⟨by simp,none,0,rfl,Qab _,Qbf _,λh=>absurd h (by omega)⟩
theorem cA.K3(h:cA F w size v n xs)(hs:w.heap.size<=w'.heap.size)(hk:∀i,F i->i<w.heap.size->w'.heap[i]? =w.heap[i]?):cA F w' size v n xs:=by
 obtain⟨hl,a,cap,hv,hc,hm,hx⟩:=h;refine⟨hl,a,cap,hv,hc,hm,λhn=> ?_⟩;obtain⟨b,off,ha,hF,hb,aL⟩:=hx hn;exact⟨b,off,ha,hF,Qde hb hs,λj u hu=>(World.cell?_of_block (w:=w) (a:=⟨b,off+j,none⟩) (hk b hF hb)).trans (aL j u hu)⟩
theorem cA.mono(h:cA F w size v n xs)(hFG:∀i,F i->i<w.heap.size->G i):cA G w size v n xs:=by
 obtain⟨hl,a,cap,hv,hc,hm,hx⟩:=h;refine⟨hl,a,cap,hv,hc,hm,λhn=> ?_⟩;obtain⟨b,off,ha,hF,hb,aL⟩:=hx hn;exact⟨b,off,ha,hFG b hF hb,hb,aL⟩
theorem cA.only {S:Nat->Prop}(h:cA F w size v n xs)(ho:ai S w w')(hd:∀i,F i->¬S i):cA F w' size v n xs:=
 h.K3 ho.size λi hi bu=>ho.block i bu (hd i hi)
theorem cA.upto(h:cA F w size v n xs){a:Option Addr}{cap k:Nat}(hv:v= .slice a n cap)(hk:k<=n):cA F w size (.slice a k cap) k (xs.take (k*size)):=by
 obtain⟨hl,a',ig,M8,hc,hm,hx⟩:=h;obtain⟨rfl,_,rfl⟩:a=a'/\n=n/\cap=ig:=by rw[hv]at M8;simpa using M8
 refine⟨by rw[Qdb,hl];exact Nat.min_eq_left (Nat.mul_le_mul_right _ hk),a,cap,rfl,by omega,hm,λhn=> ?_⟩;obtain⟨b,off,ha,hF,hb,aL⟩:=hx (by omega);exact⟨b,off,ha,hF,hb,λj u hu=>aL j u (lr hu)⟩
theorem cA.from_(h:cA F w size v n xs){a:Option Addr}{cap k:Nat}(hv:v= .slice a n cap)(hk:k<=n):
 cA F w size (.slice (if cap=k then a else a.map (·.add (k*size))) (n-k) (cap-k)) (n-k) (xs.drop (k*size)):=by
 obtain⟨hl,a',ig,M8,hc,hm,hx⟩:=h;obtain⟨rfl,_,rfl⟩:a=a'/\n=n/\cap=ig:=by rw[hv]at M8;simpa using M8
 refine⟨by rw[List.length_drop,hl,Nat.sub_mul],_,_,rfl,by omega,by omega,λhn=> ?_⟩;obtain⟨b,off,rfl,hF,hb,aL⟩:=hx (by omega);rw[if_neg (by omega)];refine⟨b,off+k*size,?_,hF,hb,λj u hu=> ?_⟩
 .simp only[Option.map,Addr.add];split<;>simp_all
 .rw[Nat.add_assoc];exact aL _ u (by rw[<-hu,List.getElem?_drop])
theorem cA.Gk {base:Nat}{e:TypeId}(h:w.ownsRow base e size v n xs):cA (λi=>v.ownBlock=some i) w size v n xs:=by
 refine⟨h.1,?_⟩;rcases h.2 with⟨rfl,rfl⟩|⟨g,cap,cur,rfl,hb,hh,ZV,M9,bJ,htk⟩
 .exact⟨none,0,rfl,Qab _,Qbf _,λh=>absurd h (by omega)⟩
 .refine⟨_,cap,rfl,ZV,M9,λhn=>⟨g,0,rfl,rfl,(Qaa.1 hh).1,λj u hu=> ?_⟩⟩;rw[Nat.zero_add];have hj:j<xs.length:=(Qad.1 hu).1;simp only[World.cell?,hh];simp;rw[<-htk]at hu;have h2:=lr hu;simpa using h2
end
section
variable {F G:Nat->Prop}{w w':World}{v:Value}{xs:List Int}
end
section
variable {P:Program}(w:World)
def qY(base:Nat)(t ty e:TypeId)(i:TypeInfo)(size:Nat)(ht:P.underlying t=some (.slice e))(hi:P.info? e=some i)
 (v:Value)(n:Nat)(xs:List Value)(lY:w.ownsRow base e size v n xs)(c:Nat):(Builtin.append_ #[t,t] ty #[v, .slice none 0 c]).run P w= .ok v w:=by
 rcases lY.2 with⟨rfl,rfl⟩|⟨g,cap,cur,rfl,_,_,ZV,_⟩
 .simp[Builtin.append_,run_underlying ht,sizeOf,typeInfo,hi,Builtin.lenOf,Builtin.firstCells]
 .simp[Builtin.append_,run_underlying ht,sizeOf,typeInfo,hi,Builtin.lenOf,Builtin.firstCells,ZV,storeCells]
def gu {F:Nat->Prop}(base:Nat)(t ty e:TypeId)(i:TypeInfo)(z:Value)(size bytes:Nat)(ht:P.underlying t=some (.slice e))(hi:P.info? e=some i)(hz:i.zero=some z)
 (hsize:i.size=size)(hby:i.bytes=bytes)(hzs:z.cells.size=size)(hsz:0<size)
 (v:Value)(n:Nat)(xs:List Value)(lY:w.ownsRow base e size v n xs)
 (s:Value)(m:Nat)(news:List Value)(hr:cA F w size s m news)(h1:∀u∈news,u.oneCell'=true)
 (h63:n+m<=maxLen)(hbytes:(n+m)*bytes<=140737488355328)(hbase:base<=w.heap.size):
 ∃v' w',(Builtin.append_ #[t,t] ty #[v,s]).run P w= .ok v' w'/\w'.ownsRow base e size v' (n+m) (xs++news)/\w.grownBy w' v.ownBlock/\
  (v'.ownBlock=v.ownBlock\/v'.ownBlock=some w.heap.size):=by
 obtain⟨hl,A,cap,rfl,hmc,M9,hx⟩:=hr;rcases Nat.eq_zero_or_pos m with h0|h0
 .subst h0;have hn:news=[]:=Qdd (by simpa using hl);subst hn;rcases A with _|ad
  .exact⟨v,w,qY w base t ty e i size ht hi v n xs lY cap,by simpa using lY,World.grownBy.refl w _, .inl rfl⟩
  .obtain⟨v',w',mO,h2,h3,_,h5⟩:=run_append_own_at (P:=P) w base t ty e i z size bytes ht hi hz hsize hby hzs hsz v n xs lY ad 0 cap [] (by simp) (by simp) (by simp) h63 hbytes hbase;exact⟨v',w',mO,h2,h3,h5⟩
 .obtain⟨b,off,rfl,_,_,aL⟩:=hx h0;obtain⟨v',w',mO,h2,h3,_,h5⟩:=run_append_own_at (P:=P) w base t ty e i z size bytes ht hi hz hsize hby hzs hsz v n xs lY ⟨b,off,none⟩ m cap news hl (λj u hu=>by
   have:=aL j u hu;unfold Addr.add;split
   .rename_i h;subst h;simpa using this
   .exact this) h1 h63 hbytes hbase;exact⟨v',w',mO,h2,h3,h5⟩
def qw {F:Nat->Prop}{ops:Array Oper}{rest:List Oper}{o:Oper}{a:Act}{Q:Exit->Act->World->Prop}(hgd:o.guard=none)(s x:Operand)(t:TypeId)
 (ho:o.op= .call {callee:= .builtin .append,args:= #[s,x],argTypes:= #[t,t]})
 (base:Nat)(e:TypeId)(i:TypeInfo)(z:Value)(size bytes:Nat)(ht:P.underlying t=some (.slice e))(hi:P.info? e=some i)(hz:i.zero=some z)
 (hsize:i.size=size)(hby:i.bytes=bytes)(hzs:z.cells.size=size)(hsz:0<size)
 (v:Value)(n:Nat)(xs:List Value)(hs:a.eval s=v)(lY:w.ownsRow base e size v n xs)
 (sv:Value)(m:Nat)(news:List Value)(hx:a.eval x=sv)(hr:cA F w size sv m news)(h1:∀u∈news,u.oneCell'=true)
 (h63:n+m<=maxLen)(hbytes:(n+m)*bytes<=140737488355328)(hbase:base<=w.heap.size)
 (h:∀v' w',w'.ownsRow base e size v' (n+m) (xs++news)->w.grownBy w' v.ownBlock->(v'.ownBlock=v.ownBlock\/v'.ownBlock=some w.heap.size)->wpList P ops Q rest (a.put o.dst v') w'):wpList P ops Q (o::rest) a w:=
 wpList_plain hgd λ_ hK=>by
  obtain⟨v',w',mO,h2,h3,h4⟩:=gu (P:=P) w base t o.type e i z size bytes ht hi hz hsize hby hzs hsz v n xs lY sv m news hr h1 h63 hbytes hbase;unfold Oper.wp execOp;simp only[ho,resolve,invoke,builtin,Sem.run_bind,Sem.run_pure,Result.andThen_ok,List.map_toArray,List.map_cons,List.map_nil,hs,hx,mO];exact hK _ _ (h v' w' h2 h3 h4)
def fM {w:World}{base:Nat}{e:TypeId}{size n:Nat}{v:Value}{xs:List Value}(h:w.ownsRow base e size v n xs):∃a c,v= .slice a n c/\n<=c/\c<=maxLen:=by
 rcases h.2 with⟨rfl,rfl⟩|⟨g,cap,cur,rfl,_,_,h1,h2,_⟩
 .exact⟨none,0,rfl,Qab _,Qbf _⟩
 .exact⟨_,_,rfl,h1,h2⟩
def gN {F:Nat->Prop}{ops:Array Oper}{rest:List Oper}{o:Oper}{a:Act}{Q:Exit->Act->World->Prop}(hgd:o.guard=none)(s x:Operand)(t:TypeId)
 (ho:o.op= .call {callee:= .builtin .append,args:= #[s,x],argTypes:= #[t,t]})
 (base:Nat)(e:TypeId)(i:TypeInfo)(z:Value)(size bytes:Nat)(ht:P.underlying t=some (.slice e))(hi:P.info? e=some i)(hz:i.zero=some z)
 (hsize:i.size=size)(hby:i.bytes=bytes)(hzs:z.cells.size=size)(hsz:0<size)
 (v:Value)(n:Nat)(xs:List Value)(hs:a.eval s=v)(lY:w.ownsRow base e size v n xs)
 (sv:Value)(m:Nat)(news:List Value)(hx:a.eval x=sv)(hr:cA F w size sv m news)(h1:∀u∈news,u.oneCell'=true)
 (h63:n+m<=maxLen)(hbytes:(n+m)*bytes<=140737488355328)(hbase:base<=w.heap.size)
 (h:∀a' c' w',w'.ownsRow base e size (.slice a' (n+m) c') (n+m) (xs++news)->w.grownBy w' v.ownBlock->((Value.slice a' (n+m) c').ownBlock=v.ownBlock\/(Value.slice a' (n+m) c').ownBlock=some w.heap.size)->wpList P ops Q rest (a.put o.dst (.slice a' (n+m) c')) w'):wpList P ops Q (o::rest) a w:=
 qw w hgd s x t ho base e i z size bytes ht hi hz hsize hby hzs hsz v n xs hs lY sv m news hx hr h1 h63 hbytes hbase λv' w' h2 h3 h4=>by
  obtain⟨a',c',rfl,_,_⟩:=fM h2;exact h a' c' w' h2 h3 h4
end
abbrev aq(w W:World):Prop:=Below w.heap.size w W
abbrev xC:=Calls prog
@[simp]abbrev bt(w:World)(b o:Nat)(v:Value):Prop:=w.cell? ⟨b,o,none⟩=some v
@[simp]abbrev bR(w:World)(b:Nat)(o:Obj):Prop:=w.heap[b]? =some o
abbrev xF:Nat->Prop:=λ_=>False
abbrev xI(n:Int):Value:=.int .i64 n
abbrev xS(s:ByteArray):Value:=.string s
abbrev xL(a:Option Addr)(n c:Nat):Value:=.slice a n c
abbrev xB(b:Bool):Value:=.bool b
abbrev xP(b:Nat):Value:=.pointer (some ⟨b,0,none⟩)
abbrev xR(v:Value):Ending:=.returned v
abbrev aj:=World
abbrev aM:=ByteArray
abbrev an:=Value
abbrev aN:=Nat->Prop
abbrev fA:=Option Addr
@[simp]abbrev ox(w u:World)(o:Nat)(v:Value):Prop:=w.cell? ⟨u.heap.size,o,none⟩=some v
@[simp]abbrev zm(w u:World)(o:Nat)(v:Value):Prop:=w.cell? ⟨u.heap.size+1,o,none⟩=some v
@[simp]abbrev di(w u:World)(o:Obj):Prop:=w.heap[u.heap.size]? =some o
def cT {P:Program}{f:FuncId}{a:Array Value}{w u:World}{x:Ending}{R:Ending->World->Prop}(h:Calls P f a w λe w'=>e=x/\u=w')(k:R x u):Calls P f a w R:=h.mono (by rintro e w'⟨rfl,rfl⟩;exact k)
def bY {P:Program}{f:FuncId}{a:Array Value}{w:World}{x:Ending}{S:World->Prop}{R:Ending->World->Prop}(h:Calls P f a w λe w'=>e=x/\S w')(k:∀w',S w'->R x w'):Calls P f a w R:=h.mono (by rintro e w'⟨rfl,g⟩;exact k w' g)
def bS {α:Type _}(a:α):∃b,b=a:=⟨a,rfl⟩
def jO {α:Type _}(a:α):∃b,a=b:=⟨a,rfl⟩
abbrev xZ(w:World):Nat:=w.heap.size
abbrev xK(c:Array Value)(t:TypeId):Obj:=.cells c t (0,0)
abbrev xSc(w:World)(b o:Nat)(v:Value):World:=w.setCell ⟨b,o,none⟩ v
abbrev cr(v:Value)(w:World):Ending->World->Prop:=λe w'=>e= .returned v/\Below w.heap.size w w'
abbrev ji(v:Value)(w:World):Ending->World->Prop:=λe w'=>e= .returned v/\w=w'
def Hd(p:Prop):Prop:=p
theorem Hd.o {p:Prop}(h:Hd p):p:=h
def af {p:Prop}(h:p):Hd p:=h
def gG {w:World}{Q:World->Prop}(h:∀W,Below w.heap.size w W->Q W):Hd (∀W,Below w.heap.size w W->Q W):=h
def bM {w:World}{o:Obj}:Below w.heap.size w (w.alloc o):=(Qbg _ _).alloc (Qab _) _
def dQ {n:Nat}{w:World}:Below n w w:=Qbg _ _
def bN {n:Nat}:n<=n:=Qab _
def eB {α:Type _}(l:List α)(i:Nat)(h:i<l.length):∃x,l[i]? =some x:=⟨_,Qac h⟩
def iB {a b:Option Addr}{n m c d:Nat}(h:Value.slice a n c=.slice b m d):a=b/\c=d:=by simp only[Value.slice.injEq]at h;exact⟨h.1,h.2.2⟩
def mV {W:World}{b:Nat}{cs:Array Value}{t:TypeId}(h:W.heap[b]? =some (.cells cs t (0,0))):W.frozen? ⟨b,0,none⟩=false/\W.frozen? ⟨b,1,none⟩=false:=⟨by simp[World.frozen?,h],by simp[World.frozen?,h]⟩
def iK {W:World}{b:Nat}{cs:Array Value}{t:TypeId}(h:W.heap[b]? =some (.cells cs t (0,0))):W.frozen? ⟨b,0,none⟩=false/\W.frozen? ⟨b,1,none⟩=false/\W.frozen? ⟨b,2,none⟩=false/\W.frozen? ⟨b,3,none⟩=false:=⟨by simp[World.frozen?,h],by simp[World.frozen?,h],by simp[World.frozen?,h],by simp[World.frozen?,h]⟩
def xf8 {W:World}{b:Nat}{cs:Array Value}{t:TypeId}(h:W.heap[b]? =some (.cells cs t (0,0))):W.frozen? ⟨b,0,none⟩=false/\W.frozen? ⟨b,1,none⟩=false/\W.frozen? ⟨b,2,none⟩=false/\W.frozen? ⟨b,3,none⟩=false/\W.frozen? ⟨b,4,none⟩=false/\W.frozen? ⟨b,5,none⟩=false/\W.frozen? ⟨b,6,none⟩=false/\W.frozen? ⟨b,7,none⟩=false:=⟨by simp[World.frozen?,h],by simp[World.frozen?,h],by simp[World.frozen?,h],by simp[World.frozen?,h],by simp[World.frozen?,h],by simp[World.frozen?,h],by simp[World.frozen?,h],by simp[World.frozen?,h]⟩
abbrev iH:Array Value:=#[.int .i64 0, .int .i64 0, .string ⟨#[]⟩, .slice none 0 0]
structure Ev(M:aN)(w:aj)(M':aN)(w':aj):Prop where
 only:ai M w w'
 sub:∀i,M' i->M i\/w.heap.size<=i
theorem Ev.refl(M:aN)(w:aj):Ev M w M w:=⟨ai.refl M w,λ_ h=> .inl h⟩
theorem Ev.trans {M M' M'':aN}{w w' w'':aj}(h:Ev M w M' w')(k:Ev M' w' M'' w''):Ev M w M'' w'':=
 ⟨h.only.cO k.only λi hi bu=>(h.sub i hi).elim (λh=>h) (λh=>by omega),
  λi hi=>(k.sub i hi).elim (h.sub i) λh1=> .inr (Qcg h.only.size h1)⟩
theorem Ev.ao {M:aN}{w w':aj}(h:aq w w'):Ev M w M w':=⟨ai.ao h,λ_ h=> .inl h⟩
theorem cA.ev {M M':aN}{w w':aj}{size n:Nat}{v:an}{xs:List an}(h:cA (λi=>¬M i) w size v n xs)(k:Ev M w M' w'):cA (λi=>¬M' i) w' size v n xs:=
 (cA.only (F:=λi=>¬M i/\i<w.heap.size) (h.mono λi hi hl=>⟨hi,hl⟩) k.only (λi hi=>hi.1)).mono λi hi _ h1=>(k.sub i h1).elim hi.1 λh2=>by omega
class au(α:Type)where
 size:Nat
 rep:(Nat->Prop)->aj->List an->α->Prop
 len:∀{M w cs x},rep M w cs x->cs.length=size
 flat:∀{M w cs x},rep M w cs x->∀u∈cs,u.oneCell'=true
 ev:∀{M M' w w' cs x},rep M w cs x->Ev M w M' w'->rep M' w' cs x
def ab {α:Type} [au α](M:aN)(w:aj)(v:an)(xs:List α):Prop:=
 ∃css:List (List an),cA (λi=>¬M i) w (au.size α) v xs.length css.flatten/\css.length=xs.length/\∀(i:Nat)(cs:List an)(x:α),css[i]? =some cs->xs[i]? =some x->au.rep M w cs x
section
variable {α:Type} [au α]{M M':aN}{w w':aj}{v:an}{xs:List α}
theorem ab.ev(h:ab M w v xs)(k:Ev M w M' w'):ab M' w' v xs:=by
 obtain⟨css,h1,h2,h3⟩:=h;exact⟨css,h1.ev k,h2,λi cs x hc hx=>au.ev (h3 i cs x hc hx) k⟩
theorem ab.below(h:ab M w v xs)(k:aq w w'):ab M w' v xs:=h.ev (Ev.ao k)
theorem ab.nil(M:aN)(w:aj):ab (α:=α) M w (xL none 0 0) []:=⟨[],cA.nil _ _ _,rfl,λi cs x h=>by simp at h⟩
def iu {css:List (List an)}{size:Nat}(hs:∀(i:Nat)(cs:List an),css[i]? =some cs->cs.length=size):∀(i:Nat)(cs:List an)(j:Nat)(u:an),css[i]? =some cs->cs[j]? =some u->css.flatten[i*size+j]? =some u:=by
 induction css with
 |nil=>intro i cs j u h;simp at h
 |cons a r ih=>
  intro i cs j u hi hj;have ha:a.length=size:=hs 0 a rfl;cases i with
  |zero=>
   simp at hi;subst hi;have CJ:j<a.length:=(Qad.1 hj).1;rw[List.flatten_cons,Nat.zero_mul,Nat.zero_add,Qbc CJ];exact hj
  |succ i=>
   have ZW:r[i]? =some cs:=by simpa using hi
   have:=ih (λk c hk=>hs (k+1) c (by simpa using hk)) i cs j u ZW hj;rw[List.flatten_cons,Qbd (by rw[ha,Nat.succ_mul];omega),ha];rw[show(i+1)*size+j-size=i*size+j from by rw[Nat.succ_mul];omega];exact this
theorem ab.open_(h:ab M w v xs):∃a cap,v=xL a xs.length cap/\xs.length<=cap/\cap<=9223372036854775807/\(0<xs.length->∃b off,a=some ⟨b,off,none⟩/\¬M b/\b<w.heap.size/\
 ∀(i:Nat)(x:α),xs[i]? =some x->∃cs,au.rep M w cs x/\∀(j:Nat)(u:an),cs[j]? =some u->bt w b (off+i*au.size α+j) u):=by
 obtain⟨css,⟨hl,a,cap,hv,hc,hm,hx⟩,h2,h3⟩:=h;refine⟨a,cap,hv,hc,by unfold maxLen at hm;omega,λhn=> ?_⟩;obtain⟨b,off,ha,hF,hb,aL⟩:=hx hn;have hlen:∀(i:Nat)(cs:List an),css[i]? =some cs->cs.length=au.size α:=λi cs bJ=>by
  have hi:i<xs.length:=by rw[<-h2];exact(Qad.1 bJ).1
  exact au.len (h3 i cs _ bJ (Qac hi))
 refine⟨b,off,ha,hF,hb,λi x hxi=> ?_⟩;have hi:i<css.length:=by rw[h2];exact(Qad.1 hxi).1
 exact⟨css[i],h3 i _ x (Qac hi) hxi,λj u hu=>by rw[Nat.add_assoc];exact aL _ u (iu hlen i _ j u (Qac hi) hu)⟩
end
structure aT where
 kind:Int
 of:Int
 deriving DecidableEq
inductive aA where
 |mk(kind n:Int)(s:aM)(l:List aA)
structure az where
 name:aM
 type:aT
 indexed:Bool
structure ax where
 name:aM
 fields:List az
inductive aw where
 |mk(kind n:Int)(s:aM)(kids:List aw)
structure aC where
 kind:Int
 field:aM
 name:aM
 more:aM
 type:aT
 expr:aM
 other:aM
structure aH where
 first:ax
 changes:List aC
structure bE where
 id:Int
 cls:Int
 ver:Int
 aR:List aA
structure aV where
 name:aM
 id:Int
structure aX where
 lines:List aH
 objs:List bE
 roots:List aV
 next:Int
def eK {M:aN}{w:aj}{α:Type} [au α]{v:an}{xs:List α}(h:ab M w v xs):v.oneCell'=true:=by
 obtain⟨css,⟨_,a,cap,rfl,_⟩,_⟩:=h;rfl
instance:au az where
 size:=4
 rep:=λ_ _ cs x=>cs=[xS x.name,xI x.type.kind,xI x.type.of,xB x.indexed]/\x.name.size<=maxLen
 len:=λh=>by rw[h.1];rfl
 flat:=λh u hu=>by rw[h.1]at hu;simp at hu;rcases hu with rfl|rfl|rfl|rfl<;>rfl
 ev:=λh _=>h
instance:au aC where
 size:=8
 rep:=λ_ _ cs x=>cs=[xI x.kind,xS x.field,xS x.name,xS x.more,xI x.type.kind,xI x.type.of,xS x.expr,xS x.other]/\x.field.size<=maxLen/\x.name.size<=maxLen/\x.more.size<=maxLen/\x.expr.size<=maxLen/\x.other.size<=maxLen
 len:=λh=>by rw[h.1];rfl
 flat:=λh u hu=>by rw[h.1]at hu;simp at hu;rcases hu with rfl|rfl|rfl|rfl|rfl|rfl|rfl|rfl<;>rfl
 ev:=λh _=>h
instance:au aV where
 size:=2
 rep:=λ_ _ cs x=>cs=[xS x.name,xI x.id]/\x.name.size<=maxLen
 len:=λh=>by rw[h.1];rfl
 flat:=λh u hu=>by rw[h.1]at hu;simp at hu;rcases hu with rfl|rfl<;>rfl
 ev:=λh _=>h
instance:au Int where
 size:=1
 rep:=λ_ _ cs x=>cs=[xI x]
 len:=λh=>by rw[h];rfl
 flat:=λh u hu=>by rw[h]at hu;simp at hu;subst hu;rfl
 ev:=λh _=>h
instance:au ax where
 size:=2
 rep:=λM w cs x=>∃fv,cs=[xS x.name,fv]/\ab M w fv x.fields/\x.name.size<=maxLen
 len:=λ⟨_,h,_⟩=>by rw[h];rfl
 flat:=λ⟨_,h,h1,_⟩u hu=>by rw[h]at hu;simp at hu;rcases hu with rfl|rfl;rfl;exact eK h1
 ev:=λ⟨fv,h,h1,h2⟩k=>⟨fv,h,h1.ev k,h2⟩
instance:au aH where
 size:=3
 rep:=λM w cs x=>∃fv cv,cs=[xS x.first.name,fv,cv]/\ab M w fv x.first.fields/\ab M w cv x.changes/\x.first.name.size<=maxLen
 len:=λ⟨_,_,h,_⟩=>by rw[h];rfl
 flat:=λ⟨_,_,h,h1,h2,_⟩u hu=>by rw[h]at hu;simp at hu;rcases hu with rfl|rfl|rfl;rfl;exact eK h1;exact eK h2
 ev:=λ⟨fv,cv,h,h1,h2,h3⟩k=>⟨fv,cv,h,h1.ev k,h2.ev k,h3⟩
mutual
inductive eZ(M:aN)(w:aj):List an->aA->Prop
 |mk(k n:Int)(s:aM)(l:List aA)(a:an)(css:List (List an)):cA (λi=>¬M i) w 4 a l.length css.flatten->s.size<=maxLen->mg M w css l->eZ M w [xI k,xI n,xS s,a] (.mk k n s l)
inductive mg(M:aN)(w:aj):List (List an)->List aA->Prop
 |nil:mg M w [] []
 |cons(cs:List an)(v:aA)(css:List (List an))(l:List aA):eZ M w cs v->mg M w css l->mg M w (cs::css) (v::l)
end
mutual
theorem eZ.zo {M M':aN}{w w':aj}{cs:List an}{v:aA}(h:eZ M w cs v)(k:Ev M w M' w'):eZ M' w' cs v:=by
 match h with
 | .mk kd n s l a css h1 hs h2=>exact .mk kd n s l a css (h1.ev k) hs (h2.zo k)
theorem mg.zo {M M':aN}{w w':aj}{css:List (List an)}{l:List aA}(h:mg M w css l)(k:Ev M w M' w'):mg M' w' css l:=by
 match h with
 | .nil=>exact .nil
 | .cons cs v css l h1 h2=>exact .cons cs v css l (h1.zo k) (h2.zo k)
end
variable{F:aN}
def cells_one {w:aj}{size n:Nat}{v:an}{xs:List an}(h:cA F w size v n xs):v.oneCell'=true:=by obtain⟨_,a,cap,rfl,_⟩:=h;rfl
instance:au aA where
 size:=4
 rep:=eZ
 len:=λh=>by cases h;rfl
 flat:=λh u hu=>by
  cases h with
  |mk k n s l a css h1 hs h2=>simp at hu;rcases hu with rfl|rfl|rfl|rfl;rfl;rfl;rfl;exact cells_one h1
 ev:=λh k=>h.zo k
theorem mg.iff {M:aN}{w:aj}:∀{css:List (List an)}{l:List aA},mg M w css l↔css.length=l.length/\∀(i:Nat)(cs:List an)(x:aA),css[i]? =some cs->l[i]? =some x->eZ M w cs x
 |[],[]=>⟨λ_=>⟨rfl,λi cs x h=>by simp at h⟩,λ_=> .nil⟩
 |[],_::_=>⟨λh=>(by cases h),λh=>(by simp at h)⟩
 |_::_,[]=>⟨λh=>(by cases h),λh=>(by simp at h)⟩
 |cs::css,v::l=>by
  constructor
  .intro h;cases h with
   |cons _ _ _ _ h1 h2=>
    obtain⟨e,h3⟩:=(mg.iff (css:=css) (l:=l)).1 h2;refine⟨by simp[e],λi c x hc hx=> ?_⟩;cases i with
    |zero=>simp at hc hx;subst hc hx;exact h1
    |succ i=>exact h3 i c x (by simpa using hc) (by simpa using hx)
  .rintro⟨e,h⟩;exact .cons _ _ _ _ (h 0 cs v rfl rfl) ((mg.iff (css:=css) (l:=l)).2 ⟨by simpa using e,λi c x hc hx=>h (i+1) c x (by simpa using hc) (by simpa using hx)⟩)
variable{l:List aA}{s:aM}{cs:List an}
theorem eZ.iff {M:aN}{w:aj}{k n:Int}:eZ M w cs (.mk k n s l)↔∃a,cs=[xI k,xI n,xS s,a]/\ab M w a l/\s.size<=maxLen:=by
 constructor
 .intro h;cases h with
  |mk _ _ _ _ a css h1 hs h2=>
   obtain⟨e,h3⟩:=mg.iff.1 h2;exact⟨a,rfl,⟨css,h1,e,h3⟩,hs⟩
 .rintro⟨a,rfl,⟨css,h1,e,h3⟩,hs⟩;exact .mk k n s l a css h1 hs (mg.iff.2 ⟨e,h3⟩)
mutual
inductive cH(M:aN)(w:aj):List an->aw->Prop
 |mk(k n:Int)(s:aM)(l:List aw)(a:an)(css:List (List an)):cA (λi=>¬M i) w 4 a l.length css.flatten->s.size<=maxLen->jk M w css l->cH M w [xI k,xI n,xS s,a] (.mk k n s l)
inductive jk(M:aN)(w:aj):List (List an)->List aw->Prop
 |nil:jk M w [] []
 |cons(cs:List an)(v:aw)(css:List (List an))(l:List aw):cH M w cs v->jk M w css l->jk M w (cs::css) (v::l)
end
mutual
theorem cH.zo {M M':aN}{w w':aj}{cs:List an}{v:aw}(h:cH M w cs v)(k:Ev M w M' w'):cH M' w' cs v:=by
 match h with
 | .mk kd n s l a css h1 hs h2=>exact .mk kd n s l a css (h1.ev k) hs (h2.zo k)
theorem jk.zo {M M':Nat->Prop}{w w':World}{css:List (List Value)}{l:List aw}(h:jk M w css l)(k:Ev M w M' w'):jk M' w' css l:=by
 match h with
 | .nil=>exact .nil
 | .cons cs v css l h1 h2=>exact .cons cs v css l (h1.zo k) (h2.zo k)
end
instance:au aw where
 size:=4
 rep:=cH
 len:=λh=>by cases h;rfl
 flat:=λh u hu=>by
  cases h with
  |mk k n s l a css h1 hs h2=>simp at hu;rcases hu with rfl|rfl|rfl|rfl;rfl;rfl;rfl;exact cells_one h1
 ev:=λh k=>h.zo k
theorem jk.iff {M:aN}{w:aj}:∀{css:List (List an)}{l:List aw},jk M w css l↔css.length=l.length/\∀(i:Nat)(cs:List an)(x:aw),css[i]? =some cs->l[i]? =some x->cH M w cs x
 |[],[]=>⟨λ_=>⟨rfl,λi cs x h=>by simp at h⟩,λ_=> .nil⟩
 |[],_::_=>⟨λh=>(by cases h),λh=>(by simp at h)⟩
 |_::_,[]=>⟨λh=>(by cases h),λh=>(by simp at h)⟩
 |cs::css,v::l=>by
  constructor
  .intro h;cases h with
   |cons _ _ _ _ h1 h2=>
    obtain⟨e,h3⟩:=(jk.iff (css:=css) (l:=l)).1 h2;refine⟨by simp[e],λi c x hc hx=> ?_⟩;cases i with
    |zero=>simp at hc hx;subst hc hx;exact h1
    |succ i=>exact h3 i c x (by simpa using hc) (by simpa using hx)
  .rintro⟨e,h⟩;exact .cons _ _ _ _ (h 0 cs v rfl rfl) ((jk.iff (css:=css) (l:=l)).2 ⟨by simpa using e,λi c x hc hx=>h (i+1) c x (by simpa using hc) (by simpa using hx)⟩)
theorem cH.iff {M:aN}{w:aj}{k n:Int}{l:List aw}:cH M w cs (.mk k n s l)↔∃a,cs=[xI k,xI n,xS s,a]/\ab M w a l/\s.size<=maxLen:=by
 constructor
 .intro h;cases h with
  |mk _ _ _ _ a css h1 hs h2=>
   obtain⟨e,h3⟩:=jk.iff.1 h2;exact⟨a,rfl,⟨css,h1,e,h3⟩,hs⟩
 .rintro⟨a,rfl,⟨css,h1,e,h3⟩,hs⟩;exact .mk k n s l a css h1 hs (jk.iff.2 ⟨e,h3⟩)
instance:au bE where
 size:=4
 rep:=λM w cs x=>∃vv,cs=[xI x.id,xI x.cls,xI x.ver,vv]/\ab M w vv x.aR
 len:=λ⟨_,h,_⟩=>by rw[h];rfl
 flat:=λ⟨_,h,h1⟩u hu=>by rw[h]at hu;simp at hu;rcases hu with rfl|rfl|rfl|rfl;rfl;rfl;rfl;exact eK h1
 ev:=λ⟨vv,h,h1⟩k=>⟨vv,h,h1.ev k⟩
def ct {α:Type} [au α](M:aN)(w:aj)(v:an)(x:α):Prop:=∃cs,v= .agg cs.toArray/\au.rep M w cs x
theorem ct.ev {α:Type} [au α]{M M':aN}{w w':aj}{v:an}{x:α}(h:ct M w v x)(k:Ev M w M' w'):ct M' w' v x:=by
 obtain⟨cs,h1,h2⟩:=h;exact⟨cs,h1,au.ev h2 k⟩
theorem ct.below {α:Type} [au α]{M:aN}{w w':aj}{v:an}{x:α}(h:ct M w v x)(k:aq w w'):ct M w' v x:=h.ev (Ev.ao k)
def cg(w:aj)(R:an->aj->Prop)(e:Ending)(w':aj):Prop:=∃v,e=xR v/\R v w'/\aq w w'
abbrev xG(f:FuncId)(a:Array Value)(w:World)(R:Value->World->Prop):Prop:=Calls prog f a w (cg w R)
def Bd(M:aN)(w:aj):Prop:=∀i,M i->i<w.heap.size
theorem Bd.below {M:aN}{w w':aj}(h:Bd M w)(k:aq w w'):Bd M w':=λi hi=>Qde (h i hi) k.size
def bg(v:an)(M:aN):Nat->Prop:=λi=>M i\/v.ownBlock=some i
def aK {α:Type} [au α](M:aN)(base:Nat)(e:TypeId)(w:aj)(v:an)(xs:List α):Prop:=
 ∃css:List (List an),w.ownsRow base e (au.size α) v xs.length css.flatten/\css.length=xs.length/\∀(i:Nat)(cs:List an)(x:α),css[i]? =some cs->xs[i]? =some x->au.rep (bg v M) w cs x
variable{N:aN}
theorem Ev.dD {M:aN}(w:aj)(h:∀i,N i->M i):Ev M w N w:=⟨ai.refl M w,λi hi=> .inl (h i hi)⟩
section
variable {α:Type} [au α]{M:aN}{base:Nat}{e:TypeId}{w w':aj}{v v':an}{xs:List α}
theorem aK.nil(M:aN)(base:Nat)(e:TypeId)(w:aj):aK (α:=α) M base e w (xL none 0 0) []:=⟨[],World.ownsRow_nil w base e _,rfl,λi cs x h=>by simp at h⟩
theorem aK.made(M:aN)(cur:Array an)(cap:Nat)(hb:base<=w.heap.size)(hm:cap<=maxLen)(hs:cur.size=cap*au.size α):aK (α:=α) M base e (w.alloc (.cells cur e)) (xL (some ⟨w.heap.size,0,none⟩) 0 cap) []:=
 ⟨[],World.ownsRow_made w cur cap hb hm hs,rfl,λi cs x h=>by simp at h⟩
def zp {size n:Nat}(h:w.ownsRow base e size v n cs)(hb:aq w w'):w'.ownsRow base e size v n cs:=by
 refine⟨h.1,?_⟩;rcases h.2 with h0|⟨g,cap,cur,h1,h2,h3,h4⟩
 .exact .inl h0
 .exact .inr ⟨g,cap,cur,h1,h2,(hb.block g (Qaa.1 h3).1).trans h3,h4⟩
theorem aK.below(h:aK M base e w v xs)(hb:aq w w'):aK M base e w' v xs:=by
 obtain⟨css,h1,h2,h3⟩:=h;exact⟨css,zp h1 hb,h2,λi cs x hc hx=>au.ev (h3 i cs x hc hx) (Ev.ao hb)⟩
theorem aK.alloc(h:aK M base e w v xs)(o:Obj):aK M base e (w.alloc o) v xs:=h.below ((Qbg _ w).alloc bN o)
theorem aK.open_(h:aK M base e w v xs):∃a cap,v=xL a xs.length cap/\xs.length<=cap/\cap<=9223372036854775807:=by
 obtain⟨css,h1,_⟩:=h;obtain⟨a,c,h2,h3,h4⟩:=fM h1;exact⟨a,c,h2,h3,by unfold maxLen at h4;omega⟩
theorem aK.cJ(h:aK M base e w v xs):∀k,v.ownBlock=some k->base<=k/\k<w.heap.size:=by
 obtain⟨css,h1,_⟩:=h;exact h1.lt
theorem aK.slice(h:aK M base e w v xs)(hM:∀i,M i->i<base):ab M w v xs:=by
 obtain⟨css,h1,h2,h3⟩:=h;refine⟨css,(cA.Gk h1).mono λi hi _ ZX=> ?_,h2,λi cs x hc hx=>au.ev (h3 i cs x hc hx) (Ev.dD w λi hi=> .inl hi)⟩;have:=(h1.lt i hi).1;have:=hM i ZX;omega
theorem Ev.grown(hg:w.grownBy w' v.ownBlock)(hv:v'.ownBlock=v.ownBlock\/v'.ownBlock=some w.heap.size):Ev (bg v M) w (bg v' M) w':=by
 refine⟨(ai.refl _ w).grown hg λg hg'=> .inl (.inr hg'),λi hi=> ?_⟩;rcases hi with hi|hi
 .exact .inl (.inl hi)
 .rcases hv with hv|hv
  .exact .inl (.inr (hv▸hi))
  .rw[hv]at hi;cases hi;exact .inr bN
theorem aK.snoc {css:List (List an)}{x:α}(h2:css.length=xs.length)(h3:∀(i:Nat)(cs:List an)(x:α),css[i]? =some cs->xs[i]? =some x->au.rep (bg v M) w cs x)
 (hx:au.rep (bg v M) w cs x)(ho:w'.ownsRow base e (au.size α) v' (xs.length+1) (css.flatten++cs))(hg:w.grownBy w' v.ownBlock)(hv:v'.ownBlock=v.ownBlock\/v'.ownBlock=some w.heap.size):
 aK M base e w' v' (xs++[x]):=by
 refine⟨css++[cs],by simpa using ho,by simp[h2],λi c y hc hy=> ?_⟩;by_cases hi:i<css.length
 .rw[Qbc hi]at hc;rw[Qbc (by omega)]at hy;exact au.ev (h3 i c y hc hy) (Ev.grown hg hv)
 .rw[Qbd (by omega)]at hc;rw[Qbd (by omega)]at hy;rw[h2]at hc;by_cases h0:i-xs.length=0
  .rw[h0]at hc hy;simp at hc hy;subst hc hy;exact au.ev hx (Ev.grown hg hv)
  .rw[List.getElem?_eq_none (by simp;omega)]at hc;cases hc
theorem aK.app {css Na:List (List an)}{ys:List α}(h2:css.length=xs.length)(h3:∀(i:Nat)(cs:List an)(x:α),css[i]? =some cs->xs[i]? =some x->au.rep (bg v M) w cs x)
 (k2:Na.length=ys.length)(k3:∀(i:Nat)(cs:List an)(x:α),Na[i]? =some cs->ys[i]? =some x->au.rep (bg v M) w cs x)(ho:w'.ownsRow base e (au.size α) v' (xs.length+ys.length) (css.flatten++Na.flatten))(hg:w.grownBy w' v.ownBlock)(hv:v'.ownBlock=v.ownBlock\/v'.ownBlock=some w.heap.size):
 aK M base e w' v' (xs++ys):=by
 refine⟨css++Na,by simpa using ho,by simp[h2,k2],λi c y hc hy=> ?_⟩;by_cases hi:i<css.length
 .rw[Qbc hi]at hc;rw[Qbc (by omega)]at hy;exact au.ev (h3 i c y hc hy) (Ev.grown hg hv)
 .rw[Qbd (by omega)]at hc;rw[Qbd (by omega)]at hy;rw[h2]at hc;exact au.ev (k3 _ c y hc hy) (Ev.grown hg hv)
end
def eu(c:Int):Bool:=decide (97<=c/\c<=122)
def K4(c:Int)(w:aj)(h0:0<=c)(h1:c<=255):
 xC 167 #[.int .u8 c] w (ji (xB (eu c)) w):=by
 by_cases h2:97<=c
 .by_cases h3:c<=122
  .go_enter func167,ntmps167;go_wp2;go_ret;exact⟨bz (by simp[eu,h2,h3]),rfl⟩
  .go_enter func167,ntmps167;go_wp2;go_ret;exact⟨bz (by simp[eu,h2];omega),rfl⟩
 .go_enter func167,ntmps167;go_wp2;go_ret;exact⟨bz (by simp[eu];omega),rfl⟩
def kL(b:Bool)(c:Int)(w:aj)(hb:eu c=b)(h0:0<=c)(h1:c<=255):
 xC 167 #[.int .u8 c] w (ji (xB b) w):=by subst hb;exact K4 c w h0 h1
def bA(c:Int):Bool:=eu c||decide (48<=c/\c<=57)||decide (c=95)
def aB(s:aM):Bool:=decide (1<=s.size)&&decide (s.size<=20)&&(match s.data.toList with|[]=>false|c::r=>eu c.toNat&&(c::r).all λc=>bA c.toNat)
def aG(t:aT):Bool:=if t.kind=5 then decide (1<=t.of/\t.of<=4)else decide (1<=t.kind/\t.kind<=4/\t.of=0)
def qI(t:aT)(w:aj):
 xC 168 #[.agg #[xI t.kind,xI t.of]] w (cr (xB (aG t)) w):=by
 obtain⟨k,o⟩:=t;by_cases hk:k=5
 .subst hk;by_cases h1:1<=o
  .go_enter func168,ntmps168;go_wp2;go_ret;exact⟨bz (by simp[aG,h1]),bM⟩
  .go_enter func168,ntmps168;go_wp2;go_ret;exact⟨bz (by simp[aG];omega),bM⟩
 .have Yb:(k==5)=false:=by simpa using hk
  by_cases h1:1<=k
  .by_cases h2:k<=4
   .go_enter func168,ntmps168;go_wp2;go_ret;exact⟨bz (by by_cases ho:o=0<;>simp[aG,hk,h1,h2,ho]),bM⟩
   .go_enter func168,ntmps168;go_wp2;go_ret;exact⟨bz (by simp[aG,hk];omega),bM⟩
  .go_enter func168,ntmps168;go_wp2;go_ret;exact⟨bz (by simp[aG,hk];omega),bM⟩
def dk(s:aM)(k:Nat)(h:k<s.size):s.data.toList[k]? =some s[k]:=by
 rw[Qac (by simpa using h)];rfl
def K6(s:aM)(k:Nat)(h:k<s.size):s.data.toList.take (k+1)=s.data.toList.take k++[s[k]]:=by
 rw[Qbb,dk s k h];rfl
def bq(s:aM):s.data.toList.length=s.size:=by rw[Array.length_toList];rfl
def zq(s:aM)(w:aj)(hs:s.size<=maxLen):
 xC 105 #[xS s] w (ji (xB (aB s)) w):=by
 unfold maxLen at hs;by_cases h1:s.size<1
 .go_enter func105,ntmps105;go_wp2;go_ret;exact⟨bz (by simp[aB];omega),rfl⟩
 .by_cases h2:20<s.size
  .go_enter func105,ntmps105;go_wp2;go_ret;exact⟨bz (by simp[aB];omega),rfl⟩
  .obtain⟨c0,tC⟩:∃c,s[0]=c:=⟨_,rfl⟩;have lZ:(c0.toNat:Int)<=255:=by have:=c0.toNat_lt;omega
   obtain⟨r,hr⟩:∃r,s.data.toList=c0::r:=by
    have h:=dk s 0 (by omega);rw[tC]at h;cases hl:s.data.toList with
    |nil=>rw[hl]at h;simp at h
    |cons a r=>rw[hl]at h;simp at h;exact⟨r,by rw[h]⟩
   have HR:=af hr;clear hr;cases S9:eu c0.toNat
   .have HS:=af S9;clear S9;go_enter func105,ntmps105;go_wp2_with fail;refine cT (kL false _ _ HS.o (by omega) lZ) ?_;go_wp2;go_ret;exact⟨bz (by simp[aB,HR.o,HS.o]),rfl⟩
   .have HS:=af S9;clear S9;go_enter func105,ntmps105;go_wp2_with fail;refine cT (kL true _ _ HS.o (by omega) lZ) ?_;go_wp2_with fail;clear tC;go_loopg [3,20]s.size(λg _ iv wr=>∃k:Nat,k<=s.size/\g=s.size-k/\iv=xI k/\Hd ((s.data.toList.take k).all (λc=>bA c.toNat)=true)/\w=wr);case atStart=>exact⟨0,Qbf _,rfl,rfl,by exact(rfl:(s.data.toList.take 0).all (λc=>bA c.toNat)=true),rfl⟩
    case round=>
     obtain⟨k,hk,rfl,rfl,HT,rfl⟩:=hrel;by_cases bu:k<s.size
     .obtain⟨c,hc⟩:=jO (s[k]);have Fm:(c.toNat:Int)<=255:=by have:=c.toNat_lt;omega
      have nG:=af (K6 s k bu);have FW:=af hc;have mP:=af (dk s k bu);have hkz:(k:Int)<s.size:=by omega
      have fin:bA c.toNat=true->(s.data.toList.take (k+1)).all (λc=>bA c.toNat)=true:=λh=>by
       rw[nG.o,List.all_append,HT.o,FW.o];simp[h]
      have pH:=af fin;clear fin;cases S9:eu c.toNat
      .have gE:=af S9;clear S9;have NO:Hd (bA c.toNat=false->aB s=false):=by
        have h:bA c.toNat=false->aB s=false:=λhn=>by
         have hm:c∈s.data.toList:=Qaf (by rw[mP.o,FW.o]);have ha:(s.data.toList.all λc=>bA c.toNat)=false:=by
          rw[List.all_eq_false];exact⟨c,hm,by simp[hn]⟩
         unfold aB;rw[HR.o]at ha⊢;simp only[ha,Bool.and_false]
        exact h
       by_cases hu:(c.toNat:Int)=95
       .have hub:((c.toNat:Int)!=95)=false:=by simpa using hu
        have Wd:¬(c.toNat:Int)<48:=by omega
        have Yc:57<(c.toNat:Int):=by omega
        have HU:=af hu;clear hu;go_wp2_with fail;refine cT (kL false _ _ gE.o (by omega) Fm) ?_;go_wp2;go_roundg(s.size-(k+1));case measure=>omega
        case rel=>exact⟨k+1,by omega,rfl,by go_num,pH.o (by simp[bA,HU.o]),rfl⟩
       .have hub:((c.toNat:Int)!=95)=true:=by simpa using hu
        have HU:=af hu;clear hu;by_cases Wd:(c.toNat:Int)<48
        .have HN:Hd (bA c.toNat=false):=by
          have h:bA c.toNat=false:=by
           have:=HU.o;simp only[bA,gE.o,Bool.false_or,Bool.or_eq_false_iff,decide_eq_false_iff_not];omega
          exact h
         go_wp2_with fail;refine cT (kL false _ _ gE.o (by omega) Fm) ?_;go_wp2;go_ret;refine⟨bz ?_,rfl⟩;rw[NO.o];exact HN.o
        .by_cases Yc:57<(c.toNat:Int)
         .have HN:Hd (bA c.toNat=false):=by
           have h:bA c.toNat=false:=by
            have:=HU.o;simp only[bA,gE.o,Bool.false_or,Bool.or_eq_false_iff,decide_eq_false_iff_not];omega
           exact h
          go_wp2_with fail;refine cT (kL false _ _ gE.o (by omega) Fm) ?_;go_wp2;go_ret;refine⟨bz ?_,rfl⟩;rw[NO.o];exact HN.o
         .have HN:Hd (bA c.toNat=true):=by
           have h:bA c.toNat=true:=by
            simp only[bA,gE.o,Bool.false_or,Bool.or_eq_true,decide_eq_true_eq];omega
           exact h
          go_wp2_with fail;refine cT (kL false _ _ gE.o (by omega) Fm) ?_;go_wp2;go_roundg(s.size-(k+1));case measure=>omega
          case rel=>exact⟨k+1,by omega,rfl,by go_num,pH.o (HN.o),rfl⟩
      .have gE:=af S9;clear S9;go_wp2_with fail;refine cT (kL true _ _ gE.o (by omega) Fm) ?_;go_wp2;go_roundg(s.size-(k+1));case measure=>omega
       case rel=>exact⟨k+1,by omega,rfl,by go_num,pH.o (by simp[bA,gE.o]),rfl⟩
     .go_wp2;go_ret;have h:=HT.o;rw[Qah (by rw[bq];omega)]at h;refine⟨bz ?_,rfl⟩;simp only[aB,HR.o]at h⊢;simp[h,HS.o];omega
def bH(f:az):Bool:=aB f.name&&aG f.type&&(!f.indexed||decide (f.type.kind<=3))
def nf(b:Bool)(t:aT)(w:aj)(hb:aG t=b):
 xC 168 #[.agg #[xI t.kind,xI t.of]] w (cr (xB b) w):=by subst hb;exact qI t w
def fC(b:Bool)(s:aM)(w:aj)(hb:aB s=b)(hs:s.size<=maxLen):
 xC 105 #[xS s] w (ji (xB b) w):=by subst hb;exact zq s w hs
variable{o:Obj}{w W:aj}
def boxed(h:Below (w.alloc o).heap.size (w.alloc o) W):di W w o:=(h.block w.heap.size (by simp)).trans (Qbh w o)
def aU(h:Below (w.alloc o).heap.size (w.alloc o) W):aq w W:=((Qbg _ w).alloc bN o).trans (h.mono (by simp))
variable{t:TypeId}{c0 c1:an}{g:Nat}
def ah(h:W.heap[g]? =some (xK #[c0,c1] t)):W.cell? ⟨g,0,none⟩=some c0/\W.cell? ⟨g,1,none⟩=some c1:=by simp[World.cell?,h]
variable{c2 c3:an}
def ae(h:W.heap[g]? =some (xK #[c0,c1,c2,c3] t)):
 W.cell? ⟨g,0,none⟩=some c0/\W.cell? ⟨g,1,none⟩=some c1/\W.cell? ⟨g,2,none⟩=some c2/\W.cell? ⟨g,3,none⟩=some c3:=by simp[World.cell?,h]
def wA(f:az)(w:aj)(hs:f.name.size<=maxLen):
 xC 106 #[.agg #[xS f.name,xI f.type.kind,xI f.type.of,xB f.indexed]] w (cr (xB (bH f)) w):=by
 obtain⟨name,⟨k,o⟩,ix⟩:=f;have Rz:=af hs;cases h1:aB name
 .have H1:=af h1;go_enter func106,ntmps106;go_wp2_with fail;refine cT (fC false _ _ H1.o Rz.o) ?_;go_wp2;go_ret;exact⟨bz (by simp[bH,H1.o]),bM⟩
 .cases h2:aG ⟨k,o⟩
  .have H1:=af h1;have H2:=af h2;go_enter func106,ntmps106;go_wp2_with fail;refine cT (fC true _ _ H1.o Rz.o) ?_;go_wp2_with fail;refine bY (nf false ⟨k,o⟩ _ H2.o) λw1 aF=> ?_;go_wp2;go_ret;exact⟨bz (by simp[bH,H1.o,H2.o]),aU aF⟩
  .have H1:=af h1;have H2:=af h2;cases ix
   .go_enter func106,ntmps106;go_wp2_with fail;refine cT (fC true _ _ H1.o Rz.o) ?_;go_wp2_with fail;refine bY (nf true ⟨k,o⟩ _ H2.o) λw1 aF=> ?_;obtain⟨q0,q1,q2,q3⟩:=ae (boxed aF);have aY:=af aF;go_wp2;go_ret;exact⟨bz (by simp[bH,H1.o,H2.o]),aU aY.o⟩
   .go_enter func106,ntmps106;go_wp2_with fail;refine cT (fC true _ _ H1.o Rz.o) ?_;go_wp2_with fail;refine bY (nf true ⟨k,o⟩ _ H2.o) λw1 aF=> ?_;obtain⟨q0,q1,q2,q3⟩:=ae (boxed aF);have aY:=af aF;go_wp2;go_ret;exact⟨bz (by simp[bH,H1.o,H2.o]),aU aY.o⟩
def cj(a b:aM):Bool:=a.toList==b.toList
def C5(f:az)(name:aM)(p:Nat)(w:aj)(hp:bt w p 0 (xS name))(ij:p<w.heap.size):
 xC 170 #[.agg #[xS f.name,xI f.type.kind,xI f.type.of,xB f.indexed],xP p] w (cr (xB (cj f.name name)) w):=by
 obtain⟨fn,⟨k,o⟩,ix⟩:=f;have We:p≠w.heap.size:=by omega
 go_enter func170,ntmps170;go_wp2;go_ret;exact⟨rfl,bM⟩
def idxOf {α:Type}(p:α->Bool)(xs:List α):Int:=match xs.findIdx? p with|some i=>i|none=> -1
variable{k:Nat}
def idxOf_hit {α:Type}{p:α->Bool}{xs:List α}{x:α}(h:∀y∈xs.take k,p y=false)(hx:xs[k]? =some x)(hp:p x=true):idxOf p xs=k:=by
 unfold idxOf;have:xs.findIdx? p=some k:=by
  rw[List.findIdx?_eq_some_iff_getElem];have hk:k<xs.length:=(Qad.1 hx).1;refine⟨hk,by rw[(Qad.1 hx).2];exact hp,λj hj=> ?_⟩;have:=h xs[j] (List.mem_take_iff_getElem.2 ⟨j,by omega,rfl⟩);simp[this]
 rw[this]
def ng {α:Type}{p:α->Bool}{xs:List α}(h:∀y∈xs,p y=false):idxOf p xs= -1:=by
 unfold idxOf;rw[List.findIdx?_eq_none_iff.2 (λx hx=>by simp[h x hx])]
def wB(M:aN)(v:an)(w:aj)(xs:List az)(name:aM)(p:Nat)(h:ab M w v xs)(hp:bt w p 0 (xS name))(ij:p<w.heap.size):
 xC 169 #[v, .func (.func 170) #[] #[xP p]] w (cr (xI (idxOf (λf=>cj f.name name) xs)) w):=by
 obtain⟨a,bQ,rfl,cV,hm,hc⟩:=h.open_;have HC:=af hc;have HP:=af hp;generalize hn:xs.length=n at*;have HN:=af hn;go_enter func169,ntmps169;go_wp2;go_loopg [5,8]n(λg _ iv wr=>∃k:Nat,k<=n/\g=n-k/\iv=xI k/\Hd (∀x∈xs.take k,cj x.name name=false)/\Hd (aq w wr));case atStart=>exact⟨0,Qbf _,rfl,rfl,by {have h:∀x∈xs.take 0,cj x.name name=false:=(by simp);exact h},by exact(Qbg _ w)⟩
 case round=>
  obtain⟨k,hk,rfl,rfl,HT,HB⟩:=hrel;by_cases bu:k<n
  .obtain⟨b,off,rfl,wh,cR,aL⟩:=HC.o (by omega);obtain⟨x,hx⟩:=eB xs k (by rw[HN.o];exact bu);obtain⟨cs,bV,bJ⟩:=aL k x hx;have l8:∀(j:Nat)(u:an),cs[j]? =some u->bt wr b (off+k*4+j) u:=λj u hu=>(HB.o.cell (p:=⟨b,off+k*4+j,none⟩) cR).trans (bJ j u hu);have pI:cs=[xS x.name,xI x.type.kind,xI x.type.of,xB x.indexed]:=bV.1;subst pI;have g0:bt wr b (off+k*4) (xS x.name):=l8 0 _ rfl;have g1:=l8 1 _ rfl;have g2:=l8 2 _ rfl;have g3:=l8 3 _ rfl;have bK:=C5 x name p wr ((HB.o.cell (p:=⟨p,0,none⟩) ij).trans HP.o) (Qde ij HB.o.size);have HX:=af hx;cases hq:cj x.name name
   .rw[hq]at bK;have br:=af bK;have HQ:=af hq;go_wp2_with fail;refine br.o.mono ?_;rintro e w1⟨rfl,aF⟩;have aY:Hd (aq w w1):=HB.o.trans (aF.mono HB.o.size);go_wp2;go_roundg(n-(k+1));case measure=>omega
    case rel=>exact⟨k+1,by omega,rfl,by go_num,by {have h:∀y∈xs.take (k+1),cj y.name name=false:=λy hy=>by {rw[Qbb,HX.o]at hy;simp at hy;rcases hy with h|h;exact HT.o y h;subst h;exact HQ.o};exact h},aY⟩
   .rw[hq]at bK;have br:=af bK;have HQ:=af hq;go_wp2_with fail;refine br.o.mono ?_;rintro e w1⟨rfl,aF⟩;have aY:Hd (aq w w1):=HB.o.trans (aF.mono HB.o.size);go_wp2;go_ret;exact⟨iN (idxOf_hit (p:=λf=>cj f.name name) HT.o HX.o HQ.o).symm,aY.o⟩
  .go_wp2;go_ret;have h:=HT.o;rw[Qah (by rw[HN.o];omega)]at h;exact⟨iN (ng (p:=λf:az=>cj f.name name) h).symm,HB.o⟩
variable{c:ax}{v:an}{M:aN}
def Gl(h:ct M w v c):∃fv,v= .agg #[xS c.name,fv]/\ab M w fv c.fields/\c.name.size<=maxLen:=by
 obtain⟨cs,rfl,fv,rfl,h1,h2⟩:=h;exact⟨fv,rfl,h1,h2⟩
def fieldAt(c:ax)(name:aM):Int:=idxOf (λf:az=>cj f.name name) c.fields
def rH {α:Type}(p:α->Bool)(xs:List α): -1<=idxOf p xs:=by unfold idxOf;split<;>omega
def wC {α:Type}(p:α->Bool)(xs:List α):idxOf p xs<xs.length\/idxOf p xs= -1:=by
 unfold idxOf;cases h:xs.findIdx? p with
 |none=>exact .inr rfl
 |some i=>exact .inl (by have:=(List.findIdx?_eq_some_iff_getElem.1 h).1;simp;omega)
def K7(M:Nat->Prop)(v:Value)(w:World)(c:ax)(name:ByteArray)(h:ct M w v c):
 xC 107 #[v,xS name] w (cr (.tuple #[xI (if fieldAt c name<0 then 0 else fieldAt c name),xB (!decide (fieldAt c name<0))]) w):=by
 obtain⟨fv,rfl,hs,_⟩:=Gl h;obtain⟨a,cap,rfl,_⟩:=hs.open_;obtain⟨u,hu⟩:=bS ((w.alloc (xK #[xS c.name,xL a c.fields.length cap] 47)).alloc (xK #[xS name] 9));have hbu:aq w u:=by rw[hu];exact bM.alloc (by simp) _
 have hpu:u.heap[w.heap.size+1]? =some (xK #[xS name] 9):=by
  rw[hu];have:=Qbh (w.alloc (xK #[xS c.name,xL a c.fields.length cap] 47)) (xK #[xS name] 9);simpa using this
 have bK:=wB M _ u c.fields name (w.heap.size+1) (hs.below hbu) (by simp[World.cell?,hpu]) ((Qaa.1 hpu).1);have e0:fieldAt c name=idxOf (λf=>cj f.name name) c.fields:=rfl;rw[<-e0]at bK;have br:=af bK;have HBU:=af hbu;rw[hu]at br;have HU:=af hu;clear bK hbu hpu hu e0 hs;by_cases hn:fieldAt c name<0
 .rw[if_pos hn,decide_eq_true hn];generalize fieldAt c name=at_ at*;generalize c.fields.length=n at*;go_enter func107,ntmps107;go_wp2_with fail;refine br.o.mono ?_;rintro e w1⟨rfl,aF⟩;rw[<-HU.o]at aF;have aY:Hd (aq w w1):=HBU.o.trans (aF.mono HBU.o.size);clear aF;go_wp2;go_ret2;exact⟨rfl,aY.o⟩
 .rw[if_neg hn,decide_eq_false hn];generalize fieldAt c name=at_ at*;generalize c.fields.length=n at*;go_enter func107,ntmps107;go_wp2_with fail;refine br.o.mono ?_;rintro e w1⟨rfl,aF⟩;rw[<-HU.o]at aF;have aY:Hd (aq w w1):=HBU.o.trans (aF.mono HBU.o.size);clear aF;go_wp2;go_ret2;exact⟨rfl,aY.o⟩
def rI(c:ax)(k:Nat):Prop:=∀(j:Nat)(f:az),j<k->c.fields[j]? =some f->bH f=true/\fieldAt c f.name=j
def aP(c:ax):Bool:=aB c.name&&decide (c.fields.length<=8)&&(List.range c.fields.length).all λk=>match c.fields[k]? with|some f=>bH f&&decide (fieldAt c f.name=k)|none=>true
def bo(c:ax):aP c=true↔aB c.name=true/\c.fields.length<=8/\rI c c.fields.length:=by
 unfold aP rI;simp only[Qce,decide_eq_true_eq,List.all_eq_true,List.mem_range,and_assoc];refine and_congr Iff.rfl (and_congr Iff.rfl ⟨λh j f hj hf=> ?_,λh j hj=> ?_⟩)
 .have:=h j hj;rw[hf]at this;simpa using this
 .cases hf:c.fields[j]? with
  |none=>rfl
  |some f=>simpa using h j f hj hf
def wD(h:aB c.name=false):aP c=false:=by
 cases h2:aP c;rfl;have:=((bo c).1 h2).1;rw[h]at this;cases this
def wE(h:8<c.fields.length):aP c=false:=by
 cases h2:aP c;rfl;have:=((bo c).1 h2).2.1;omega
variable{f:az}
def oG(hf:c.fields[k]? =some f)(h:¬(bH f=true/\fieldAt c f.name=k)):aP c=false:=by
 cases h2:aP c;rfl;exact absurd (((bo c).1 h2).2.2 k f (Qad.1 hf).1 hf) h
def Gm(c:ax)(s:aM): -1<=fieldAt c s:=rH _ _
def wF(c:ax)(s:aM):fieldAt c s<c.fields.length:=by
 rcases wC (λf:az=>cj f.name s) c.fields with h|h
 .exact h
 .unfold fieldAt;rw[h];omega
def uL(hf:c.fields[k]? =some f):0<=fieldAt c f.name:=by
 unfold fieldAt idxOf;cases h:c.fields.findIdx? (λg=>cj g.name f.name)with
 |some i=>simp
 |none=>
  have:=List.findIdx?_eq_none_iff.1 h f (Qaf hf);simp[cj]at this
def mh(M:aN)(fv:an)(w:aj)(c:ax)(name:aM)(at_:Int)(is:Bool)(h:ab M w fv c.fields)(hn:c.name.size<=maxLen)(ha:(if fieldAt c name<0 then 0 else fieldAt c name)=at_)(hi:(!decide (fieldAt c name<0))=is):
 xC 107 #[.agg #[xS c.name,fv],xS name] w (cr (.tuple #[xI at_,xB is]) w):=by
 subst ha hi;exact K7 M _ w c name ⟨_,rfl,fv,rfl,h,hn⟩
def lN(b:Bool)(f:az)(w:aj)(hs:f.name.size<=maxLen)(hb:bH f=b):
 xC 106 #[.agg #[xS f.name,xI f.type.kind,xI f.type.of,xB f.indexed]] w (cr (xB b) w):=by subst hb;exact wA f w hs
def fX(M:aN)(fv:an)(w:aj)(c:ax)(hs:ab M w fv c.fields)(mW:c.name.size<=maxLen):
 xC 45 #[.agg #[xS c.name,fv]] w (cr (xB (aP c)) w):=by
 have HS:=af hs;have tl:=af mW;obtain⟨a,bQ,rfl,cV,hm,hc⟩:=hs.open_;have HC:=af hc;generalize hn:c.fields.length=n at*;have HN:=af hn;cases h1:aB c.name
 .have H1:=af h1;go_enter func45,ntmps45;go_wp2_with fail;refine cT (fC false _ _ H1.o tl.o) ?_;go_wp2;go_ret;exact⟨bz (wD H1.o).symm,bM⟩
 .have H1:=af h1;by_cases h8:8<n
  .go_enter func45,ntmps45;go_wp2_with fail;refine cT (fC true _ _ H1.o tl.o) ?_;go_wp2;go_ret;exact⟨bz (wE (by rw[HN.o];exact h8)).symm,bM⟩
  .go_enter func45,ntmps45;go_wp2_with fail;refine cT (fC true _ _ H1.o tl.o) ?_;go_wp2;go_loopg [2,3,4,5,6,20]n(λg r _ _ _ _ iv wr=>∃k:Nat,k<=n/\g=n-k/\iv=xI k/\r=xB false/\Hd (rI c k)/\Hd (aq w wr)/\di wr w (xK #[xS c.name,xL a n bQ] 47));case atStart=>exact⟨0,Qbf _,rfl,rfl,rfl,(λj f h=>absurd h (Nat.not_lt_zero _)),by exact bM,Qbh _ _⟩
   case round=>
    obtain⟨k,hk,rfl,rfl,rfl,HT,HB,uz⟩:=hrel;have hsz:w.heap.size<wr.heap.size:=(Qaa.1 uz).1;obtain⟨g0,g1⟩:=ah uz;have Nb:=af uz;by_cases bu:k<n
    .obtain⟨b,off,rfl,wh,cR,aL⟩:=HC.o (by omega);obtain⟨x,hx⟩:=eB c.fields k (by rw[HN.o];exact bu);obtain⟨cs,bV,bJ⟩:=aL k x hx;have l8:∀(j:Nat)(u:an),cs[j]? =some u->bt wr b (off+k*4+j) u:=λj u hu=>(HB.o.cell (p:=⟨b,off+k*4+j,none⟩) cR).trans (bJ j u hu);obtain⟨rfl,mX⟩:=bV;have q0:bt wr b (off+k*4) (xS x.name):=l8 0 _ rfl;have q1:=l8 1 _ rfl;have q2:=l8 2 _ rfl;have q3:=l8 3 _ rfl;have HX:=af hx;have CK:=af mX;have y9:b≠w.heap.size:=by omega
     have qgj:=Gm c x.name;have qgk:=wF c x.name;have qgl:=uL HX.o;have Yd:¬fieldAt c x.name<0:=by omega
     have uA:Hd ((if fieldAt c x.name<0 then 0 else fieldAt c x.name)=fieldAt c x.name):=if_neg Yd;have Un:=af (show(!decide (fieldAt c x.name<0))=true by rw[decide_eq_false Yd];rfl);cases hr:bH x
     .have HR:=af hr;go_wp2_with fail;refine bY (lN false x _ CK.o HR.o) λw1 aF=> ?_;have aY:=af aF;go_wp2;go_ret;exact⟨bz (oG HX.o (by rw[HR.o];simp)).symm,HB.o.trans ((aU aY.o).mono (by have:=HB.o.size;omega))⟩
     .have HR:=af hr;by_cases hq:fieldAt c x.name=k
      .have HQ:=af hq;go_wp2_with fail;refine bY (lN true x _ CK.o HR.o) λw1 aF=> ?_;have s1:w.heap.size<w1.heap.size:=by have:=aF.size;simp at this;omega
       obtain⟨p0,p1,p2,p3⟩:=ae (boxed aF);obtain⟨p4,p5⟩:=ah ((aF.block w.heap.size (by simp;omega)).trans ((Qcb wr _ w.heap.size (by omega)).trans Nb.o));have aY:Hd (aq w w1):=HB.o.trans ((aU aF).mono (by have:=HB.o.size;omega));have bW:Hd (di w1 w (xK #[xS c.name,xL (some ⟨b,off,none⟩) n bQ] 47)):=((aF.block w.heap.size (by simp;omega)).trans ((Qcb wr _ w.heap.size (by omega)).trans Nb.o));have bK:=mh M _ w1 c x.name _ _ (HS.o.below aY.o) tl.o uA.o Un.o;have br:=af bK;go_wp2_with fail;refine br.o.mono ?_;rintro e w2⟨rfl,bC⟩;have aQ:=af bC;have hqb:((fieldAt c x.name)!=(k:Int))=false:=by simpa using HQ.o
       go_wp2;go_roundg(n-(k+1));case measure=>omega
       case rel=>
        refine⟨k+1,by omega,rfl,by go_num,rfl,?_,?_,?_⟩
        .have h:rI c (k+1):=λj f hj hf=>by
          by_cases hjk:j<k
          .exact HT.o j f hjk hf
          .obtain rfl:j=k:=by omega
           rw[HX.o]at hf;cases hf;exact⟨HR.o,HQ.o⟩
         exact h
        .have h:aq w w2:=aY.o.trans (aQ.o.mono (by omega));exact h
        .exact(aQ.o.block _ s1).trans bW.o
      .have HQ:=af hq;have hqb:((fieldAt c x.name)!=(k:Int))=true:=by simpa using hq
       go_wp2_with fail;refine bY (lN true x _ CK.o HR.o) λw1 aF=> ?_;have s1:w.heap.size<w1.heap.size:=by have:=aF.size;simp at this;omega
       obtain⟨p0,p1,p2,p3⟩:=ae (boxed aF);obtain⟨p4,p5⟩:=ah ((aF.block w.heap.size (by simp;omega)).trans ((Qcb wr _ w.heap.size (by omega)).trans Nb.o));have aY:Hd (aq w w1):=HB.o.trans ((aU aF).mono (by have:=HB.o.size;omega));have bK:=mh M _ w1 c x.name _ _ (HS.o.below aY.o) tl.o uA.o Un.o;have br:=af bK;go_wp2_with fail;refine br.o.mono ?_;rintro e w2⟨rfl,bC⟩;have aQ:=af bC;go_wp2;go_ret;exact⟨bz (oG HX.o (λh=>HQ.o h.2)).symm,aY.o.trans (aQ.o.mono (by omega))⟩
    .go_wp2;go_ret;refine⟨bz ?_,HB.o⟩;have Nc:k=n:=by omega
     exact((bo c).2 ⟨H1.o,by rw[HN.o];omega,by rw[HN.o];have h:=HT.o;rw[Nc]at h;exact h⟩).symm
def R7 {c:UInt8}(hc:s.data.toList[k]? =some c)(hn:bA c.toNat=false):aB s=false:=by
 have hm:c∈s.data.toList:=Qaf hc;have ha:(s.data.toList.all λc=>bA c.toNat)=false:=by
  rw[List.all_eq_false];exact⟨c,hm,by simp[hn]⟩
 unfold aB;cases hl:s.data.toList with
 |nil=>simp
 |cons a r=>rw[hl]at ha;simp only[ha,Bool.and_false]
def N3 {c:UInt8}(hc:s.data.toList[0]? =some c)(hn:eu c.toNat=false):aB s=false:=by
 unfold aB;cases hl:s.data.toList with
 |nil=>simp
 |cons a r=>rw[hl]at hc;simp at hc;subst hc;simp[hn]
def N4(h1:1<=s.size)(h2:s.size<=20)(ha:s.data.toList.all (λc=>bA c.toNat)=true)(h0:∀c,s.data.toList[0]? =some c->eu c.toNat=true):aB s=true:=by
 unfold aB;cases hl:s.data.toList with
 |nil=>have:=bq s;rw[hl]at this;simp at this;omega
 |cons a r=>
  rw[hl]at ha;have:=h0 a (by rw[hl];rfl);simp only[ha,this,Bool.and_true,Qce,decide_eq_true_eq];exact⟨h1,h2⟩
def tL(s:aM)(k:Nat):Prop:=(s.data.toList.take k).all (λc=>bA c.toNat)=true/\(0<k->∀c,s.data.toList[0]? =some c->eu c.toNat=true)
theorem tL.succ {c:UInt8}(h:tL s k)(hk:k<s.size)(hc:s.data.toList[k]? =some c)(hn:bA c.toNat=true)(h0:k=0->eu c.toNat=true):tL s (k+1):=by
 refine⟨?_,λ_ d hd=> ?_⟩
 .rw[Qbb,hc,List.all_append,h.1];simp[hn]
 .by_cases Kv:k=0
  .subst Kv;rw[hc]at hd;cases hd;exact h0 rfl
  .exact h.2 (by omega) d hd
def C6(s:aM)(w:aj)(hs:s.size<=maxLen):
 xC 274 #[xS s] w (ji (xB (aB s)) w):=by
 unfold maxLen at hs;by_cases h1:s.size<1
 .go_enter func274,ntmps274;go_wp2;go_ret;exact⟨bz (by simp[aB];omega),rfl⟩
 .by_cases h2:20<s.size
  .go_enter func274,ntmps274;go_wp2;go_ret;exact⟨bz (by simp[aB];omega),rfl⟩
  .go_enter func274,ntmps274;go_wp2;go_loopg [2,3,4,5]s.size(λg r iv _ _ wr=>∃k:Nat,k<=s.size/\g=s.size-k/\iv=xI k/\r=xB false/\Hd (tL s k)/\w=wr);case atStart=>exact⟨0,Qbf _,rfl,rfl,rfl,by {have h:tL s 0:=⟨rfl,λh=>absurd h (Nat.lt_irrefl _)⟩;exact h},rfl⟩
   case round=>
    obtain⟨k,hk,rfl,rfl,rfl,HT,rfl⟩:=hrel;by_cases bu:k<s.size
    .obtain⟨c,hc⟩:=jO (s[k]);have Fm:(c.toNat:Int)<=255:=by have:=c.toNat_lt;omega
     have mP:Hd (s.data.toList[k]? =some c):=(dk s k bu).trans (congrArg some hc);have hkz:(k:Int)<s.size:=by omega
     by_cases hl:97<=(c.toNat:Int)/\(c.toNat:Int)<=122
     .obtain⟨Ct,Bh⟩:=hl;have HS:=af (show eu c.toNat=true by simp[eu];omega);have a1:48<=(c.toNat:Int):=by omega
      have a2:¬(c.toNat:Int)<=57:=by omega
      have a3:((c.toNat:Int)==95)=false:=by simp;omega
      go_wp2;go_roundg(s.size-(k+1));case measure=>omega
      case rel=>exact⟨k+1,by omega,rfl,by go_num,rfl,HT.o.succ bu mP.o (by simp[bA,HS.o]) (λ_=>HS.o),rfl⟩
     .have HS:=af (show eu c.toNat=false by simp[eu];omega);have b1:(decide (97<=(c.toNat:Int))&&decide ((c.toNat:Int)<=122))=false:=by simp;omega
      by_cases h0:k=0
      .subst h0;have HR:=af (N3 mP.o HS.o);by_cases q1:97<=(c.toNat:Int)
       .have q2:¬(c.toNat:Int)<=122:=by simp at b1;omega
        go_wp2_with fail;all_goals(go_ret;exact⟨bz HR.o.symm,rfl⟩)
       .clear b1;go_wp2_with fail;all_goals(go_ret;exact⟨bz HR.o.symm,rfl⟩)
      .have Kv:((k:Int)==0)=false:=by simp;omega
       have K0:=af h0;by_cases ho:(48<=(c.toNat:Int)/\(c.toNat:Int)<=57)\/(c.toNat:Int)=95
       .have HN:=af (show bA c.toNat=true by simp only[bA,HS.o,Bool.false_or,Bool.or_eq_true,decide_eq_true_eq];omega);have pH:Hd (tL s (k+1)):=HT.o.succ bu mP.o HN.o (λh=>absurd h K0.o);have q1:¬97<=(c.toNat:Int):=by omega
        by_cases h95:(c.toNat:Int)=95
        .have a1:48<=(c.toNat:Int):=by omega
         have a2:¬(c.toNat:Int)<=57:=by omega
         have a3:((c.toNat:Int)==95)=true:=by simpa using h95
         go_wp2;go_roundg(s.size-(k+1));case measure=>omega
         case rel=>exact⟨k+1,by omega,rfl,by go_num,rfl,pH,rfl⟩
        .have a1:48<=(c.toNat:Int):=by omega
         have a2:(c.toNat:Int)<=57:=by omega
         go_wp2;go_roundg(s.size-(k+1));case measure=>omega
         case rel=>exact⟨k+1,by omega,rfl,by go_num,rfl,pH,rfl⟩
       .have HN:=af (show bA c.toNat=false by simp only[bA,HS.o,Bool.false_or,Bool.or_eq_false_iff,decide_eq_false_iff_not];omega);have HR:=af (R7 mP.o HN.o);have a3:((c.toNat:Int)==95)=false:=by simp;omega
        by_cases q1:97<=(c.toNat:Int)
        .have q2:¬(c.toNat:Int)<=122:=by omega
         have a1:48<=(c.toNat:Int):=by omega
         have a2:¬(c.toNat:Int)<=57:=by omega
         go_wp2_with fail;all_goals(go_ret;exact⟨bz HR.o.symm,rfl⟩)
        .by_cases a1:48<=(c.toNat:Int)
         .have a2:¬(c.toNat:Int)<=57:=by omega
          go_wp2_with fail;all_goals(go_ret;exact⟨bz HR.o.symm,rfl⟩)
         .clear ho hl;go_wp2_with fail;all_goals(go_ret;exact⟨bz HR.o.symm,rfl⟩)
    .go_wp2;go_ret;have h:=HT.o;have hk:k=s.size:=by omega
     refine⟨bz (N4 (by omega) (by omega) ?_ (h.2 (by omega))).symm,rfl⟩;have h3:=h.1;rw[Qah (by rw[bq];omega)]at h3;exact h3
def il(k:Int):Bool:=decide (1<=k/\k<=4)
def Gn(k:Int)(w:aj):xC 316 #[xI k] w (ji (xB (il k)) w):=by
 by_cases h1:1<=k
 .by_cases h2:k<=4
  .go_enter func316,ntmps316;go_wp2;go_ret;exact⟨bz (by simp[il,h1,h2]),rfl⟩
  .go_enter func316,ntmps316;go_wp2;go_ret;exact⟨bz (by simp[il];omega),rfl⟩
 .go_enter func316,ntmps316;go_wp2;go_ret;exact⟨bz (by simp[il];omega),rfl⟩
def jl(b:Bool)(k:Int)(w:aj)(hb:il k=b):xC 316 #[xI k] w (ji (xB b) w):=by subst hb;exact Gn k w
def tM(t:aT)(w:aj):
 xC 275 #[.agg #[xI t.kind,xI t.of]] w (cr (xB (aG t)) w):=by
 obtain⟨k,o⟩:=t;cases h1:il k
 .have H1:=af h1;clear h1;by_cases hk:k=5
  .have Yb:(k==5)=true:=by simpa using hk
   have HK:=af hk;clear hk;cases h2:il o
   .have H2:=af h2;clear h2;go_enter func275,ntmps275;go_wp2_with(first|(go_at_call 316;((with_reducible refine(jl false k _ H1.o).mono ?_);rintro e w'⟨rfl,rfl⟩))|(go_at_call 316;((with_reducible refine(jl false o _ H2.o).mono ?_);rintro e w'⟨rfl,rfl⟩)));go_ret;refine⟨bz ?_,bM⟩;have h:=H2.o;have h3:=HK.o;subst h3;simp[aG,il]at h⊢;exact h
   .have H2:=af h2;clear h2;go_enter func275,ntmps275;go_wp2_with(first|(go_at_call 316;((with_reducible refine(jl false k _ H1.o).mono ?_);rintro e w'⟨rfl,rfl⟩))|(go_at_call 316;((with_reducible refine(jl true o _ H2.o).mono ?_);rintro e w'⟨rfl,rfl⟩)));go_ret;refine⟨bz ?_,bM⟩;have h:=H2.o;have h3:=HK.o;subst h3;simp[aG,il]at h⊢;exact h
  .have Yb:(k==5)=false:=by simpa using hk
   have HK:=af hk;clear hk;go_enter func275,ntmps275;go_wp2_with(go_at_call 316;((with_reducible refine(jl false k _ H1.o).mono ?_);rintro e w'⟨rfl,rfl⟩));go_ret;refine⟨bz ?_,bM⟩;have h:=H1.o;simp[aG,il,HK.o]at h⊢;omega
 .have H1:=af h1;clear h1;have HK:=af (show k≠5 by have:=H1.o;simp[il]at this;omega);have Yb:(k==5)=false:=by simpa using HK.o
  by_cases ho:o=0
  .have zb:(o==0)=true:=by simpa using ho
   have HO:=af ho;clear ho;go_enter func275,ntmps275;go_wp2_with(go_at_call 316;((with_reducible refine(jl true k _ H1.o).mono ?_);rintro e w'⟨rfl,rfl⟩));go_ret;refine⟨bz ?_,bM⟩;have h:=H1.o;simp[aG,il,HK.o,HO.o]at h⊢;exact h
  .have zb:(o==0)=false:=by simpa using ho
   have HO:=af ho;clear ho;go_enter func275,ntmps275;go_wp2_with(go_at_call 316;((with_reducible refine(jl true k _ H1.o).mono ?_);rintro e w'⟨rfl,rfl⟩));go_ret;refine⟨bz ?_,bM⟩;simp[aG,HK.o,HO.o]
def wG {a b:Int}{c d:Bool}(h:a=b)(k:c=d):Ending.returned (.tuple #[xI a,xB c])=xR (.tuple #[xI b,xB d]):=by rw[h,k]
def Bs(M:aN)(fv:an)(w:aj)(c:ax)(name:aM)(hs:ab M w fv c.fields)(at_:Int)(is:Bool)(HA:Hd ((if fieldAt c name<0 then 0 else fieldAt c name)=at_))(HI:Hd ((!decide (fieldAt c name<0))=is)):
 xC 118 #[.agg #[xS c.name,fv],xS name] w (cr (.tuple #[xI at_,xB is]) w):=by
 obtain⟨a,bQ,rfl,cV,hm,hc⟩:=hs.open_;have HC:=af hc;generalize hn:c.fields.length=n at*;have HN:=af hn;go_enter func118,ntmps118;go_wp2;go_loopg [4,5,6]n(λg r0 r1 iv wr=>∃k:Nat,k<=n/\g=n-k/\iv=xI k/\r0=xI 0/\r1=xB false/\Hd (∀x∈c.fields.take k,cj x.name name=false)/\wr=w.alloc (xK #[xS c.name,xL a n bQ] 47));case atStart=>exact⟨0,Qbf _,rfl,rfl,rfl,rfl,by {have h:∀x∈c.fields.take 0,cj x.name name=false:=(by simp);exact h},rfl⟩
 case round=>
  obtain⟨k,hk,rfl,rfl,rfl,rfl,HT,rfl⟩:=hrel;by_cases bu:k<n
  .obtain⟨b,off,rfl,wh,cR,aL⟩:=HC.o (by omega);obtain⟨x,hx⟩:=eB c.fields k (by rw[HN.o];exact bu);obtain⟨cs,⟨rfl,mX⟩,bJ⟩:=aL k x hx;have q0:bt w b (off+k*4) (xS x.name):=bJ 0 _ rfl;have y9:b≠w.heap.size:=by omega
   have HX:=af hx;cases hq:cj x.name name
   .have hq':(x.name.toList==name.toList)=false:=hq;have HQ:=af hq;go_wp2;go_roundg(n-(k+1));case measure=>omega
    case rel=>exact⟨k+1,by omega,rfl,by go_num,rfl,rfl,by {have h:∀y∈c.fields.take (k+1),cj y.name name=false:=λy hy=>by {rw[Qbb,HX.o]at hy;simp at hy;rcases hy with h|h;exact HT.o y h;subst h;exact HQ.o};exact h},rfl⟩
   .have hq':(x.name.toList==name.toList)=true:=hq;have HJ:Hd (fieldAt c name=k):=idxOf_hit (p:=λf:az=>cj f.name name) HT.o HX.o hq;go_wp2;go_ret2;exact⟨wG (by rw[<-HA.o,HJ.o,if_neg (by omega)]) (by rw[<-HI.o,HJ.o,decide_eq_false (by omega)];rfl),bM⟩
  .go_wp2;go_ret2;have h:=HT.o;rw[Qah (by rw[HN.o];omega)]at h;have e0:fieldAt c name= -1:=ng (p:=λf:az=>cj f.name name) h;exact⟨wG (by rw[<-HA.o,e0];rfl) (by rw[<-HI.o,e0];rfl),bM⟩
def lu(M:aN)(fv:an)(w:aj)(c:ax)(name:aM)(at_:Int)(is:Bool)(h:ab M w fv c.fields)(ha:(if fieldAt c name<0 then 0 else fieldAt c name)=at_)(hi:(!decide (fieldAt c name<0))=is):
 xC 118 #[.agg #[xS c.name,fv],xS name] w (cr (.tuple #[xI at_,xB is]) w):=by
 exact Bs M _ w c name h at_ is ha hi
def fY(b:Bool)(s:aM)(w:aj)(hb:aB s=b)(hs:s.size<=maxLen):
 xC 274 #[xS s] w (ji (xB b) w):=by subst hb;exact C6 s w hs
def nN(b:Bool)(t:aT)(w:aj)(hb:aG t=b):
 xC 275 #[.agg #[xI t.kind,xI t.of]] w (cr (xB b) w):=by subst hb;exact tM t w
variable{j:Nat}
def Bt {α:Type}{p:α->Bool}{xs:List α}{y:α}(h:idxOf p xs=k)(hj:j<k)(hy:xs[j]? =some y):p y=false:=by
 unfold idxOf at h;cases hf:xs.findIdx? p with
 |none=>rw[hf]at h;simp at h
 |some i=>
  rw[hf]at h;have hi:i=k:=by simp at h;omega
  subst hi;obtain⟨_,_,h3⟩:=List.findIdx?_eq_some_iff_getElem.1 hf;have h4:=h3 j hj;rw[(Qad.1 hy).2]at h4;simpa using h4
def ku(M:aN)(fv:an)(w:aj)(c:ax)(hs:ab M w fv c.fields)(mW:c.name.size<=maxLen)(hr:aP c=true):
 xC 241 #[.agg #[xS c.name,fv]] w (cr (xB true) w):=by
 obtain⟨h1,h8,zd⟩:=(bo c).1 hr;obtain⟨a,bQ,rfl,cV,hm,hc⟩:=hs.open_;have HC:=af hc;have tl:=af mW;have H1:=af h1;have Wf:=af zd;generalize hn:c.fields.length=n at*;have HN:=af hn;go_enter func241,ntmps241;go_wp2_with fail;refine cT (fY true _ _ H1.o tl.o) ?_;have Kw:¬8<n:=by omega
 go_wp2;go_loopg [2,3,4,5]n(λg r iv _ _ wr=>∃k:Nat,k<=n/\g=n-k/\iv=xI k/\r=xB false/\Hd (aq w wr)/\di wr w (xK #[xS c.name,xL a n bQ] 47));case atStart=>exact⟨0,Qbf _,rfl,rfl,rfl,by exact bM,Qbh _ _⟩
 case round=>
  obtain⟨k,hk,rfl,rfl,rfl,HB,uz⟩:=hrel;obtain⟨wo,rfl⟩:=bS (wr);have hsz:w.heap.size<wo.heap.size:=(Qaa.1 uz).1;obtain⟨g0,g1⟩:=ah uz;have Nb:=af uz;by_cases bu:k<n
  .obtain⟨b,off,rfl,wh,cR,aL⟩:=HC.o (by omega);obtain⟨x,hx⟩:=eB c.fields k (by rw[HN.o];exact bu);obtain⟨cs,bV,bJ⟩:=aL k x hx;have l8:∀(j:Nat)(u:an),cs[j]? =some u->bt wo b (off+k*4+j) u:=λj u hu=>(HB.o.cell (p:=⟨b,off+k*4+j,none⟩) cR).trans (bJ j u hu);obtain⟨rfl,mX⟩:=bV;have q0:bt wo b (off+k*4) (xS x.name):=l8 0 _ rfl;have q1:=l8 1 _ rfl;have q2:=l8 2 _ rfl;have q3:=l8 3 _ rfl;have y9:b≠w.heap.size:=by omega
   obtain⟨hrf,ru⟩:=Wf.o k x (by omega) hx;have Wg:=hrf;unfold bH at Wg;simp only[Qce]at Wg;obtain⟨⟨RA,Nd⟩,hx3⟩:=Wg;have ZY:=af aL;have HX:=af hx;have CK:=af mX;have uA:=af ru;have fL:=af RA;have fU:=af Nd;obtain⟨xn,⟨xk,xo⟩,xi⟩:=x;have Uo:xi=false\/¬3<xk:=by simp at hx3;rcases hx3 with h|h;exact .inl h;exact .inr (by omega)
   go_wp2_with fail;refine cT (fY true _ _ fL.o CK.o) ?_;go_wp2_with fail;refine bY (nN true ⟨xk,xo⟩ _ fU.o) λw1 aF=> ?_;have s1:w.heap.size<w1.heap.size/\wo.heap.size<w1.heap.size:=by have:=aF.size;simp at this;omega
   obtain⟨s1,s2⟩:=s1;have qc9:Hd (di w1 wo (xK #[xS xn,xI xk,xI xo,xB xi] 60)):=boxed aF;obtain⟨p0,p1,p2,p3⟩:=ae qc9.o;have bW:Hd (di w1 w (xK #[xS c.name,xL (some ⟨b,off,none⟩) n bQ] 47)):=((aF.block w.heap.size (by simp;omega)).trans ((Qcb wo _ w.heap.size (by omega)).trans Nb.o));obtain⟨p4,p5⟩:=ah bW.o;have aY:Hd (aq w w1):=HB.o.trans ((aU aF).mono (by have:=HB.o.size;omega));rcases Uo with rfl|Uo;all_goals try cases xi
   all_goals
    go_wp2;go_loopg [2,5]k(λg r jv wr=>∃j:Nat,j<=k/\g=k-j/\jv=xI j/\r=xB false/\∃q,wr=w1.drewN q);case atStart=>exact⟨0,Qbf _,rfl,rfl,rfl,0,rfl⟩
    case round=>
     obtain⟨j,hj,rfl,rfl,rfl,q,rfl⟩:=hrel;by_cases hjk:j<k
     .obtain⟨y,hy⟩:=eB c.fields j (by rw[HN.o];omega);obtain⟨cs,⟨rfl,_⟩,bJ⟩:=ZY.o j y hy;have y0:bt w1 b (off+j*4) (xS y.name):=(aY.o.cell (p:=⟨b,off+j*4,none⟩) cR).trans (bJ 0 _ rfl);have hyq:(y.name.toList==xn.toList)=false:=Bt (p:=λf:az=>cj f.name xn) uA.o hjk hy;have hjn:(j:Int)<n:=by omega
      go_wp2_with fail;go_quiet(fail);go_wp2;go_roundg(k-(j+1));case measure=>omega
      case rel=>exact⟨j+1,by omega,rfl,by go_num,rfl,_,rfl⟩
     .go_wp2;go_roundg(n-(k+1));case measure=>omega
      case rel=>exact⟨k+1,by omega,rfl,by go_num,rfl,by {have h:aq w (w1.drewN q):=aY.o.trans ⟨rfl,rfl,rfl,bN,λ_ _=>rfl⟩;exact h},bW.o⟩
  .go_wp2;go_ret;exact⟨rfl,HB.o⟩
structure Tok where
 kind:Nat
 n:Nat
 s:List UInt8
 at_:Nat
 deriving DecidableEq
def nO(c:UInt8):Bool:=decide (48<=c)&&decide (c<=57)
def qJ(c:UInt8):Bool:=decide (97<=c)&&decide (c<=122)
def dm(c:UInt8):Bool:=qJ c||nO c||c==95
def eY(c:UInt8):Bool:=c !=34&&c !=92
def qK(l:List UInt8):Bool:=decide (1<=l.length)&&decide (l.length<=20)&&(match l with|[]=>false|c::_=>qJ c)&&l.all dm
def jP(l:List UInt8):Bool:=decide (l.length<=60)&&l.all λc=>decide (32<=c)&&decide (c<127)
def rJ:List UInt8->Bool
 |d::_=>nO d
 |[]=>false
def rK:List UInt8->Option ((Nat×Nat×List UInt8)×Nat)
 |[]=>none
 |c::r=>
  if nO c then(if rJ r then none else some ((1,c.toNat-48,[]),1))
  else if qJ c then(if qK ((c::r).takeWhile dm)then some ((3,0,(c::r).takeWhile dm),((c::r).takeWhile dm).length)else none)
  else if c=34 then(match r.drop (r.takeWhile eY).length with
   |34::_=>if jP (r.takeWhile eY)then some ((2,0,r.takeWhile eY),(r.takeWhile eY).length+2)else none
   |_=>none)
  else if [38,43,45,42,47,37,40,41,44,61].contains c then some ((4,0,[c]),1)
  else if c=62/\r.head?≠some 61 then some ((4,0,[c]),1)
  else none
def eH:Nat->List UInt8->Nat->Option (List Tok)
 |_,[],_=>some []
 |0,_::_,_=>none
 |k+1,c::r,i=>
  if c=32 then eH k r (i+1)
  else match rK (c::r)with
   |none=>none
   |some ((kd,n,s),size)=>if size=0 then none else(eH k ((c::r).drop size) (i+size)).map λts=>⟨kd,n,s,i⟩::ts
def cB(s:List UInt8):Nat:=
 if s=[42]\/s=[47]\/s=[37]then 4 else if s=[43]\/s=[45]then 3 else if s=[38]then 2 else if s=[61]\/s=[62]then 1 else 0
def dB(s:List UInt8):Nat:=
 if s=[108,101,110]\/s=[116,101,120,116]\/s=[110,117,109]then 1
 else if s=[108,101,102,116]\/s=[114,105,103,104,116]\/s=[102,114,111,109]\/s=[102,105,110,100]\/s=[109,105,110]\/s=[109,97,120]then 2
 else if s=[105,102]then 3 else 0
def bL(l:List UInt8):aM:=⟨l.toArray⟩
def dT(ts:List Tok)(s:List UInt8):Bool:=match ts with|t::_=>t.kind==4&&t.s==s|[]=>false
mutual
def jb:Nat->Nat->List Tok->Option (aw×List Tok)
 |0,_,_=>none
 |k+1,least,ts=>match jm k ts with
  |none=>none
  |some (e,r)=>nP k least e r
def nP:Nat->Nat->aw->List Tok->Option (aw×List Tok)
 |0,_,_,_=>none
 |k+1,least,e,ts=>match ts with
  |[]=>some (e,[])
  |t::r=>if t.kind=4/\least<=cB t.s then(match jb k (cB t.s+1) r with
    |none=>none
    |some (f,r')=>nP k least (.mk 4 0 (bL t.s) [e,f]) r')else some (e,t::r)
def jm:Nat->List Tok->Option (aw×List Tok)
 |0,_=>none
 |k+1,ts=>match ts with
  |[]=>none
  |t::r=>
   if t.kind=1 then some (.mk 1 t.n (bL []) [],r)
   else if t.kind=2 then some (.mk 2 0 (bL t.s) [],r)
   else if t.kind=3 then(if dB t.s>0/\dT r [40]=true then(match eM k (dB t.s) (r.drop 1)with
    |none=>none
    |some (l,r')=>some (.mk 6 0 (bL t.s) l,r'))else some (.mk 3 0 (bL t.s) [],r))
   else none
def eM:Nat->Nat->List Tok->Option (List aw×List Tok)
 |0,_,_=>none
 |k+1,n,ts=>match jb k 1 ts with
  |none=>none
  |some (e,r)=>if n=1 then(if dT r [41]then some ([e],r.drop 1)else none)
   else if n=0 then none
   else if dT r [44]then(match eM k (n-1) (r.drop 1)with
    |none=>none
    |some (l,r')=>some (e::l,r'))else none
end
def aw.kind:aw->Int| .mk k _ _ _=>k
def aw.str:aw->aM| .mk _ _ s _=>s
mutual
def ek:aw->Nat| .mk _ _ _ l=>dp l+1
def dp:List aw->Nat|[]=>0|e::r=>ek e+dp r
end
mutual
def kM:aw->Nat| .mk _ _ _ l=>wH l+1
def wH:List aw->Nat|[]=>0|e::r=>max (kM e) (wH r)
end
def wI(k n:Int)(s:List UInt8)(kids:Nat):Bool:=
 if k=1 then decide (0<=n)&&decide (n<=1000000000000000)&&s.isEmpty&&kids==0
 else decide (n=0)&&(if k=2 then jP s&&kids==0 else if k=3 then qK s&&kids==0 else if k=4 then decide (0<cB s)&&kids==2 else if k=6 then decide (0<dB s)&&kids==dB s else false)
mutual
def iw:aw->Bool| .mk k n s l=>wI k n s.data.toList l.length&&rL l
def rL:List aw->Bool|[]=>true|e::r=>iw e&&rL r
end
def ee(l:List UInt8):Option aw:=match eH 200 l 0 with
 |none=>none
 |some ts=>match jb 60 1 ts with
  |some (e,[])=>if l.length<=200/\iw e=true/\kM e<=8/\ek e<=40 then some e else none
  |_=>none
def fE(s:List UInt8):aw:= .mk 3 0 (bL s) []
def nE(n:Int):aw:= .mk 1 n (bL []) []
def tE(s:List UInt8):aw:= .mk 2 0 (bL s) []
def JF(s:List UInt8)(a b:aw):aw:= .mk 4 0 (bL s) [a,b]
def mi(s:List UInt8)(l:List aw):aw:= .mk 6 0 (bL s) l
def tN(s:List UInt8):aw:=if s=[55]then nE 7 else if s=[34,97,32,98,34]then tE [97,32,98]else fE s
def oH(num txt:aw):List aw:=[nE 3,num,JF [45] (JF [42] num (nE 2)) (nE 1),mi [108,101,110] [txt],mi [105,102] [JF [62] num (nE 2),num,JF [45] (nE 0) num],
 mi [102,105,110,100] [tE [98],txt],JF [47] num num]
def mj(num txt:aw):List aw:=[tE [120],txt,JF [38] (JF [38] txt (tE [45])) txt,mi [116,101,120,116] [num],mi [108,101,102,116] [txt,nE 2],mi [102,114,111,109] [txt,nE 3],
 mi [105,102] [JF [61] num (nE 1),txt,tE [110,111]]]
def names9:List (List UInt8):=[[97],[98,50],[110,97,109,101],[110,101,120,116,95,111,110,101],[107,105,100,115],[120],[110,101,119,95,49],[109,111,114,101],[122,57]]
def U6(num txt:List UInt8):List (List UInt8):=[[51],num,num++[32,42,32,50,32,45,32,49],[108,101,110,40]++txt++[41],
 [105,102,40]++num++[32,62,32,50,44,32]++num++[44,32,48,32,45,32]++num++[41],[102,105,110,100,40,34,98,34,44,32]++txt++[41],num++[32,47,32]++num]
def Gp(num txt:List UInt8):List (List UInt8):=[[34,120,34],txt,txt++[32,38,32,34,45,34,32,38,32]++txt,[116,101,120,116,40]++num++[41],
 [108,101,102,116,40]++txt++[44,32,50,41],[102,114,111,109,40]++txt++[44,32,51,41],[105,102,40]++num++[32,61,32,49,44,32]++txt++[44,32,34,110,111,34,41]]
mutual
def eqE:aw->aw->Bool| .mk k n s l, .mk k' n' s' l'=>decide (k=k')&&decide (n=n')&&(s.data.toList==s'.data.toList)&&K8 l l'
def K8:List aw->List aw->Bool|[],[]=>true|e::r,e'::r'=>eqE e e'&&K8 r r'|_,_=>false
end
mutual
theorem Ad:∀{a b:aw},eqE a b=true->a=b
 | .mk k n s l, .mk k' n' s' l',h=>by
   simp only[eqE,Qce,decide_eq_true_eq,beq_iff_eq]at h;obtain⟨⟨⟨rfl,rfl⟩,h3⟩,h4⟩:=h;have e1:s=s':=by cases s;cases s';simp at h3;simpa using h3
   have e2:=wJ h4;rw[e1,e2]
theorem wJ:∀{a b:List aw},K8 a b=true->a=b
 |[],[],_=>rfl
 |e::r,e'::r',h=>by
  simp only[K8,Qce]at h;rw[Ad h.1,wJ h.2]
 |[],_::_,h=>by simp[K8]at h
 |_::_,[],h=>by simp[K8]at h
end
def Za(s:List UInt8)(e:aw):Bool:=match ee s with|some f=>eqE f e|none=>false
def tO {s:List UInt8}{e:aw}(h:Za s e=true):ee s=some e:=by
 unfold Za at h;split at h
 .rename_i f hf;rw[hf,Ad h]
 .cases h
def N5:(([55]::names9).all λnum=>([34,97,32,98,34]::names9).all λtxt=>((U6 num txt).zip (oH (tN num) (tN txt))).all λp=>Za p.1 p.2)=true:=by decide+kernel
def K9:(([55]::names9).all λnum=>([34,97,32,98,34]::names9).all λtxt=>((Gp num txt).zip (mj (tN num) (tN txt))).all λp=>Za p.1 p.2)=true:=by decide+kernel
def La:(names9.all λs=>Za s (fE s))=true:=by decide+kernel
def Lb(c:Int)(w:aj)(h0:0<=c)(h1:c<=255):
 xC 340 #[.int .u8 c] w (ji (xB (decide (48<=c/\c<=57))) w):=by
 by_cases a1:48<=c
 .by_cases a2:c<=57
  .rw[decide_eq_true ⟨a1,a2⟩];go_enter func340,ntmps340;go_wp2;go_ret;exact⟨rfl,rfl⟩
  .rw[decide_eq_false (λh=>a2 h.2)];go_enter func340,ntmps340;go_wp2;go_ret;exact⟨rfl,rfl⟩
 .rw[decide_eq_false (λh=>a1 h.1)];go_enter func340,ntmps340;go_wp2;go_ret;exact⟨rfl,rfl⟩
def kN(b:Bool)(c:Int)(w:aj)(h0:0<=c)(h1:c<=255)(hb:decide (48<=c/\c<=57)=b):xC 340 #[.int .u8 c] w (ji (xB b) w):=by subst hb;exact Lb c w h0 h1
def rM(b:Bool)(c:Int)(w:aj)(h0:0<=c)(h1:c<=255)(hb:bA c=b):xC 342 #[.int .u8 c] w (ji (xB b) w):=by
 have hn:bA c=decide ((97<=c/\c<=122)\/(48<=c/\c<=57)\/c=95):=by
  unfold bA eu;rw[Bool.eq_iff_iff];simp;omega
 rw[hn]at hb;by_cases a1:97<=c
 .by_cases a2:c<=122
  .rw[decide_eq_true (.inl ⟨a1,a2⟩)]at hb;subst hb;go_enter func342,ntmps342;go_wp2;go_ret;exact⟨rfl,rfl⟩
  .have a3:48<=c:=by omega
   have a4:¬c<=57:=by omega
   have a5:(c==95)=false:=by simp;omega
   rw[decide_eq_false (by omega)]at hb;subst hb;go_enter func342,ntmps342;go_wp2;go_ret;exact⟨rfl,rfl⟩
 .by_cases a3:48<=c
  .by_cases a4:c<=57
   .rw[decide_eq_true (.inr (.inl ⟨a3,a4⟩))]at hb;subst hb;go_enter func342,ntmps342;go_wp2;go_ret;exact⟨rfl,rfl⟩
   .by_cases a5:c=95
    .have a6:(c==95)=true:=by simpa using a5
     rw[decide_eq_true (.inr (.inr a5))]at hb;subst hb;go_enter func342,ntmps342;go_wp2;go_ret;exact⟨rfl,rfl⟩
    .have a6:(c==95)=false:=by simpa using a5
     rw[decide_eq_false (by omega)]at hb;subst hb;go_enter func342,ntmps342;go_wp2;go_ret;exact⟨rfl,rfl⟩
  .have a6:(c==95)=false:=by simp;omega
   rw[decide_eq_false (by omega)]at hb;subst hb;go_enter func342,ntmps342;go_wp2;go_ret;exact⟨rfl,rfl⟩
def dP:List UInt8:=[38,43,45,42,47,37,40,41,44,61,62]
def nh(c:UInt8)(hc:c∈dP)(w:aj):xC 343 #[xS ⟨#[c]⟩] w (ji (xI (cB [c])) w):=by
 simp only[dP,Qdf,List.not_mem_nil,or_false]at hc;rcases hc with rfl|rfl|rfl|rfl|rfl|rfl|rfl|rfl|rfl|rfl|rfl;all_goals
  go_enter func343,ntmps343;go_wp2;go_ret;exact⟨rfl,rfl⟩
def fg {l:List UInt8}(h:s.data.toList=l):s=⟨l.toArray⟩:=by cases s;simp at h;simp[<-h]
def fN {l:List UInt8}(h:¬s.data.toList=l):(s.toList==l)=false:=by rw[ByteArray.toList_eq];simpa using h
def N6(f:Nat)(hf:f=384\/f=380)(s:aM)(w:aj):xC f #[xS s] w (ji (xI (dB s.data.toList)) w):=by
 by_cases hm:s.data.toList=[108,101,110]\/s.data.toList=[116,101,120,116]\/s.data.toList=[110,117,109]\/s.data.toList=[108,101,102,116]\/s.data.toList=[114,105,103,104,116]\/s.data.toList=[102,114,111,109]\/s.data.toList=[102,105,110,100]\/s.data.toList=[109,105,110]\/s.data.toList=[109,97,120]\/s.data.toList=[105,102]
 .rcases hf with rfl|rfl<;>rcases hm with h|h|h|h|h|h|h|h|h|h<;>(obtain rfl:=fg h;(first|(go_enter func384,ntmps384)|(go_enter func380,ntmps380));go_wp2;go_ret;exact⟨rfl,rfl⟩)
 .simp only[not_or]at hm;obtain⟨h0,h1,h2,h3,h4,h5,h6,h7,h8,h9⟩:=hm;rw[show dB s.data.toList=0 by simp[dB,h0,h1,h2,h3,h4,h5,h6,h7,h8,h9]];replace h0:=fN h0;replace h1:=fN h1;replace h2:=fN h2;replace h3:=fN h3;replace h4:=fN h4;replace h5:=fN h5;replace h6:=fN h6;replace h7:=fN h7;replace h8:=fN h8;replace h9:=fN h9;rcases hf with rfl|rfl<;>((first|(go_enter func384,ntmps384)|(go_enter func380,ntmps380));go_wp2;go_ret;exact⟨rfl,rfl⟩)
def tP(s:aM)(w:aj):xC 384 #[xS s] w (ji (xI (dB s.data.toList)) w):=N6 _ (.inl rfl) s w
def Ae(s:aM)(w:aj):xC 380 #[xS s] w (ji (xI (dB s.data.toList)) w):=N6 _ (.inr rfl) s w
def cD {F:aN}(w:aj)(cs:Array an)(t:TypeId)(size:Nat)(hs:cs.size=size)(hF:F w.heap.size):cA F (w.alloc (.cells cs t)) size (xL (some ⟨w.heap.size,0,none⟩) 1 1) 1 cs.toList:=by
 refine⟨by simp[hs],some ⟨w.heap.size,0,none⟩,1,rfl,bN,by unfold maxLen;omega,λ_=>⟨w.heap.size,0,rfl,hF,by simp,λj u hu=> ?_⟩⟩;simp only[World.cell?,Qbh,Nat.zero_add];simpa using hu
section
variable {P:Program}{α:Type} [au α]
def nQ {F:aN}(w:aj){o:Oper}{a:Act}{K:Act->aj->Prop}{Q:Exit->Act->aj->Prop}(s x:Operand)(t:TypeId)
 (ho:o.op= .call {callee:= .builtin .append,args:= #[s,x],argTypes:= #[t,t]})
 (base:Nat)(e:TypeId)(i:TypeInfo)(z:an)(size bytes:Nat)(ht:P.underlying t=some (.slice e))(hi:P.info? e=some i)(hz:i.zero=some z)
 (hsize:i.size=size)(hby:i.bytes=bytes)(hzs:z.cells.size=size)(hsz:0<size)
 (v:an)(n:Nat)(xs:List an)(hs:a.eval s=v)(lY:w.ownsRow base e size v n xs)
 (sv:an)(m:Nat)(news:List an)(hx:a.eval x=sv)(hr:cA F w size sv m news)(h1:∀u∈news,u.oneCell'=true)
 (h63:n+m<=maxLen)(hbytes:(n+m)*bytes<=140737488355328)(hbase:base<=w.heap.size)
 (h:∀v' w',w'.ownsRow base e size v' (n+m) (xs++news)->w.grownBy w' v.ownBlock->(v'.ownBlock=v.ownBlock\/v'.ownBlock=some w.heap.size)->K (a.put o.dst v') w'):Oper.wp P o a w K Q:=by
 obtain⟨v',w',mO,h2,h3,h4⟩:=gu (P:=P) w base t o.type e i z size bytes ht hi hz hsize hby hzs hsz v n xs lY sv m news hr h1 h63 hbytes hbase;unfold Oper.wp execOp;simp only[ho,resolve,invoke,builtin,Sem.run_bind,Sem.run_pure,Result.andThen_ok,List.map_toArray,List.map_cons,List.map_nil,hs,hx,mO];exact h v' w' h2 h3 h4
end
section
variable {P:Program}{α:Type} [au α]{o:Oper}{a:Act}{w:aj}{ops:Array Oper}{rest:List Oper}{K:Act->aj->Prop}{Q:Exit->Act->aj->Prop}{E:Prop}(hgd:o.guard=none)(s x:Operand)(t:TypeId)
 (ho:o.op= .call {callee:= .builtin .append,args:= #[s,x],argTypes:= #[t,t]})
 (M:aN)(base:Nat)(e:TypeId)(i:TypeInfo)(z:an)(bytes:Nat)(ht:P.underlying t=some (.slice e))(hi:P.info? e=some i)(hz:i.zero=some z)
 (hsize:i.size=au.size α)(hby:i.bytes=bytes)(hzs:z.cells.size=au.size α)(hsz:0<au.size α)
 (v:an)(xs:List α)(hs:a.eval s=v)(hacc:aK M base e w v xs)
include hgd ho ht hi hz hsize hby hzs hsz hs hacc
section
variable(F:aN)(sv:an)(cs:List an)(y:α)(hx:a.eval x=sv)(hr:cA F w (au.size α) sv 1 cs)(hy:au.rep (bg v M) w cs y)
 (h63:xs.length+1<=maxLen)(hbytes:(xs.length+1)*bytes<=140737488355328)(hbase:base<=w.heap.size)
include hx hr hy h63 hbytes hbase
def aW
 (h:∀a' c' w',aK M base e w' (xL a' (xs.length+1) c') (xs++[y])->Ev (bg v M) w (bg (xL a' (xs.length+1) c') M) w'->Below base w w'->wpList P ops Q rest (a.put o.dst (xL a' (xs.length+1) c')) w'):wpList P ops Q (o::rest) a w:=by
 obtain⟨css,h1,h2,h3⟩:=hacc;refine gN w hgd s x t ho base e i z (au.size α) bytes ht hi hz hsize hby hzs hsz v xs.length css.flatten hs h1 sv 1 cs hx hr (au.flat hy) h63 hbytes hbase λa' c' w' k1 k2 k3=> ?_;exact h a' c' w' (aK.snoc h2 h3 hy k1 k2 k3) (Ev.grown k2 k3) ((Qbg _ w).grown k2 hbase λk hk=>(h1.lt k hk).1)
def dJ
 (h:∀a' c' w',aK M base e w' (xL a' (xs.length+1) c') (xs++[y])->Ev (bg v M) w (bg (xL a' (xs.length+1) c') M) w'->Below base w w'->K (a.put o.dst (xL a' (xs.length+1) c')) w'):
 if Region.wanted o (yielded ops a.tmps)=true then Oper.wp P o a w K Q else E:=by
 have hw:Region.wanted o (yielded ops a.tmps)=true:=by simp[Region.wanted,hgd]
 rw[if_pos hw];obtain⟨css,h1,h2,h3⟩:=hacc;refine nQ w s x t ho base e i z (au.size α) bytes ht hi hz hsize hby hzs hsz v xs.length css.flatten hs h1 sv 1 cs hx hr (au.flat hy) h63 hbytes hbase λv' w' k1 k2 k3=> ?_;obtain⟨a',c',rfl,_,_⟩:=fM k1;exact h a' c' w' (aK.snoc h2 h3 hy k1 k2 k3) (Ev.grown k2 k3) ((Qbg _ w).grown k2 hbase λk hk=>(h1.lt k hk).1)
end
variable(sv:an)(ys:List α)(hx:a.eval x=sv)(hr:ab (bg v M) w sv ys)
 (h63:xs.length+ys.length<=maxLen)(hbytes:(xs.length+ys.length)*bytes<=140737488355328)(hbase:base<=w.heap.size)
include hx hr h63 hbytes hbase
def cZ
 (h:∀a' c' w',aK M base e w' (xL a' (xs.length+ys.length) c') (xs++ys)->Ev (bg v M) w (bg (xL a' (xs.length+ys.length) c') M) w'->Below base w w'->wpList P ops Q rest (a.put o.dst (xL a' (xs.length+ys.length) c')) w'):wpList P ops Q (o::rest) a w:=by
 obtain⟨css,h1,h2,h3⟩:=hacc;obtain⟨Na,k1,k2,k3⟩:=hr;have Fo:∀u∈Na.flatten,u.oneCell'=true:=λu hu=>by
  obtain⟨cs,bJ,hu⟩:=List.mem_flatten.1 hu;obtain⟨i,hi⟩:=List.getElem?_of_mem bJ;have ze:i<ys.length:=by rw[<-k2];exact(Qad.1 hi).1
  exact au.flat (k3 i cs _ hi (Qac ze)) u hu
 refine gN w hgd s x t ho base e i z (au.size α) bytes ht hi hz hsize hby hzs hsz v xs.length css.flatten hs h1 sv ys.length Na.flatten hx k1 Fo h63 hbytes hbase λa' c' w' j1 j2 j3=> ?_;exact h a' c' w' (aK.app h2 h3 k2 k3 j1 j2 j3) (Ev.grown j2 j3) ((Qbg _ w).grown j2 hbase λk hk=>(h1.lt k hk).1)
def tQ
 (h:∀a' c' w',aK M base e w' (xL a' (xs.length+ys.length) c') (xs++ys)->Ev (bg v M) w (bg (xL a' (xs.length+ys.length) c') M) w'->Below base w w'->K (a.put o.dst (xL a' (xs.length+ys.length) c')) w'):
 if Region.wanted o (yielded ops a.tmps)=true then Oper.wp P o a w K Q else E:=by
 have hw:Region.wanted o (yielded ops a.tmps)=true:=by simp[Region.wanted,hgd]
 rw[if_pos hw];obtain⟨css,h1,h2,h3⟩:=hacc;obtain⟨Na,k1,k2,k3⟩:=hr;have Fo:∀u∈Na.flatten,u.oneCell'=true:=λu hu=>by
  obtain⟨cs,bJ,hu⟩:=List.mem_flatten.1 hu;obtain⟨i,hi⟩:=List.getElem?_of_mem bJ;have ze:i<ys.length:=by rw[<-k2];exact(Qad.1 hi).1
  exact au.flat (k3 i cs _ hi (Qac ze)) u hu
 refine nQ w s x t ho base e i z (au.size α) bytes ht hi hz hsize hby hzs hsz v xs.length css.flatten hs h1 sv ys.length Na.flatten hx k1 Fo h63 hbytes hbase λv' w' j1 j2 j3=> ?_;obtain⟨a',c',rfl,_,_⟩:=fM j1;exact h a' c' w' (aK.app h2 h3 k2 k3 j1 j2 j3) (Ev.grown j2 j3) ((Qbg _ w).grown j2 hbase λk hk=>(h1.lt k hk).1)
end
def I6(x:Int):Prop:= -9223372036854775808<=x/\x<=9223372036854775807
structure jn where
 name:Int
 kind:Int
 of:Int
 indexed:Bool
structure tR where
 name:Int
 fields:List jn
structure fD where
 kind:Int
 field:Int
 name:Int
 more:Int
 type:aT
 expr:Int
 other:Int
structure gW where
 cls:tR
 changes:List fD
structure jF where
 cls:Int
 ver:Int
 aR:List Int
 skip:Int
structure jQ where
 name:Int
 id:Int
instance:au jn where
 size:=4
 rep:=λ_ _ cs x=>cs=[xI x.name,xI x.kind,xI x.of,xB x.indexed]/\I6 x.name/\I6 x.kind/\I6 x.of
 len:=λh=>by rw[h.1];rfl
 flat:=λh u hu=>by rw[h.1]at hu;simp at hu;rcases hu with rfl|rfl|rfl|rfl<;>rfl
 ev:=λh _=>h
instance:au fD where
 size:=8
 rep:=λ_ _ cs x=>cs=[xI x.kind,xI x.field,xI x.name,xI x.more,xI x.type.kind,xI x.type.of,xI x.expr,xI x.other]/\I6 x.kind/\I6 x.field/\I6 x.name/\I6 x.more/\I6 x.type.kind/\I6 x.type.of/\I6 x.expr/\I6 x.other
 len:=λh=>by rw[h.1];rfl
 flat:=λh u hu=>by rw[h.1]at hu;simp at hu;rcases hu with rfl|rfl|rfl|rfl|rfl|rfl|rfl|rfl<;>rfl
 ev:=λh _=>h
instance:au jQ where
 size:=2
 rep:=λ_ _ cs x=>cs=[xI x.name,xI x.id]/\I6 x.name/\I6 x.id
 len:=λh=>by rw[h.1];rfl
 flat:=λh u hu=>by rw[h.1]at hu;simp at hu;rcases hu with rfl|rfl<;>rfl
 ev:=λh _=>h
instance:au tR where
 size:=2
 rep:=λM w cs x=>∃fv,cs=[xI x.name,fv]/\ab M w fv x.fields/\I6 x.name
 len:=λ⟨_,h,_⟩=>by rw[h];rfl
 flat:=λ⟨_,h,h1,_⟩u hu=>by rw[h]at hu;simp at hu;rcases hu with rfl|rfl;rfl;exact eK h1
 ev:=λ⟨fv,h,h1,h2⟩k=>⟨fv,h,h1.ev k,h2⟩
instance:au gW where
 size:=3
 rep:=λM w cs x=>∃fv cv,cs=[xI x.cls.name,fv,cv]/\ab M w fv x.cls.fields/\ab M w cv x.changes/\I6 x.cls.name
 len:=λ⟨_,_,h,_⟩=>by rw[h];rfl
 flat:=λ⟨_,_,h,h1,h2,_⟩u hu=>by rw[h]at hu;simp at hu;rcases hu with rfl|rfl|rfl;rfl;exact eK h1;exact eK h2
 ev:=λ⟨fv,cv,h,h1,h2,h3⟩k=>⟨fv,cv,h,h1.ev k,h2.ev k,h3⟩
instance:au jF where
 size:=4
 rep:=λM w cs x=>∃vv,cs=[xI x.cls,xI x.ver,vv,xI x.skip]/\ab M w vv x.aR/\I6 x.cls/\I6 x.ver/\I6 x.skip/\∀y∈x.aR,I6 y
 len:=λ⟨_,h,_⟩=>by rw[h];rfl
 flat:=λ⟨_,h,h1,_⟩u hu=>by rw[h]at hu;simp at hu;rcases hu with rfl|rfl|rfl|rfl;rfl;rfl;exact eK h1;rfl
 ev:=λ⟨vv,h,h1,h2⟩k=>⟨vv,h,h1.ev k,h2⟩
variable{b:Nat}
def cell_of_heap {cs:Array an}{t:TypeId}{fr:Nat×Nat}(h:bR W b (.cells cs t fr)){i:Nat}{v:an}(hv:cs[i]? =some v):bt W b i v:=by
 simp[World.cell?,h,hv]
def ag {cs:Array an}{t:TypeId}(h:bR W b (.cells cs t (0,0)))(i:Nat):W.frozen? ⟨b,i,none⟩=false:=by
 simp[World.frozen?,h]
variable{w':aj}
theorem Ev.setCell {M:aN}{w:aj}(h:Ev M w N w'){p:Addr}(hp:M p.block\/w.heap.size<=p.block)(u:an):Ev M w N (w'.setCell p u):=⟨h.only.setCell hp u,h.sub⟩
theorem Ev.drew {M:aN}{w:aj}(h:Ev M w N w'):Ev M w N w'.drew:=⟨h.only.drew,h.sub⟩
theorem Ev.alloc {M:aN}{w:aj}(h:Ev M w N w')(o:Obj):Ev M w N (w'.alloc o):=⟨h.only.alloc o,h.sub⟩
theorem aK.vz {α:Type} [au α]{M:aN}{base:Nat}{e:TypeId}{w:aj}{v:an}{xs:List α}(h:aK M base e w v xs){p:Addr}(hp:M p.block)(hb:p.block<base)(u:an):aK M base e (w.setCell p u) v xs:=by
 obtain⟨css,h1,h2,h3⟩:=h;exact⟨css,ownsRow_setCell_below h1 hb u,h2,λi cs x hc hx=>au.ev (h3 i cs x hc hx) ((Ev.refl _ w).setCell (.inl (.inl hp)) u)⟩
variable{o0:Obj}
def rO {w:aj}(hW:W=w.alloc o0):di W w o0/\W.heap.size=w.heap.size+1/\aq w W:=by
 subst hW;exact⟨Qbh w o0,by simp,bM⟩
variable{o1:Obj}
def jR {w:aj}(hW:W=(w.alloc o0).alloc o1):di W w o0/\bR W (w.heap.size+1) o1/\W.heap.size=w.heap.size+2/\aq w W:=by
 subst hW;obtain⟨h0,hz,hb⟩:=rO (w:=w) (o0:=o0) rfl;exact⟨(Qcb _ _ _ (by omega)).trans h0,by rw[<-hz];exact Qbh _ _,by rw[World.size_alloc,hz],hb.alloc hb.size _⟩
variable{o2:Obj}
def C8 {w:aj}(hW:W=((w.alloc o0).alloc o1).alloc o2):di W w o0/\bR W (w.heap.size+1) o1/\bR W (w.heap.size+2) o2/\W.heap.size=w.heap.size+3/\aq w W:=by
 subst hW;obtain⟨h0,h1,hz,hb⟩:=jR (w:=w) (o0:=o0) (o1:=o1) rfl;exact⟨(Qcb _ _ _ (by omega)).trans h0,(Qcb _ _ _ (by omega)).trans h1,by rw[<-hz];exact Qbh _ _,by rw[World.size_alloc,hz],hb.alloc hb.size _⟩
variable{o3:Obj}
def T7 {w:aj}(hW:W=(((w.alloc o0).alloc o1).alloc o2).alloc o3):di W w o0/\bR W (w.heap.size+1) o1/\bR W (w.heap.size+2) o2/\bR W (w.heap.size+3) o3/\W.heap.size=w.heap.size+4/\aq w W:=by
 subst hW;obtain⟨h0,h1,h2,hz,hb⟩:=C8 (w:=w) (o0:=o0) (o1:=o1) (o2:=o2) rfl;exact⟨(Qcb _ _ _ (by omega)).trans h0,(Qcb _ _ _ (by omega)).trans h1,(Qcb _ _ _ (by omega)).trans h2,by rw[<-hz];exact Qbh _ _,by rw[World.size_alloc,hz],hb.alloc hb.size _⟩
def aJ(c:Int)(n:Nat):Nat:=((if c<0 then-(c+1)else c)%n).toNat
def cM(c:Int)(n:Nat)(h:0<n):aJ c n<n:=by
 unfold aJ;have h1:=Int.emod_lt_of_pos (if c<0 then-(c+1)else c) (b:=n) (by omega);have h2:=Int.emod_nonneg (if c<0 then-(c+1)else c) (b:=n) (by omega);omega
def eR(c:Int)(n:Int)(w:aj)(hc:I6 c)(hn:1<=n)(KD:n<=1000000):
 xC 117 #[xI c,xI n] w (ji (xI (aJ c n.toNat)) w):=by
 obtain⟨mZ,CO⟩:=hc;have e0:((aJ c n.toNat:Nat):Int)=(if c<0 then-(c+1)else c)%n:=by
  unfold aJ;rw[Int.toNat_of_nonneg (a:=n) (by omega)];exact Int.toNat_of_nonneg (Int.emod_nonneg _ (by omega))
 by_cases h:c<0
 .rw[if_pos h]at e0;have E:=af e0;clear e0;go_enter func117,ntmps117;go_wp2;go_ret;refine⟨iN ?_,rfl⟩;rw[E.o,<-Int.neg_tmod,Int.tmod_eq_emod_of_nonneg (by omega)]
 .rw[if_neg h]at e0;have E:=af e0;clear e0;go_enter func117,ntmps117;go_wp2;go_ret;exact⟨iN E.o.symm,rfl⟩
def iy(c:Int)(n:Int)(w:aj)(hc:I6 c)(hn:1<=n)(KD:n<=1000000):
 xC 178 #[xI c,xI n] w (ji (xI (aJ c n.toNat)) w):=by
 obtain⟨mZ,CO⟩:=hc;have e0:((aJ c n.toNat:Nat):Int)=(if c<0 then-(c+1)else c)%n:=by
  unfold aJ;rw[Int.toNat_of_nonneg (a:=n) (by omega)];exact Int.toNat_of_nonneg (Int.emod_nonneg _ (by omega))
 by_cases h:c<0
 .rw[if_pos h]at e0;have E:=af e0;clear e0;go_enter func178,ntmps178;go_wp2;go_ret;refine⟨iN ?_,rfl⟩;rw[E.o,<-Int.neg_tmod,Int.tmod_eq_emod_of_nonneg (by omega)]
 .rw[if_neg h]at e0;have E:=af e0;clear e0;go_enter func178,ntmps178;go_wp2;go_ret;exact⟨iN E.o.symm,rfl⟩
def kO(c:Int)(n:Int)(w:aj)(hc:I6 c)(hn:1<=n)(KD:n<=1000000):
 xC 20 #[xI c,xI n] w (ji (xI (aJ c n.toNat)) w):=by
 obtain⟨mZ,CO⟩:=hc;have e0:((aJ c n.toNat:Nat):Int)=(if c<0 then-(c+1)else c)%n:=by
  unfold aJ;rw[Int.toNat_of_nonneg (a:=n) (by omega)];exact Int.toNat_of_nonneg (Int.emod_nonneg _ (by omega))
 by_cases h:c<0
 .rw[if_pos h]at e0;have E:=af e0;clear e0;go_enter func20,ntmps20;go_wp2;go_ret;refine⟨iN ?_,rfl⟩;rw[E.o,<-Int.neg_tmod,Int.tmod_eq_emod_of_nonneg (by omega)]
 .rw[if_neg h]at e0;have E:=af e0;clear e0;go_enter func20,ntmps20;go_wp2;go_ret;exact⟨iN E.o.symm,rfl⟩
def lO:List aM:=[⟨#[97]⟩,⟨#[98,50]⟩,⟨#[110,97,109,101]⟩,⟨#[110,101,120,116,95,111,110,101]⟩,⟨#[107,105,100,115]⟩,⟨#[120]⟩]
def nk:List aM:=[⟨#[110,111,100,101]⟩,⟨#[105,116,101,109]⟩,⟨#[117,115,101,114]⟩,⟨#[112,97,103,101,95,49]⟩,⟨#[108,101,97,102]⟩,⟨#[113]⟩]
def T9(k:Nat):aM:=lO.getD k ⟨#[]⟩
def Og(k:Nat):aM:=nk.getD k ⟨#[]⟩
def U9(h:k<6):(#[xS ⟨#[97]⟩,xS ⟨#[98,50]⟩,xS ⟨#[110,97,109,101]⟩,xS ⟨#[110,101,120,116,95,111,110,101]⟩,xS ⟨#[107,105,100,115]⟩,xS ⟨#[120]⟩]:Array an)[k]? =some (xS (T9 k)):=by
 rcases k with _|_|_|_|_|_|k<;>first|rfl|omega
def Sf(h:k<6):(#[xS ⟨#[110,111,100,101]⟩,xS ⟨#[105,116,101,109]⟩,xS ⟨#[117,115,101,114]⟩,xS ⟨#[112,97,103,101,95,49]⟩,xS ⟨#[108,101,97,102]⟩,xS ⟨#[113]⟩]:Array an)[k]? =some (xS (Og k)):=by
 rcases k with _|_|_|_|_|_|k<;>first|rfl|omega
def Sg(h:k<6):T9 k∈lO:=by
 rcases k with _|_|_|_|_|_|k<;>first|(simp[T9,lO];done)|omega
def Oh(h:k<6):Og k∈nk:=by
 rcases k with _|_|_|_|_|_|k<;>first|(simp[Og,nk];done)|omega
def rS:∀s∈lO,aB s=true/\s.size<=20:=by decide
def gX:∀s∈nk,aB s=true/\s.size<=20:=by decide
def cF(h:s.size<=20):s.size<=maxLen:=by unfold maxLen;omega
def iO(c:ax):Prop:=aP c=true/\c.fields.length<=6/\(∀f∈c.fields,f.name∈lO)/\c.name∈nk
def gw(fs:List az):Prop:=(∀f∈fs,f.name∈lO/\bH f=true)/\∀(j:Nat)(f:az),fs[j]? =some f->idxOf (λg:az=>cj g.name f.name) fs=j
def uN {α:Type}{p:α->Bool}{xs ys:List α}(h:idxOf p xs=j):idxOf p (xs++ys)=j:=by
 unfold idxOf at*;cases hf:xs.findIdx? p with
 |none=>rw[hf]at h;simp at h
 |some i=>rw[hf]at h;rw[List.findIdx?_append,hf];simpa using h
theorem gw.snoc {fs:List az}(h:gw fs)(hn:f.name∈lO)(hr:bH f=true)(hm:idxOf (λg:az=>cj g.name f.name) fs= -1):gw (fs++[f]):=by
 refine⟨λg hg=> ?_,λj g hg=> ?_⟩
 .rcases Qch.1 hg with h1|h1
  .exact h.1 g h1
  .simp at h1;subst h1;exact⟨hn,hr⟩
 .by_cases hj:j<fs.length
  .rw[Qbc hj]at hg;exact uN (h.2 j g hg)
  .rw[Qbd (by omega)]at hg;have h0:j-fs.length=0:=by
    cases hq:j-fs.length with
    |zero=>rfl
    |succ q=>rw[hq]at hg;simp at hg
   rw[h0]at hg;simp at hg;subst hg;unfold idxOf at hm⊢;cases hf:fs.findIdx? (λg=>cj g.name f.name)with
   |some i=>rw[hf]at hm;simp at hm
   |none=>
    rw[List.findIdx?_append,hf];have:cj f.name f.name=true:=by simp[cj]
    simp[this];omega
variable{nm:aM}
theorem gw.cls {fs:List az}(h:gw fs)(hl:fs.length<=6)(hn:nm∈nk):iO ⟨nm,fs⟩:=
 ⟨(bo _).2 ⟨(gX nm hn).1,Qcg hl (by omega),λj f _ hf=>⟨(h.1 f (Qaf hf)).2,h.2 j f hf⟩⟩,hl,λf hf=>(h.1 f hf).1,hn⟩
def rT(r:jn):az:=⟨T9 (aJ r.name 6),⟨1+(aJ r.kind 5:Int),if aJ r.kind 5=4 then 1+(aJ r.of 4:Int)else 0⟩,r.indexed&&decide (1+(aJ r.kind 5:Int)<=3)⟩
def wT(r:jn):bH (rT r)=true/\(rT r).name∈lO:=by
 have h1:=Sg (cM r.name 6 (by omega));have h2:=cM r.kind 5 (by omega);have h3:=cM r.of 4 (by omega);refine⟨?_,h1⟩;have e1:=(rS _ h1).1;unfold bH rT;simp only[e1,Bool.true_and,Qce];constructor
 .unfold aG;by_cases h4:aJ r.kind 5=4
  .simp[h4];omega
  .simp only[h4,if_false];rw[if_neg (by omega)];simp;omega
 .cases r.indexed<;>simp
def iz:(Tryz.prog.info? 60).map (λi=>(i.zero,i.size,i.bytes))=some (some (.agg #[xS ⟨#[]⟩,xI 0,xI 0,xB false]),4,40):=by kernel_rfl
def Df(M:aN)(fv:an)(w:aj)(fs:List az)(nm name:aM)(hs:ab M w fv fs)(h:idxOf (λg:az=>cj g.name name) fs<0):
 xC 118 #[.agg #[xS nm,fv],xS name] w (cr (.tuple #[xI 0,xB false]) w):=
 lu M fv w ⟨nm,fs⟩ name 0 false hs (if_pos h) (by have h':fieldAt ⟨nm,fs⟩ name<0:=h;rw[decide_eq_true h'];rfl)
def Bw(M:aN)(fv:an)(w:aj)(fs:List az)(nm name:aM)(hs:ab M w fv fs)(h:¬idxOf (λg:az=>cj g.name name) fs<0):
 xC 118 #[.agg #[xS nm,fv],xS name] w (cr (.tuple #[xI (idxOf (λg:az=>cj g.name name) fs),xB true]) w):=
 lu M fv w ⟨nm,fs⟩ name _ true hs (if_neg h) (by have h':¬fieldAt ⟨nm,fs⟩ name<0:=h;rw[decide_eq_false h'];rfl)
def JM(x:List UInt8):Prop:=(∃c,x=[c]/\32<=c/\c<127)\/x=[195,169]
def iD(l:List UInt8):Prop:=∃ss:List (List UInt8),l=ss.flatten/\∀x∈ss,JM x
def fQ(s:aM):Prop:=s.size<=60/\iD s.data.toList
def oe:aM:=⟨#[]⟩
def lh(k many:Int)(v:aA):Prop:=
 (k=1/\∃n,v= .mk 1 n oe []/\-1000000000000000<=n/\n<=1000000000000000)\/(k=2/\∃s,v= .mk 2 0 s []/\fQ s)\/
 ((k=3\/k=4)/\(v= .mk 0 0 oe []\/∃n,v= .mk k n oe []/\1<=n/\n<=many))
def dx(t:aT)(many:Int)(v:aA):Prop:=
 (t.kind=5/\∃l,v= .mk 5 0 oe l/\l.length<=12/\∀x∈l,lh t.of many x)\/(t.kind≠5/\lh t.kind many v)
def Va:List aM:=[⟨#[]⟩,⟨#[97]⟩,⟨#[98,99]⟩,⟨#[195,169,116,195,169]⟩,⟨#[97,32,98]⟩,⟨#[122,122,32,116,111,112]⟩,⟨#[48]⟩,⟨#[45,55]⟩]
def Zc(k:Nat):aM:=Va.getD k oe
def Vb(h:k<8):(#[xS ⟨#[]⟩,xS ⟨#[97]⟩,xS ⟨#[98,99]⟩,xS ⟨#[195,169,116,195,169]⟩,xS ⟨#[97,32,98]⟩,xS ⟨#[122,122,32,116,111,112]⟩,xS ⟨#[48]⟩,xS ⟨#[45,55]⟩]:Array an)[k]? =some (xS (Zc k)):=by
 rcases k with _|_|_|_|_|_|_|_|k<;>first|rfl|omega
def GB(x:List UInt8):Bool:=(match x with|[c]=>decide (32<=c)&&decide (c<127)|_=>false)||x==[195,169]
def Oi {x:List UInt8}(h:GB x=true):JM x:=by
 unfold GB at h;simp only[Bool.or_eq_true,beq_iff_eq]at h;rcases h with h|h
 .split at h
  .simp at h;exact .inl ⟨_,rfl,h.1,h.2⟩
  .cases h
 .exact .inr h
def iP(ss:List (List UInt8))(h:ss.all GB=true){l:List UInt8}(hl:l=ss.flatten):iD l:=⟨ss,hl,λx hx=>Oi (List.all_eq_true.1 h x hx)⟩
def Oj(h:k<8):fQ (Zc k):=by
 rcases k with _|_|_|_|_|_|_|_|k
 .exact⟨by decide,iP [] (by decide) (by decide)⟩
 .exact⟨by decide,iP [[97]] (by decide) (by decide)⟩
 .exact⟨by decide,iP [[98],[99]] (by decide) (by decide)⟩
 .exact⟨by decide,iP [[195,169],[116],[195,169]] (by decide) (by decide)⟩
 .exact⟨by decide,iP [[97],[32],[98]] (by decide) (by decide)⟩
 .exact⟨by decide,iP [[122],[122],[32],[116],[111],[112]] (by decide) (by decide)⟩
 .exact⟨by decide,iP [[48]] (by decide) (by decide)⟩
 .exact⟨by decide,iP [[45],[55]] (by decide) (by decide)⟩
 .omega
def jH:oe.size<=maxLen:=by unfold maxLen;decide
def oK(k n:Int)(s:aM)(hs:s.size<=maxLen):ct M w (.agg #[xI k,xI n,xS s,xL none 0 0]) (aA.mk k n s []):=
 ⟨_,rfl,eZ.iff.2 ⟨_,rfl,ab.nil _ _,hs⟩⟩
def gY:(Tryz.prog.info? 44).map (λi=>(i.zero,i.size,i.bytes))=some (some (.agg iH),4,56):=by kernel_rfl
def Ah(M:aN)(w:aj)(k of n many:Int)(oF:1<=k)(ou:k<=4)(hn:I6 n)(rF:many<=1000):
 xG 122 #[.agg #[xI k,xI of],xI n,xI many] w λv w'=>∃x,lh k many x/\ct M w' v x:=by
 have HI:=af hn;clear hn;have Yj:=cM n 8 (by omega);have qgw:=cM n 41 (by omega);have qaj:k=1\/k=2\/(k=3\/k=4):=by omega
 rcases qaj with rfl|rfl|hk
 .go_enter func122,ntmps122;go_wp2_with fail;refine cT (eR _ _ _ HI.o (by omega) (by omega)) ?_;go_wp2_with fail;refine Qae (v:= .agg #[xI 1,xI ((aJ n 41:Int)-20),xS ⟨#[]⟩,xL none 0 0]) (by simp[results,results122,go_sem]) rfl ⟨_,rfl,⟨.mk 1 ((aJ n 41:Int)-20) oe [], .inl ⟨rfl,_,rfl,by omega,by omega⟩,oK _ _ _ jH⟩,?_⟩;exact(bM.alloc (by simp) _).alloc (by simp;omega) _
 .go_enter func122,ntmps122;go_wp2_with fail;refine cT (eR _ _ _ HI.o (by omega) (by omega)) ?_;obtain⟨W,hW⟩:∃W:aj,W=((w.alloc (xK #[xI 2,xI of] 49)).alloc (xK iH 44)).alloc
   (xK #[xS ⟨#[]⟩,xS ⟨#[97]⟩,xS ⟨#[98,99]⟩,xS ⟨#[195,169,116,195,169]⟩,xS ⟨#[97,32,98]⟩,xS ⟨#[122,122,32,116,111,112]⟩,xS ⟨#[48]⟩,xS ⟨#[45,55]⟩] 9):=⟨_,rfl⟩;rw[<-hW];obtain⟨b0,b1,b2,hz,hb⟩:=C8 hW;clear hW;have fV:bt W (w.heap.size+1+1) (aJ n 8) (xS (Zc (aJ n 8))):=cell_of_heap b2 (Vb Yj);obtain⟨q0,q1,q2,q3⟩:=ae b1;obtain⟨f0,f1,f2,f3⟩:=iK b1;have HZ:=af hz;clear hz;have HB:=af hb;clear hb;clear b0 b1 b2;go_wp2_with fail;refine Qae (v:= .agg #[xI 2,xI 0,xS (Zc (aJ n 8)),xL none 0 0]) (by simp[results,results122,go_sem,q0,q1,q2,q3]) rfl ⟨_,rfl,⟨.mk 2 0 (Zc (aJ n 8)) [], .inr (.inl ⟨rfl,_,rfl,Oj Yj⟩),oK _ _ _ (by have:=(Oj Yj).1;unfold maxLen;omega)⟩,?_⟩;exact(((HB.o.setCell (by simp) _).setCell (by simp) _).setCell (by simp) _).setCell (by simp) _
 .have e1:(k==1)=false:=by simp;omega
  have e2:(k==2)=false:=by simp;omega
  have HK:=af hk;have NIL:Hd (lh k many (.mk 0 0 oe [])):= .inr (.inr ⟨hk, .inl rfl⟩);have Wy:(k==3)=true\/((k==3)=false/\(k==4)=true):=by rcases hk with h|h;exact .inl (by simp;omega);exact .inr ⟨by simp;omega,by simp;omega⟩
  clear hk;by_cases qge:many<1
  .rcases Wy with e3|⟨e3,e4⟩;all_goals
    go_enter func122,ntmps122;go_wp2_with fail;refine Qae (v:= .agg iH) (by simp[results,results122,go_sem]) rfl ⟨_,rfl,⟨.mk 0 0 oe [],NIL.o,oK _ _ _ jH⟩,?_⟩;exact(bM.alloc (by simp) _).alloc (by simp;omega) _
  .by_cases h4:aJ n 5=4
   .have h4':((aJ n 5:Int)==4)=true:=by simp;omega
    clear h4;rcases Wy with e3|⟨e3,e4⟩;all_goals
     go_enter func122,ntmps122;go_wp2_with fail;refine cT (eR _ _ _ HI.o (by omega) (by omega)) ?_;go_wp2_with fail;refine Qae (v:= .agg iH) (by simp[results,results122,go_sem]) rfl ⟨_,rfl,⟨.mk 0 0 oe [],NIL.o,oK _ _ _ jH⟩,?_⟩;exact(bM.alloc (by simp) _).alloc (by simp;omega) _
   .have h4':((aJ n 5:Int)==4)=false:=by simp;omega
    have hpm:=cM n many.toNat (by omega);have REF:Hd (lh k many (.mk k (1+(aJ n many.toNat:Int)) oe [])):= .inr (.inr ⟨HK.o, .inr ⟨_,rfl,by omega,by omega⟩⟩);clear h4;rcases Wy with e3|⟨e3,e4⟩;all_goals
     go_enter func122,ntmps122;go_wp2_with fail;refine cT (eR _ _ _ HI.o (by omega) (by omega)) ?_;go_wp2_with fail;have z3:IntKind.i64.wrap (1+(aJ n many.toNat:Int))=1+(aJ n many.toNat:Int):=Qbe _ (by omega);go_region_held3(λw'=>w'.cell? ⟨w.heap.size,0,none⟩=some (xI k))
      (first|go_keep)
      (first|(go_at_call 117;refine cT (eR _ _ _ HI.o (by omega) (by omega)) ?_));all_goals
      go_wp2_with fail;refine Qae (v:= .agg #[xI k,xI (1+(aJ n many.toNat:Int)),xS ⟨#[]⟩,xL none 0 0]) (by simp[results,results122,go_sem]) rfl ⟨_,rfl,⟨_,REF.o,oK _ _ _ jH⟩,?_⟩;exact((bM.alloc (by simp) _).alloc (by simp;omega) _).drew
def Bx(w:aj)(os:List Obj)(wx:aj):Prop:=aq w wx/\w.heap.size+os.length<=wx.heap.size/\∀(i:Nat)(o:Obj),os[i]? =some o->bR wx (w.heap.size+i) o
section
variable {w wx w':aj}{os:List Obj}
theorem Bx.nil(w:aj):Bx w [] w:=⟨dQ,by simp,λi o h=>by simp at h⟩
theorem Bx.at_(h:Bx w os wx)(i:Nat)(hi:os[i]? =some o):bR wx (w.heap.size+i) o:=h.2.2 i o hi
theorem Bx.bG(h:Bx w os wx)(hi:os[0]? =some o):di wx w o:=h.2.2 0 o hi
theorem Bx.bU(h:Bx w os wx)(hi:os[1]? =some o):bR wx (w.heap.size+1) o:=h.2.2 1 o hi
theorem Bx.fR(h:Bx w os wx)(hi:os[2]? =some o):bR wx (w.heap.size+1+1) o:=h.2.2 2 o hi
theorem Bx.BD(h:Bx w os wx)(hi:os[3]? =some o):bR wx (w.heap.size+1+1+1) o:=h.2.2 3 o hi
theorem Bx.Ub(h:Bx w os wx)(hi:os[4]? =some o):bR wx (w.heap.size+1+1+1+1) o:=h.2.2 4 o hi
theorem Bx.bF(h:Bx w os wx):w.heap.size+os.length<=wx.heap.size:=h.2.1
variable{B:Nat}
theorem Bx.du(h:Bx w os wx)(k:Below B wx w')(hB:w.heap.size+os.length<=B):Bx w os w':=by
 obtain⟨h1,h2,h3⟩:=h;refine⟨h1.trans (k.mono (by omega)),by have:=k.size;omega,λi o hi=> ?_⟩;have hl:=(Qad.1 hi).1;exact(k.block _ (by omega)).trans (h3 i o hi)
theorem Bx.below(h:Bx w os wx)(k:aq wx w'):Bx w os w':=h.du k h.2.1
theorem Bx.alloc(h:Bx w os wx)(o:Obj):Bx w os (wx.alloc o):=h.below (dQ.alloc bN o)
theorem Bx.drew(h:Bx w os wx):Bx w os wx.drew:=⟨h.1.drew,h.2⟩
theorem Bx.drewN(h:Bx w os wx)(n:Nat):Bx w os (wx.drewN n):=⟨⟨h.1.os,h.1.tape,h.1.output,h.1.size,h.1.block⟩,h.2⟩
theorem Bx.snoc(h:Bx w os wx)(hs:wx.heap.size=w.heap.size+os.length)(o:Obj):Bx w (os++[o]) (wx.alloc o):=by
 obtain⟨h1,h2,h3⟩:=h;refine⟨h1.alloc h1.size o,by simp;omega,λi p hi=> ?_⟩;by_cases hl:i<os.length
 .rw[Qbc hl]at hi;exact(Qcb wx o _ (by omega)).trans (h3 i p hi)
 .rw[Qbd (by omega)]at hi;have h0:i-os.length=0:=by
   cases hq:i-os.length with
   |zero=>rfl
   |succ q=>rw[hq]at hi;simp at hi
  rw[h0]at hi;simp at hi;subst hi;rw[show w.heap.size+i=wx.heap.size from by omega];exact Qbh wx o
theorem Bx.eD(w:aj)(o0:Obj):Bx w [o0] (w.alloc o0):=(Bx.nil w).snoc (by simp) o0
theorem Bx.dq(w:aj)(o0 o1:Obj):Bx w [o0,o1] ((w.alloc o0).alloc o1):=(Bx.eD w o0).snoc (by simp) o1
theorem Bx.gO(w:aj)(o0 o1 o2:Obj):Bx w [o0,o1,o2] (((w.alloc o0).alloc o1).alloc o2):=(Bx.dq w o0 o1).snoc (by simp) o2
theorem Bx.Ow(w:aj)(o0 o1 o2 o3:Obj):Bx w [o0,o1,o2,o3] ((((w.alloc o0).alloc o1).alloc o2).alloc o3):=(Bx.gO w o0 o1 o2).snoc (by simp) o3
theorem Bx.GO(w:aj)(o0 o1 o2 o3 o4:Obj):Bx w [o0,o1,o2,o3,o4] (((((w.alloc o0).alloc o1).alloc o2).alloc o3).alloc o4):=(Bx.Ow w o0 o1 o2 o3).snoc (by simp) o4
theorem Bx.set(h:Bx w os wx)(i j:Nat){cs:Array an}(hi:os[i]? =some (.cells cs t (0,0)))(v:an):Bx w (os.set i (.cells (cs.setIfInBounds j v) t (0,0))) (wx.setCell ⟨w.heap.size+i,j,none⟩ v):=by
 obtain⟨h1,h2,h3⟩:=h;refine⟨h1.setCell (by simp) v,by simpa [World.setCell]using h2,λk o hk=> ?_⟩;have hl:=(Qad.1 hi).1;by_cases e:k=i
 .subst e;rw[List.getElem?_set_self hl]at hk;cases hk;have:=Qca wx (w.heap.size+k) j cs t v (h3 k _ hi);simpa using this
 .rw[List.getElem?_set_ne (λh=>e h.symm)]at hk;exact(Qag _ _ _ _ (by simp;omega)).trans (h3 k o hk)
end
def Am:iD []:=⟨[],rfl,λx h=>by cases h⟩
def ue {a b:List UInt8}(h:iD a)(k:iD b):iD (a++b):=by
 obtain⟨x,rfl,h1⟩:=h;obtain⟨y,rfl,h2⟩:=k;exact⟨x++y,by simp,λz hz=>(Qch.1 hz).elim (h1 z) (h2 z)⟩
def An {x:List UInt8}(h:JM x):iD x:=⟨[x],by simp,λz hz=>by simp at hz;subst hz;exact h⟩
def OE {l:List UInt8}(h:iD l)(hl:l≠[]):∃x r,l=x++r/\JM x/\iD r:=by
 obtain⟨ss,rfl,h1⟩:=h;cases ss with
 |nil=>exact absurd rfl hl
 |cons x r=>exact⟨x,r.flatten,rfl,h1 x List.mem_cons_self,r,rfl,λz hz=>h1 z (List.mem_cons_of_mem _ hz)⟩
def oR(l:List UInt8)(h:∀c∈l,32<=c/\c<127):iD l:=by
 induction l with
 |nil=>exact Am
 |cons c r ih=>
  have:=ue (An (.inl ⟨c,rfl,h c List.mem_cons_self⟩)) (ih λd hd=>h d (List.mem_cons_of_mem _ hd));simpa using this
def qy(s:aM)(p:Nat):Prop:=p<=s.size/\iD (s.data.toList.take p)/\iD (s.data.toList.drop p)
def uf(h:iD s.data.toList):qy s 0:=⟨Qbf _,by simpa using Am,by simpa using h⟩
variable{p:Nat}
def mz {l:List UInt8}{c:UInt8}(h:s.data.toList.drop p=l)(hk:l[k]? =some c):p+k<s.size/\s.get! (p+k)=c:=by
 subst h;rw[List.getElem?_drop]at hk;obtain⟨h1,h2⟩:=Qad.1 hk;have h3:p+k<s.size:=by rw[<-bq];exact h1
 refine⟨h3,?_⟩;simp[ByteArray.get!,getElem!_pos,h3];rw[<-h2];exact(Array.getElem_toList _)
theorem qy.step(h:qy s p)(hp:p<s.size):∃r k:Nat,Utf8.decode s p=(r,k)/\((k=1/\32<=r/\r<127)\/(k=2/\r=233))/\qy s (p+k):=by
 obtain⟨h1,h2,h3⟩:=h;have hne:s.data.toList.drop p≠[]:=by
  intro e;have:=congrArg List.length e;rw[List.length_drop,bq]at this;simp at this;omega
 obtain⟨x,r,e,hx,hr⟩:=OE h3 hne;have hlen:(s.data.toList.drop p).length=s.size-p:=by rw[List.length_drop,bq]
 have hAt:qy s (p+x.length):=by
  refine⟨?_,?_,?_⟩
  .have:=congrArg List.length e;rw[hlen,Qda]at this;omega
  .rw[List.take_add,e,List.take_left']
   .exact ue h2 (An hx)
   .rfl
  .rw[<-List.drop_drop,e,List.drop_left']
   .exact hr
   .rfl
 rcases hx with⟨c,rfl,mZ,CO⟩|rfl
 .obtain⟨b1,b2⟩:=mz (k:=0) e rfl;have Ys:c.toNat<127:=by have:=UInt8.lt_iff_toNat_lt.1 CO;simpa using this
  have hc4:32<=c.toNat:=by have:=UInt8.le_iff_toNat_le.1 mZ;simpa using this
  refine⟨c.toNat,1,?_, .inl ⟨rfl,hc4,Ys⟩,hAt⟩;simp only[Utf8.decode,b2];rw[if_pos (by omega)]
 .obtain⟨b1,b2⟩:=mz (k:=0) e rfl;obtain⟨b3,b4⟩:=mz (k:=1) e rfl;refine⟨233,2,?_, .inr ⟨rfl,rfl⟩,hAt⟩;simp only[Utf8.decode,b2,b4];simp[b3]
theorem qy.take(h:qy s p):iD (s.data.toList.take p):=h.2.1
theorem qy.drop(h:qy s p):iD (s.data.toList.drop p):=h.2.2
def orM(M:aN)(B:Nat):Nat->Prop:=λi=>M i\/i=B
def dL {α:Type} [au α](M:aN)(B:Nat)(t:TypeId)(w:aj)(n:Nat)(xs:List α):Prop:=
 ∃(cur:Array an)(css:List (List an)),bR w B (.cells cur t (0,0))/\cur.size=n*au.size α/\xs.length<=n/\css.length=xs.length/\css.flatten=cur.toList.take (xs.length*au.size α)/\
  ∀(i:Nat)(cs:List an)(x:α),css[i]? =some cs->xs[i]? =some x->au.rep (orM M B) w cs x
section
variable {α:Type} [au α]{M:aN}{B:Nat}{t:TypeId}{w w':aj}{n:Nat}{xs:List α}
theorem dL.made(cur:Array an)(h:bR w B (.cells cur t (0,0)))(hs:cur.size=n*au.size α):dL (α:=α) M B t w n []:=
 ⟨cur,[],h,hs,Qbf _,rfl,by simp,λi cs x h=>by simp at h⟩
theorem dL.lt(h:dL M B t w n xs):B<w.heap.size:=by obtain⟨cur,css,h1,_⟩:=h;exact(Qaa.1 h1).1
theorem dL.below(h:dL M B t w n xs)(hb:aq w w'):dL M B t w' n xs:=by
 obtain⟨cur,css,h1,h2,h3,h4,h5,h6⟩:=h;exact⟨cur,css,(hb.block B (Qaa.1 h1).1).trans h1,h2,h3,h4,h5,λi cs x hc hx=>au.ev (h6 i cs x hc hx) (Ev.ao hb)⟩
theorem dL.cell(h:dL M B t w n xs)(hj:j<n*au.size α):∃v,bt w B j v/\w.frozen? ⟨B,j,none⟩=false:=by
 obtain⟨cur,css,h1,h2,_⟩:=h;exact⟨cur[j]'(by omega),cell_of_heap h1 (by simp[h2,hj]),ag h1 j⟩
theorem dL.slice(h:dL M B t w n xs)(hn:xs.length=n)(hB:¬M B)(hm:n<=maxLen):ab M w (xL (some ⟨B,0,none⟩) n n) xs:=by
 obtain⟨cur,css,h1,h2,h3,h4,h5,h6⟩:=h;subst hn;refine⟨css,⟨?_,some ⟨B,0,none⟩,xs.length,rfl,bN,hm,λ_=>⟨B,0,rfl,hB,(Qaa.1 h1).1,λj u hu=> ?_⟩⟩,h4,λi cs x hc hx=>au.ev (h6 i cs x hc hx) (Ev.dD w λi hi=> .inl hi)⟩
 .rw[h5,Qdb];simp[h2]
 .rw[h5]at hu;have hu2:=lr hu;rw[Nat.zero_add];exact cell_of_heap h1 (by simpa using hu2)
end
def Zg {l:List an}{o:Nat}{a b c d:an}(h:o+4<=l.length):((((l.set o a).set (o+1) b).set (o+2) c).set (o+3) d).take (o+4)=l.take o++[a,b,c,d]:=by
 apply List.ext_getElem?;intro i;rw[List.getElem?_take,List.getElem?_append];have hl:(l.take o).length=o:=by simp;omega
 rw[hl];by_cases h1:i<o
 .rw[if_pos (by omega),if_pos h1];rw[List.getElem?_set_ne (by omega),List.getElem?_set_ne (by omega),List.getElem?_set_ne (by omega),List.getElem?_set_ne (by omega),List.getElem?_take,if_pos h1]
 .rw[if_neg h1];by_cases h2:i<o+4
  .rw[if_pos h2];have:i=o\/i=o+1\/i=o+2\/i=o+3:=by omega
   rcases this with rfl|rfl|rfl|rfl
   .rw[List.getElem?_set_ne (by omega),List.getElem?_set_ne (by omega),List.getElem?_set_ne (by omega),List.getElem?_set_self (by omega)];simp
   .rw[List.getElem?_set_ne (by omega),List.getElem?_set_ne (by omega),List.getElem?_set_self (by simp;omega)];simp
   .rw[List.getElem?_set_ne (by omega),List.getElem?_set_self (by simp;omega)];simp
   .rw[List.getElem?_set_self (by simp;omega)];simp
  .rw[if_neg h2];rw[List.getElem?_eq_none (by simp;omega)]
variable{cur:Array an}{K:Nat}
def iE {o:Nat}{t:TypeId}(h:bR W K (.cells cur t (0,0)))(a b c d:an):
 ((((W.setCell ⟨K,o,none⟩ a).setCell ⟨K,o+1,none⟩ b).setCell ⟨K,o+2,none⟩ c).setCell ⟨K,o+3,none⟩ d).heap[K]? =some (.cells ((((cur.setIfInBounds o a).setIfInBounds (o+1) b).setIfInBounds (o+2) c).setIfInBounds (o+3) d) t (0,0)):=
 Qca _ K (o+3) _ _ d (Qca _ K (o+2) _ _ c (Qca _ K (o+1) _ _ b (Qca _ K o _ _ a h)))
theorem dL.BK {α:Type} [au α](h4:au.size α=4){M:aN}{B:Nat}{t:TypeId}{w:aj}{n:Nat}{xs:List α}(h:dL M B t w n xs)(hk:xs.length=k)(hn:k<n){x:α}{a b c d:an}(hx:au.rep (orM M B) w [a,b,c,d] x):
 dL M B t ((((w.setCell ⟨B,k*4,none⟩ a).setCell ⟨B,k*4+1,none⟩ b).setCell ⟨B,k*4+2,none⟩ c).setCell ⟨B,k*4+3,none⟩ d) n (xs++[x]):=by
 obtain⟨cur,css,h1,h2,h3,h5,h6,h7⟩:=h;subst hk;rw[h4]at h2 h6;have E:Ev (orM M B) w (orM M B) ((((w.setCell ⟨B,xs.length*4,none⟩ a).setCell ⟨B,xs.length*4+1,none⟩ b).setCell ⟨B,xs.length*4+2,none⟩ c).setCell ⟨B,xs.length*4+3,none⟩ d):=
  ((((Ev.refl _ w).setCell (.inl (.inr rfl)) a).setCell (.inl (.inr rfl)) b).setCell (.inl (.inr rfl)) c).setCell (.inl (.inr rfl)) d;refine⟨_,css++[[a,b,c,d]],iE h1 a b c d,by rw[h4];simp[h2],by simp;omega,by simp[h5],?_,λi cs y hc hy=> ?_⟩
 .rw[h4];simp only[List.flatten_append,List.flatten_cons,List.flatten_nil,List.append_nil,Qda,Qcc,Qcd,h6,Array.toList_setIfInBounds];rw[show(xs.length+(0+1))*4=xs.length*4+4 from by omega,Zg (by simp[h2];omega)]
 .by_cases hi:i<css.length
  .rw[Qbc hi]at hc;rw[Qbc (by omega)]at hy;exact au.ev (h7 i cs y hc hy) E
  .rw[Qbd (by omega)]at hc;rw[Qbd (by omega)]at hy;rw[h5]at hc;have h0:i-xs.length=0:=by
    cases hq:i-xs.length with
    |zero=>rfl
    |succ q=>rw[hq]at hc;simp at hc
   rw[h0]at hc hy;simp at hc hy;subst hc hy;exact au.ev hx E
def qN {css:List (List an)}{size:Nat}:(∀(i:Nat)(cs:List an),css[i]? =some cs->cs.length=size)->∀k,(css.take k).flatten=css.flatten.take (k*size)/\(css.drop k).flatten=css.flatten.drop (k*size):=by
 induction css with
 |nil=>intro _ k;simp
 |cons a r ih=>
  intro hs k;have ha:a.length=size:=hs 0 a rfl;cases k with
  |zero=>simp
  |succ k=>
   obtain⟨h1,h2⟩:=ih (λi c hc=>hs (i+1) c (by simpa using hc)) k;have e:(k+1)*size=a.length+k*size:=by rw[Nat.succ_mul,ha];omega
   constructor
   .rw[List.take_succ_cons,List.flatten_cons,List.flatten_cons,h1,e,List.take_length_add_append]
   .rw[List.drop_succ_cons,List.flatten_cons,h2,e,List.drop_length_add_append]
theorem ab.lens {α:Type} [au α]{xs:List α}{css:List (List an)}(h2:css.length=xs.length)(h3:∀(i:Nat)(cs:List an)(x:α),css[i]? =some cs->xs[i]? =some x->au.rep M w cs x):
 ∀(i:Nat)(cs:List an),css[i]? =some cs->cs.length=au.size α:=λi cs bJ=>by
 have hi:i<xs.length:=by rw[<-h2];exact(Qad.1 bJ).1
 exact au.len (h3 i cs _ bJ (Qac hi))
variable{cap:Nat}{a:fA}
theorem ab.upto {α:Type} [au α]{n:Nat}{xs:List α}(h:ab M w (xL a n cap) xs)(hn:xs.length=n)(hk:k<=n):ab M w (xL a k cap) (xs.take k):=by
 subst hn;obtain⟨css,h1,h2,h3⟩:=h;refine⟨css.take k,?_,by simp[h2],λi cs x hc hx=> ?_⟩
 .rw[(qN (ab.lens h2 h3) k).1,Qdb,Nat.min_eq_left hk];exact cA.upto h1 rfl hk
 .rw[List.getElem?_take]at hc hx;split at hc
  .rename_i hi;rw[if_pos hi]at hx;exact h3 i cs x hc hx
  .cases hc
theorem ab.from_ {α:Type} [au α]{n:Nat}{xs:List α}(h:ab M w (xL a n cap) xs)(hn:xs.length=n)(hk:k<=n):
 ab M w (xL (if cap=k then a else a.map (·.add (k*au.size α))) (n-k) (cap-k)) (xs.drop k):=by
 subst hn;obtain⟨css,h1,h2,h3⟩:=h;refine⟨css.drop k,?_,by simp[h2],λi cs x hc hx=> ?_⟩
 .rw[(qN (ab.lens h2 h3) k).2,List.length_drop];exact cA.from_ h1 rfl hk
 .rw[List.getElem?_drop]at hc hx;exact h3 _ cs x hc hx
def EX {l:List an}{o:Nat}(h:o<l.length):(l.set o v).take (o+1)=l.take o++[v]:=by
 rw[Qbb,List.getElem?_set_self h,List.take_set_of_le bN];rfl
theorem lU(K:Nat)(t:TypeId):∀(vs:List an)(o:Nat)(W:aj)(cur:Array an),bR W K (.cells cur t (0,0))->o+vs.length<=cur.size->
 ∃CG:Array an,(W.setCells K o vs).heap[K]? =some (.cells CG t (0,0))/\CG.size=cur.size/\CG.toList.take (o+vs.length)=cur.toList.take o++vs
 |[],o,W,cur,h,_=>⟨cur,h,rfl,by simp⟩
 |v::r,o,W,cur,h,hl=>by
  simp only[Qcc]at hl;obtain⟨CG,h1,h2,h3⟩:=lU K t r (o+1) _ _ (Qca W K o cur t v h) (by simp;omega);refine⟨CG,h1,by simpa using h2,?_⟩;rw[Qcc,show o+(r.length+1)=o+1+r.length from by omega,h3,Array.toList_setIfInBounds,EX (by simp;omega)];simp
theorem vm(M:aN)(K:Nat)(hK:M K):∀(vs:List an)(o:Nat)(w W:aj),Ev M w M W->Ev M w M (W.setCells K o vs)
 |[],_,_,_,h=>h
 |v::r,o,w,W,h=>vm M K hK r (o+1) w _ (h.setCell (.inl hK) v)
variable{B:Nat}
theorem dL.ZP {α:Type} [au α]{n:Nat}{xs:List α}(h:dL M B t w n xs)(hk:xs.length=k)(hn:k<n){x:α}{vs:List an}(hx:au.rep (orM M B) w vs x):
 dL M B t (w.setCells B (k*au.size α) vs) n (xs++[x]):=by
 obtain⟨cur,css,h1,h2,h3,h5,h6,h7⟩:=h;subst hk;have dA:=au.len hx;have hmul:xs.length*au.size α+au.size α<=n*au.size α:=by
  have:=Nat.mul_le_mul_right (au.size α) hn;rwa [Nat.succ_mul]at this
 have E:=vm (orM M B) B (.inr rfl) vs (xs.length*au.size α) w w (Ev.refl _ w);obtain⟨CG,g1,g2,g3⟩:=lU B t vs (xs.length*au.size α) w cur h1 (by rw[h2,dA];exact hmul);refine⟨CG,css++[vs],g1,g2.trans h2,by simp;omega,by simp[h5],?_,λi cs y hc hy=> ?_⟩
 .rw[List.flatten_append,Qda,List.length_singleton,Nat.succ_mul,<-dA];rw[dA]at g3⊢;rw[g3,h6];simp
 .by_cases hi:i<css.length
  .rw[Qbc hi]at hc;rw[Qbc (by omega)]at hy;exact au.ev (h7 i cs y hc hy) E
  .rw[Qbd (by omega)]at hc;rw[Qbd (by omega)]at hy;rw[h5]at hc;have h0:i-xs.length=0:=by
    cases hq:i-xs.length with
    |zero=>rfl
    |succ q=>rw[hq]at hc;simp at hc
   rw[h0]at hc hy;simp at hc hy;subst hc hy;exact au.ev hx E
def Jf(c:Int)(n:Int)(w:aj)(hc:I6 c)(hn:1<=n)(KD:n<=1000000):
 xC 8 #[xI c,xI n] w (ji (xI (aJ c n.toNat)) w):=by
 obtain⟨mZ,CO⟩:=hc;have e0:((aJ c n.toNat:Nat):Int)=(if c<0 then-(c+1)else c)%n:=by
  unfold aJ;rw[Int.toNat_of_nonneg (a:=n) (by omega)];exact Int.toNat_of_nonneg (Int.emod_nonneg _ (by omega))
 by_cases h:c<0
 .rw[if_pos h]at e0;have E:=af e0;clear e0;go_enter func8,ntmps8;go_wp2;go_ret;refine⟨iN ?_,rfl⟩;rw[E.o,<-Int.neg_tmod,Int.tmod_eq_emod_of_nonneg (by omega)]
 .rw[if_neg h]at e0;have E:=af e0;clear e0;go_enter func8,ntmps8;go_wp2;go_ret;exact⟨iN E.o.symm,rfl⟩
end Go.Proofs.YtepaofffbkfodaaGreatDoor
