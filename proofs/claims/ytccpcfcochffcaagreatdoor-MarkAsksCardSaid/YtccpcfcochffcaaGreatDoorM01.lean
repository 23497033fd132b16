/- A part of MarkAsks's proof; no condition. -/
import Derived.WalkSpells
import Derived.WalkLawsBesides
import Derived.Lib.Hide
import Derived.BigQuiet
import Derived.Test.YtccpcfcochffcaaGreatDoorProg
import Derived.Deep.DeepCutAuto
import Derived.Deep.CutBlock
import Derived.Deep.RegionWith
set_option linter.all false
set_option maxHeartbeats 8000000
set_option maxRecDepth 100000
namespace Go.Proofs.YtccpcfcochffcaaGreatDoor
open Tryz
section
open Go.RowKit
def hD{p:Prop}(h:p):Hid p:=Lib.hid h
def Qaa{α:Type _}{i:Nat}{b:α}{xs:Array α}:xs[i]? =some b↔∃h:i<xs.size,xs[i]=b:=Array.getElem?_eq_some_iff
def Qab(n:Nat):n<=n:=Nat.le_refl n
def Qac{α:Type _}{l:List α}{i:Nat}(h:i<l.length):l[i]? =some l[i]:=List.getElem?_eq_getElem h
def Qad{α:Type _}{i:Nat}{a:α}{l:List α}:l[i]? =some a↔∃h:i<l.length,l[i]=a:=List.getElem?_eq_some_iff
def Qae{P:Program}{fn:Func}{R:Ending->World->Prop}{a:Act}{w:World}{v:Value}(h:Sem.run P (results fn a.tmps) w=Result.ok v w)(k:a.defers=[])(r:R (Ending.returned v) w):bodyPost P fn R Exit.ret a w:=bodyPost_ret h k r
def Qaf{α:Type _}{l:List α}{i:Nat}{a:α}(h:l[i]? =some a):a∈l:=List.mem_of_getElem? h
def Qag(w:World)(a:Addr)(k:Nat)(v:Value)(h:k≠a.block):(w.setCell a v).heap[k]? =w.heap[k]? :=heap_setCell_other w a k v h
def Qah{α:Type _}{i:Nat}{l:List α}(h:l.length<=i):List.take i l=l:=List.take_of_length_le h
def Qba(n:Nat):(0:Int)<=n:=Int.natCast_nonneg n
def Qbb{α:Type _}{l:List α}{i:Nat}:List.take (i+1) l=List.take i l++l[i]?.toList:=List.take_add_one
def Qbc{α:Type _}{l₁ l₂:List α}{i:Nat}(h:i<l₁.length):(l₁++l₂)[i]? =l₁[i]? :=List.getElem?_append_left h
def Qbd{α:Type _}{l₁ l₂:List α}{i:Nat}(h:l₁.length<=i):(l₁++l₂)[i]? =l₂[i-l₁.length]? :=List.getElem?_append_right h
def Qbe(n:Int)(h: -9223372036854775808<=n/\n<=9223372036854775807):IntKind.i64.wrap n=n:=IntWalk.i64_in n h
def Qbf(n:Nat):0<=n:=Nat.zero_le n
def Qbg(n:Nat)(w:World):Below n w w:=Below.refl n w
def Qbh(w:World)(o:Obj):(w.alloc o).heap[w.heap.size]? =some o:=heap_alloc_new w o
def Qca(w:World)(g i:Nat)(cs:Array Value)(t:TypeId)(v:Value)(h:w.heap[g]? =some (.cells cs t (0,0))):(w.setCell ⟨g,i,none⟩ v).heap[g]? =some (.cells (cs.setIfInBounds i v) t (0,0)):=heap_setCell_same w g i cs t v h
def Qcb(w:World)(o:Obj)(k:Nat)(h:k<w.heap.size):(w.alloc o).heap[k]? =w.heap[k]? :=Below.heap_alloc w o k h
def Qcc{α:Type _}{a:α}{l:List α}:(a::l).length=l.length+1:=List.length_cons
def Qcd{α:Type _}:([]:List α).length=0:=List.length_nil
def Qce(a b:Bool):((a&&b)=true)=(a=true/\b=true):=Bool.and_eq_true a b
def Qcf{α:Type _}(a b:α):(some a=some b)=(a=b):=Option.some.injEq a b
def Qcg{a b c:Nat}:a<=b->b<=c->a<=c:=Nat.le_trans
def Qch{α:Type _}{a:α}{s t:List α}:a∈s++t↔a∈s\/a∈t:=List.mem_append
def Qda{α:Type _}{s t:List α}:(s++t).length=s.length+t.length:=List.length_append
def Qdb{α:Type _}{i:Nat}{l:List α}:(List.take i l).length=min i l.length:=List.length_take
def Qdc{α β:Type _}{l:List α}(f:α->β):(List.map f l).length=l.length:=List.length_map f
def Qdd{α:Type _}{l:List α}:l.length=0->l=[]:=List.eq_nil_of_length_eq_zero
def Qde{n m k:Nat}:n<m->m<=k->n<k:=Nat.lt_of_lt_of_le
def Qdf{α:Type _}{a b:α}{l:List α}:a∈b::l↔a=b\/a∈l:=List.mem_cons
def iP {k:IntKind}{a b:Int}(h:a=b):Ending.returned (.int k a)= .returned (.int k b):=by rw[h]
def ba {a b:Bool}(h:a=b):Ending.returned (.bool a)= .returned (.bool b):=by rw[h]
def lS {α:Type}{l:List α}{n j:Nat}{u:α}(h:(l.take n)[j]? =some u):l[j]? =some u:=by
 rw[List.getElem?_take]at h;split at h
 .exact h
 .cases h
structure ai(S:Nat->Prop)(w w':World):Prop where
 os:w'.os=w.os
 tape:w'.tape=w.tape
 output:w'.output=w.output
 size:w.heap.size<=w'.heap.size
 block:∀k,k<w.heap.size->¬S k->w'.heap[k]? =w.heap[k]?
section
variable {S T:Nat->Prop}{w w' w'':World}
theorem ai.refl(S:Nat->Prop)(w:World):ai S w w:=⟨rfl,rfl,rfl,Qab _,λ_ _ _=>rfl⟩
theorem ai.trans(h:ai S w w')(k:ai S w' w''):ai S w w'':=
 ⟨k.os.trans h.os,k.tape.trans h.tape,k.output.trans h.output,Qcg h.size k.size,λi hi hS=>(k.block i (Qde hi h.size) hS).trans (h.block i hi hS)⟩
theorem ai.dc(h:ai S w w')(k:ai T w' w'')(hT:∀i,T i->i<w.heap.size->S i):ai S w w'':=
 ⟨k.os.trans h.os,k.tape.trans h.tape,k.output.trans h.output,Qcg h.size k.size,λi hi hS=>(k.block i (Qde hi h.size) (λhh=>hS (hT i hh hi))).trans (h.block i hi hS)⟩
theorem ai.mono(h:ai S w w')(hST:∀i,S i->T i):ai T w w':=⟨h.os,h.tape,h.output,h.size,λi hi hT=>h.block i hi (λhs=>hT (hST i hs))⟩
theorem ai.drewN(h:ai S w w')(n:Nat):ai S w (w'.drewN n):=⟨h.os,h.tape,h.output,h.size,h.block⟩
theorem ai.drew(h:ai S w w'):ai S w w'.drew:=⟨h.os,h.tape,h.output,h.size,h.block⟩
theorem ai.alloc(h:ai S w w')(o:Obj):ai S w (w'.alloc o):=
 ⟨h.os,h.tape,h.output,Qcg h.size (by simp),λi hi hS=>(Qcb w' o i (Qde hi h.size)).trans (h.block i hi hS)⟩
theorem ai.setCell(h:ai S w w'){p:Addr}(hp:S p.block\/w.heap.size<=p.block)(u:Value):ai S w (w'.setCell p u):=
 ⟨h.os,h.tape,h.output,by simpa [World.setCell]using h.size,λi hi hS=>(Below.heap_setCell w' p u i (by rintro rfl;rcases hp with hp|hp;exact hS hp;omega)).trans (h.block i hi hS)⟩
theorem ai.ao(h:Below w.heap.size w w'):ai S w w':=⟨h.os,h.tape,h.output,h.size,λi hi _=>h.block i hi⟩
theorem ai.below(h:ai (λ_=>False) w w'):Below w.heap.size w w':=⟨h.os,h.tape,h.output,h.size,λi hi=>h.block i hi (λh=>h)⟩
theorem ai.grown {row:Option Nat}(h:ai S w w')(hg:w'.grownBy w'' row)(hr:∀g,row=some g->S g\/w.heap.size<=g):ai S w w'':=
 ⟨hg.os.trans h.os,hg.tape.trans h.tape,hg.output.trans h.output,Qcg h.size hg.size,λi hi hS=>(hg.block i (Qde hi h.size) (λe=>by rcases hr i e.symm with h1|h1;exact hS h1;omega)).trans (h.block i hi hS)⟩
theorem ai.cell(h:ai S w w'){p:Addr}(hp:p.block<w.heap.size)(hS:¬S p.block):w'.cell? p=w.cell? p:=World.cell?_of_block (w:=w) (h.block p.block hp hS)
theorem ai.frozen(h:ai S w w'){p:Addr}(hp:p.block<w.heap.size)(hS:¬S p.block):w'.frozen? p=w.frozen? p:=World.frozen?_of_block (w:=w) (h.block p.block hp hS)
end
def bj(F:Nat->Prop)(w:World)(size:Nat)(v:Value)(n:Nat)(xs:List Value):Prop:=
 xs.length=n*size/\∃a cap,v= .slice a n cap/\n<=cap/\cap<=maxLen/\(0<n->∃b off,a=some ⟨b,off,none⟩/\F b/\b<w.heap.size/\∀j u,xs[j]? =some u->w.cell? ⟨b,off+j,none⟩=some u)
section
variable {F G:Nat->Prop}{w w':World}{size n:Nat}{v:Value}{xs:List Value}
theorem bj.nil(F:Nat->Prop)(w:World)(size:Nat):bj F w size (.slice none 0 0) 0 []:=⟨by simp,none,0,rfl,Qab _,Qbf _,λh=>absurd h (by omega)⟩
theorem bj.uj(h:bj F w size v n xs)(hs:w.heap.size<=w'.heap.size)(hk:∀i,F i->i<w.heap.size->w'.heap[i]? =w.heap[i]?):bj F w' size v n xs:=by
 obtain⟨hl,a,cap,hv,hc,hm,hx⟩:=h;refine⟨hl,a,cap,hv,hc,hm,λhn=> ?_⟩;obtain⟨b,off,ha,hF,hb,aG⟩:=hx hn;exact⟨b,off,ha,hF,Qde hb hs,λj u hu=>(World.cell?_of_block (w:=w) (a:=⟨b,off+j,none⟩) (hk b hF hb)).trans (aG j u hu)⟩
theorem bj.mono(h:bj F w size v n xs)(hFG:∀i,F i->i<w.heap.size->G i):bj G w size v n xs:=by
 obtain⟨hl,a,cap,hv,hc,hm,hx⟩:=h;refine⟨hl,a,cap,hv,hc,hm,λhn=> ?_⟩;obtain⟨b,off,ha,hF,hb,aG⟩:=hx hn;exact⟨b,off,ha,hFG b hF hb,hb,aG⟩
theorem bj.only {S:Nat->Prop}(h:bj F w size v n xs)(ho:ai S w w')(hd:∀i,F i->¬S i):bj F w' size v n xs:=
 h.uj ho.size λi hi aX=>ho.block i aX (hd i hi)
theorem bj.below(h:bj F w size v n xs)(hb:Below w.heap.size w w'):bj F w' size v n xs:=h.uj hb.size λi _ aX=>hb.block i aX
theorem bj.alloc(h:bj F w size v n xs)(o:Obj):bj F (w.alloc o) size v n xs:=h.uj (by simp) λi _ aX=>Qcb w o i aX
theorem bj.drewN(h:bj F w size v n xs)(k:Nat):bj F (w.drewN k) size v n xs:=h
theorem bj.drew(h:bj F w size v n xs):bj F w.drew size v n xs:=h
theorem bj.upto(h:bj F w size v n xs){a:Option Addr}{cap k:Nat}(hv:v= .slice a n cap)(hk:k<=n):bj F w size (.slice a k cap) k (xs.take (k*size)):=by
 obtain⟨hl,a',fq,ry,hc,hm,hx⟩:=h;obtain⟨rfl,_,rfl⟩:a=a'/\n=n/\cap=fq:=by rw[hv]at ry;simpa using ry
 refine⟨by rw[Qdb,hl];exact Nat.min_eq_left (Nat.mul_le_mul_right _ hk),a,cap,rfl,by omega,hm,λhn=> ?_⟩;obtain⟨b,off,ha,hF,hb,aG⟩:=hx (by omega);exact⟨b,off,ha,hF,hb,λj u hu=>aG j u (lS hu)⟩
theorem bj.from_(h:bj F w size v n xs){a:Option Addr}{cap k:Nat}(hv:v= .slice a n cap)(hk:k<=n):
 bj F w size (.slice (if cap=k then a else a.map (·.add (k*size))) (n-k) (cap-k)) (n-k) (xs.drop (k*size)):=by
 obtain⟨hl,a',fq,ry,hc,hm,hx⟩:=h;obtain⟨rfl,_,rfl⟩:a=a'/\n=n/\cap=fq:=by rw[hv]at ry;simpa using ry
 refine⟨by rw[List.length_drop,hl,Nat.sub_mul],_,_,rfl,by omega,by omega,λhn=> ?_⟩;obtain⟨b,off,rfl,hF,hb,aG⟩:=hx (by omega);rw[if_neg (by omega)];refine⟨b,off+k*size,?_,hF,hb,λj u hu=> ?_⟩
 .simp only[Option.map,Addr.add];split<;>simp_all
 .rw[Nat.add_assoc];exact aG _ u (by rw[<-hu,List.getElem?_drop])
theorem bj.um {base:Nat}{e:TypeId}(h:w.ownsRow base e size v n xs):bj (λi=>v.ownBlock=some i) w size v n xs:=by
 refine⟨h.1,?_⟩;rcases h.2 with⟨rfl,rfl⟩|⟨g,cap,cur,rfl,hb,hh,Wt,wP,bD,htk⟩
 .exact⟨none,0,rfl,Qab _,Qbf _,λh=>absurd h (by omega)⟩
 .refine⟨_,cap,rfl,Wt,wP,λhn=>⟨g,0,rfl,rfl,(Qaa.1 hh).1,λj u hu=> ?_⟩⟩;rw[Nat.zero_add];have hj:j<xs.length:=(Qad.1 hu).1;simp only[World.cell?,hh];simp;rw[<-htk]at hu;have h2:=lS hu;simpa using h2
end
def ct(F:Nat->Prop)(w:World)(v:Value)(xs:List Int):Prop:=bj F w 1 v xs.length (xs.map (Value.int .i64))
section
variable {F G:Nat->Prop}{w w':World}{v:Value}{xs:List Int}
theorem ct.open_(h:ct F w v xs):∃a cap,v= .slice a xs.length cap/\xs.length<=cap/\cap<=9223372036854775807/\(0<xs.length->∃b off,a=some ⟨b,off,none⟩/\F b/\b<w.heap.size/\∀j x,xs[j]? =some x->w.cell? ⟨b,off+j,none⟩=some (.int .i64 x)):=by
 obtain⟨hl,a,cap,hv,hc,hm,hx⟩:=h;refine⟨a,cap,hv,hc,by unfold maxLen at hm;omega,λhn=> ?_⟩;obtain⟨b,off,ha,hF,hb,aG⟩:=hx hn;exact⟨b,off,ha,hF,hb,λj x hj=>aG j _ (by rw[List.getElem?_map,hj];rfl)⟩
theorem ct.uj(h:ct F w v xs)(hs:w.heap.size<=w'.heap.size)(hk:∀i,F i->i<w.heap.size->w'.heap[i]? =w.heap[i]?):ct F w' v xs:=bj.uj h hs hk
theorem ct.mono(h:ct F w v xs)(hFG:∀i,F i->i<w.heap.size->G i):ct G w v xs:=bj.mono h hFG
theorem ct.only {S:Nat->Prop}(h:ct F w v xs)(ho:ai S w w')(hd:∀i,F i->¬S i):ct F w' v xs:=bj.only h ho hd
theorem ct.below(h:ct F w v xs)(hb:Below w.heap.size w w'):ct F w' v xs:=bj.below h hb
theorem ct.alloc(h:ct F w v xs)(o:Obj):ct F (w.alloc o) v xs:=bj.alloc h o
theorem ct.drewN(h:ct F w v xs)(k:Nat):ct F (w.drewN k) v xs:=h
theorem ct.nil(F:Nat->Prop)(w:World):ct F w (.slice none 0 0) []:=bj.nil F w 1
theorem ct.upto(h:ct F w v xs){a:Option Addr}{n cap k:Nat}(hv:v= .slice a n cap)(hk:k<=xs.length):ct F w (.slice a k cap) (xs.take k):=by
 have hn:n=xs.length:=by obtain⟨_,_,_,e,_⟩:=h;rw[hv]at e;simp at e;exact e.2.1
 subst hn;have h1:=bj.upto h hv hk;unfold ct;rw[Qdb,Nat.min_eq_left hk,List.map_take];simpa using h1
theorem ct.from_(h:ct F w v xs){a:Option Addr}{n cap k:Nat}(hv:v= .slice a n cap)(hk:k<=xs.length):ct F w (.slice (if cap=k then a else a.map (·.add k)) (n-k) (cap-k)) (xs.drop k):=by
 have hn:n=xs.length:=by obtain⟨_,_,_,e,_⟩:=h;rw[hv]at e;simp at e;exact e.2.1
 subst hn;have h1:=bj.from_ h hv hk;unfold ct;rw[List.length_drop,List.map_drop];simpa using h1
theorem ct.cells {n:Nat}(h:ct F w v xs)(hn:xs.length=n):bj F w 1 v n (xs.map (Value.int .i64)):=by subst hn;exact h
theorem ct.um {base:Nat}{e:TypeId}{n:Nat}(h:w.ownsRow base e 1 v n (xs.map (Value.int .i64))):ct (λi=>v.ownBlock=some i) w v xs:=by
 have hn:xs.length=n:=by simpa using h.1
 subst hn;exact bj.um h
end
section
variable {P:Program}(w:World)
def rD(base:Nat)(t ty e:TypeId)(i:TypeInfo)(size:Nat)(ht:P.underlying t=some (.slice e))(hi:P.info? e=some i)
 (v:Value)(n:Nat)(xs:List Value)(od:w.ownsRow base e size v n xs)(c:Nat):(Builtin.append_ #[t,t] ty #[v, .slice none 0 c]).run P w= .ok v w:=by
 rcases od.2 with⟨rfl,rfl⟩|⟨g,cap,cur,rfl,_,_,Wt,_⟩
 .simp[Builtin.append_,run_underlying ht,sizeOf,typeInfo,hi,Builtin.lenOf,Builtin.firstCells]
 .simp[Builtin.append_,run_underlying ht,sizeOf,typeInfo,hi,Builtin.lenOf,Builtin.firstCells,Wt,storeCells]
def gD {F:Nat->Prop}(base:Nat)(t ty e:TypeId)(i:TypeInfo)(z:Value)(size bytes:Nat)(ht:P.underlying t=some (.slice e))(hi:P.info? e=some i)(hz:i.zero=some z)
 (hsize:i.size=size)(hby:i.bytes=bytes)(hzs:z.cells.size=size)(hsz:0<size)
 (v:Value)(n:Nat)(xs:List Value)(od:w.ownsRow base e size v n xs)
 (s:Value)(m:Nat)(news:List Value)(hr:bj F w size s m news)(h1:∀u∈news,u.oneCell'=true)
 (h63:n+m<=maxLen)(hbytes:(n+m)*bytes<=140737488355328)(hbase:base<=w.heap.size):
 ∃v' w',(Builtin.append_ #[t,t] ty #[v,s]).run P w= .ok v' w'/\w'.ownsRow base e size v' (n+m) (xs++news)/\w.grownBy w' v.ownBlock/\
  (v'.ownBlock=v.ownBlock\/v'.ownBlock=some w.heap.size):=by
 obtain⟨hl,A,cap,rfl,hmc,wP,hx⟩:=hr;rcases Nat.eq_zero_or_pos m with h0|h0
 .subst h0;have hn:news=[]:=Qdd (by simpa using hl);subst hn;rcases A with _|ad
  .exact⟨v,w,rD w base t ty e i size ht hi v n xs od cap,by simpa using od,World.grownBy.refl w _, .inl rfl⟩
  .obtain⟨v',w',oe,h2,h3,_,h5⟩:=run_append_own_at (P:=P) w base t ty e i z size bytes ht hi hz hsize hby hzs hsz v n xs od ad 0 cap [] (by simp) (by simp) (by simp) h63 hbytes hbase;exact⟨v',w',oe,h2,h3,h5⟩
 .obtain⟨b,off,rfl,_,_,aG⟩:=hx h0;obtain⟨v',w',oe,h2,h3,_,h5⟩:=run_append_own_at (P:=P) w base t ty e i z size bytes ht hi hz hsize hby hzs hsz v n xs od ⟨b,off,none⟩ m cap news hl (λj u hu=>by
   have:=aG j u hu;unfold Addr.add;split
   .rename_i h;subst h;simpa using this
   .exact this) h1 h63 hbytes hbase;exact⟨v',w',oe,h2,h3,h5⟩
def gS {F:Nat->Prop}{ops:Array Oper}{rest:List Oper}{o:Oper}{a:Act}{Q:Exit->Act->World->Prop}(hgd:o.guard=none)(s x:Operand)(t:TypeId)
 (ho:o.op= .call {callee:= .builtin .append,args:= #[s,x],argTypes:= #[t,t]})
 (base:Nat)(e:TypeId)(i:TypeInfo)(z:Value)(size bytes:Nat)(ht:P.underlying t=some (.slice e))(hi:P.info? e=some i)(hz:i.zero=some z)
 (hsize:i.size=size)(hby:i.bytes=bytes)(hzs:z.cells.size=size)(hsz:0<size)
 (v:Value)(n:Nat)(xs:List Value)(hs:a.eval s=v)(od:w.ownsRow base e size v n xs)
 (sv:Value)(m:Nat)(news:List Value)(hx:a.eval x=sv)(hr:bj F w size sv m news)(h1:∀u∈news,u.oneCell'=true)
 (h63:n+m<=maxLen)(hbytes:(n+m)*bytes<=140737488355328)(hbase:base<=w.heap.size)
 (h:∀v' w',w'.ownsRow base e size v' (n+m) (xs++news)->w.grownBy w' v.ownBlock->(v'.ownBlock=v.ownBlock\/v'.ownBlock=some w.heap.size)->wpList P ops Q rest (a.put o.dst v') w'):wpList P ops Q (o::rest) a w:=
 wpList_plain hgd λ_ hK=>by
  obtain⟨v',w',oe,h2,h3,h4⟩:=gD (P:=P) w base t o.type e i z size bytes ht hi hz hsize hby hzs hsz v n xs od sv m news hr h1 h63 hbytes hbase;unfold Oper.wp execOp;simp only[ho,resolve,invoke,builtin,Sem.run_bind,Sem.run_pure,Result.andThen_ok,List.map_toArray,List.map_cons,List.map_nil,hs,hx,oe];exact hK _ _ (h v' w' h2 h3 h4)
def ey {w:World}{base:Nat}{e:TypeId}{size n:Nat}{v:Value}{xs:List Value}(h:w.ownsRow base e size v n xs):∃a c,v= .slice a n c/\n<=c/\c<=maxLen:=by
 rcases h.2 with⟨rfl,rfl⟩|⟨g,cap,cur,rfl,_,_,h1,h2,_⟩
 .exact⟨none,0,rfl,Qab _,Qbf _⟩
 .exact⟨_,_,rfl,h1,h2⟩
def gU {F:Nat->Prop}{ops:Array Oper}{rest:List Oper}{o:Oper}{a:Act}{Q:Exit->Act->World->Prop}(hgd:o.guard=none)(s x:Operand)(t:TypeId)
 (ho:o.op= .call {callee:= .builtin .append,args:= #[s,x],argTypes:= #[t,t]})
 (base:Nat)(e:TypeId)(i:TypeInfo)(z:Value)(size bytes:Nat)(ht:P.underlying t=some (.slice e))(hi:P.info? e=some i)(hz:i.zero=some z)
 (hsize:i.size=size)(hby:i.bytes=bytes)(hzs:z.cells.size=size)(hsz:0<size)
 (v:Value)(n:Nat)(xs:List Value)(hs:a.eval s=v)(od:w.ownsRow base e size v n xs)
 (sv:Value)(m:Nat)(news:List Value)(hx:a.eval x=sv)(hr:bj F w size sv m news)(h1:∀u∈news,u.oneCell'=true)
 (h63:n+m<=maxLen)(hbytes:(n+m)*bytes<=140737488355328)(hbase:base<=w.heap.size)
 (h:∀a' c' w',w'.ownsRow base e size (.slice a' (n+m) c') (n+m) (xs++news)->w.grownBy w' v.ownBlock->((Value.slice a' (n+m) c').ownBlock=v.ownBlock\/(Value.slice a' (n+m) c').ownBlock=some w.heap.size)->wpList P ops Q rest (a.put o.dst (.slice a' (n+m) c')) w'):wpList P ops Q (o::rest) a w:=
 gS w hgd s x t ho base e i z size bytes ht hi hz hsize hby hzs hsz v n xs hs od sv m news hx hr h1 h63 hbytes hbase λv' w' h2 h3 h4=>by
  obtain⟨a',c',rfl,_,_⟩:=ey h2;exact h a' c' w' h2 h3 h4
end
abbrev aq(w W:World):Prop:=Below w.heap.size w W
abbrev xC:=Calls prog
@[simp]abbrev aU(w:World)(b o:Nat)(v:Value):Prop:=w.cell? ⟨b,o,none⟩=some v
@[simp]abbrev cI(w:World)(b:Nat)(o:Obj):Prop:=w.heap[b]? =some o
abbrev xF:Nat->Prop:=λ_=>False
abbrev xI(n:Int):Value:=.int .i64 n
abbrev xS(s:ByteArray):Value:=.string s
abbrev xL(a:Option Addr)(n c:Nat):Value:=.slice a n c
abbrev xB(b:Bool):Value:=.bool b
abbrev xP(b:Nat):Value:=.pointer (some ⟨b,0,none⟩)
abbrev xR(v:Value):Ending:=.returned v
abbrev aj:=World
abbrev aT:=ByteArray
abbrev an:=Value
abbrev aS:=Nat->Prop
abbrev dC:=Option Addr
@[simp]abbrev pd(w u:World)(o:Nat)(v:Value):Prop:=w.cell? ⟨u.heap.size,o,none⟩=some v
@[simp]abbrev DD(w u:World)(o:Nat)(v:Value):Prop:=w.cell? ⟨u.heap.size+1,o,none⟩=some v
@[simp]abbrev dY(w u:World)(o:Obj):Prop:=w.heap[u.heap.size]? =some o
def dJ {P:Program}{f:FuncId}{a:Array Value}{w u:World}{x:Ending}{R:Ending->World->Prop}(h:Calls P f a w λe w'=>e=x/\u=w')(k:R x u):Calls P f a w R:=h.mono (by rintro e w'⟨rfl,rfl⟩;exact k)
def cG {P:Program}{f:FuncId}{a:Array Value}{w:World}{x:Ending}{S:World->Prop}{R:Ending->World->Prop}(h:Calls P f a w λe w'=>e=x/\S w')(k:∀w',S w'->R x w'):Calls P f a w R:=h.mono (by rintro e w'⟨rfl,g⟩;exact k w' g)
def cM {α:Type _}(a:α):∃b,b=a:=⟨a,rfl⟩
def fx {α:Type _}(a:α):∃b,a=b:=⟨a,rfl⟩
abbrev xZ(w:World):Nat:=w.heap.size
abbrev xK(c:Array Value)(t:TypeId):Obj:=.cells c t (0,0)
abbrev xSc(w:World)(b o:Nat)(v:Value):World:=w.setCell ⟨b,o,none⟩ v
abbrev cN(v:Value)(w:World):Ending->World->Prop:=λe w'=>e= .returned v/\Below w.heap.size w w'
abbrev gE(v:Value)(w:World):Ending->World->Prop:=λe w'=>e= .returned v/\w=w'
def Hd(p:Prop):Prop:=p
theorem Hd.o {p:Prop}(h:Hd p):p:=h
def af {p:Prop}(h:p):Hd p:=h
def fV {w:World}{Q:World->Prop}(h:∀W,Below w.heap.size w W->Q W):Hd (∀W,Below w.heap.size w W->Q W):=h
def bO {w:World}{o:Obj}:Below w.heap.size w (w.alloc o):=(Qbg _ _).alloc (Qab _) _
def dK {n:Nat}{w:World}:Below n w w:=Qbg _ _
def bq {n:Nat}:n<=n:=Qab _
def dQ {α:Type _}(l:List α)(i:Nat)(h:i<l.length):∃x,l[i]? =some x:=⟨_,Qac h⟩
def gY {a b:Option Addr}{n m c d:Nat}(h:Value.slice a n c=.slice b m d):a=b/\c=d:=by simp only[Value.slice.injEq]at h;exact⟨h.1,h.2.2⟩
def nu {W:World}{b:Nat}{cs:Array Value}{t:TypeId}(h:W.heap[b]? =some (.cells cs t (0,0))):W.frozen? ⟨b,0,none⟩=false/\W.frozen? ⟨b,1,none⟩=false:=⟨by simp[World.frozen?,h],by simp[World.frozen?,h]⟩
def ic {W:World}{b:Nat}{cs:Array Value}{t:TypeId}(h:W.heap[b]? =some (.cells cs t (0,0))):W.frozen? ⟨b,0,none⟩=false/\W.frozen? ⟨b,1,none⟩=false/\W.frozen? ⟨b,2,none⟩=false/\W.frozen? ⟨b,3,none⟩=false:=⟨by simp[World.frozen?,h],by simp[World.frozen?,h],by simp[World.frozen?,h],by simp[World.frozen?,h]⟩
def Yp {W:World}{b:Nat}{cs:Array Value}{t:TypeId}(h:W.heap[b]? =some (.cells cs t (0,0))):W.frozen? ⟨b,0,none⟩=false/\W.frozen? ⟨b,1,none⟩=false/\W.frozen? ⟨b,2,none⟩=false/\W.frozen? ⟨b,3,none⟩=false/\W.frozen? ⟨b,4,none⟩=false/\W.frozen? ⟨b,5,none⟩=false/\W.frozen? ⟨b,6,none⟩=false/\W.frozen? ⟨b,7,none⟩=false:=⟨by simp[World.frozen?,h],by simp[World.frozen?,h],by simp[World.frozen?,h],by simp[World.frozen?,h],by simp[World.frozen?,h],by simp[World.frozen?,h],by simp[World.frozen?,h],by simp[World.frozen?,h]⟩
abbrev iN:Array Value:=#[.int .i64 0, .int .i64 0, .string ⟨#[]⟩, .slice none 0 0]
structure Ev(M:aS)(w:aj)(M':aS)(w':aj):Prop where
 only:ai M w w'
 sub:∀i,M' i->M i\/w.heap.size<=i
theorem Ev.refl(M:aS)(w:aj):Ev M w M w:=⟨ai.refl M w,λ_ h=> .inl h⟩
theorem Ev.trans {M M' M'':aS}{w w' w'':aj}(h:Ev M w M' w')(k:Ev M' w' M'' w''):Ev M w M'' w'':=
 ⟨h.only.dc k.only λi hi aX=>(h.sub i hi).elim (λh=>h) (λh=>by omega),
  λi hi=>(k.sub i hi).elim (h.sub i) λh1=> .inr (Qcg h.only.size h1)⟩
theorem Ev.ao {M:aS}{w w':aj}(h:aq w w'):Ev M w M w':=⟨ai.ao h,λ_ h=> .inl h⟩
theorem Ev.drewN(M:aS)(w:aj)(n:Nat):Ev M w M (w.drewN n):=⟨(ai.refl M w).drewN n,λ_ h=> .inl h⟩
theorem bj.ev {M M':aS}{w w':aj}{size n:Nat}{v:an}{xs:List an}(h:bj (λi=>¬M i) w size v n xs)(k:Ev M w M' w'):bj (λi=>¬M' i) w' size v n xs:=
 (bj.only (F:=λi=>¬M i/\i<w.heap.size) (h.mono λi hi hl=>⟨hi,hl⟩) k.only (λi hi=>hi.1)).mono λi hi _ h1=>(k.sub i h1).elim hi.1 λh2=>by omega
class aA(α:Type)where
 size:Nat
 rep:(Nat->Prop)->aj->List an->α->Prop
 len:∀{M w cs x},rep M w cs x->cs.length=size
 flat:∀{M w cs x},rep M w cs x->∀u∈cs,u.oneCell'=true
 ev:∀{M M' w w' cs x},rep M w cs x->Ev M w M' w'->rep M' w' cs x
def ab {α:Type} [aA α](M:aS)(w:aj)(v:an)(xs:List α):Prop:=
 ∃css:List (List an),bj (λi=>¬M i) w (aA.size α) v xs.length css.flatten/\css.length=xs.length/\∀(i:Nat)(cs:List an)(x:α),css[i]? =some cs->xs[i]? =some x->aA.rep M w cs x
section
variable {α:Type} [aA α]{M M':aS}{w w':aj}{v:an}{xs:List α}
theorem ab.ev(h:ab M w v xs)(k:Ev M w M' w'):ab M' w' v xs:=by
 obtain⟨css,h1,h2,h3⟩:=h;exact⟨css,h1.ev k,h2,λi cs x hc hx=>aA.ev (h3 i cs x hc hx) k⟩
theorem ab.below(h:ab M w v xs)(k:aq w w'):ab M w' v xs:=h.ev (Ev.ao k)
theorem ab.nil(M:aS)(w:aj):ab (α:=α) M w (xL none 0 0) []:=⟨[],bj.nil _ _ _,rfl,λi cs x h=>by simp at h⟩
def kO {css:List (List an)}{size:Nat}(hs:∀(i:Nat)(cs:List an),css[i]? =some cs->cs.length=size):∀(i:Nat)(cs:List an)(j:Nat)(u:an),css[i]? =some cs->cs[j]? =some u->css.flatten[i*size+j]? =some u:=by
 induction css with
 |nil=>intro i cs j u h;simp at h
 |cons a r ih=>
  intro i cs j u hi hj;have ha:a.length=size:=hs 0 a rfl;cases i with
  |zero=>
   simp at hi;subst hi;have xE:j<a.length:=(Qad.1 hj).1;rw[List.flatten_cons,Nat.zero_mul,Nat.zero_add,Qbc xE];exact hj
  |succ i=>
   have TO:r[i]? =some cs:=by simpa using hi
   have:=ih (λk c hk=>hs (k+1) c (by simpa using hk)) i cs j u TO hj;rw[List.flatten_cons,Qbd (by rw[ha,Nat.succ_mul];omega),ha];rw[show(i+1)*size+j-size=i*size+j from by rw[Nat.succ_mul];omega];exact this
theorem ab.open_(h:ab M w v xs):∃a cap,v=xL a xs.length cap/\xs.length<=cap/\cap<=9223372036854775807/\(0<xs.length->∃b off,a=some ⟨b,off,none⟩/\¬M b/\b<w.heap.size/\
 ∀(i:Nat)(x:α),xs[i]? =some x->∃cs,aA.rep M w cs x/\∀(j:Nat)(u:an),cs[j]? =some u->aU w b (off+i*aA.size α+j) u):=by
 obtain⟨css,⟨hl,a,cap,hv,hc,hm,hx⟩,h2,h3⟩:=h;refine⟨a,cap,hv,hc,by unfold maxLen at hm;omega,λhn=> ?_⟩;obtain⟨b,off,ha,hF,hb,aG⟩:=hx hn;have hlen:∀(i:Nat)(cs:List an),css[i]? =some cs->cs.length=aA.size α:=λi cs bD=>by
  have hi:i<xs.length:=by rw[<-h2];exact(Qad.1 bD).1
  exact aA.len (h3 i cs _ bD (Qac hi))
 refine⟨b,off,ha,hF,hb,λi x hxi=> ?_⟩;have hi:i<css.length:=by rw[h2];exact(Qad.1 hxi).1
 exact⟨css[i],h3 i _ x (Qac hi) hxi,λj u hu=>by rw[Nat.add_assoc];exact aG _ u (kO hlen i _ j u (Qac hi) hu)⟩
end
structure aR where
 kind:Int
 of:Int
 deriving DecidableEq
inductive au where
 |mk(kind n:Int)(s:aT)(l:List au)
structure ay where
 name:aT
 type:aR
 indexed:Bool
structure az where
 name:aT
 fields:List ay
inductive ax where
 |mk(kind n:Int)(s:aT)(kids:List ax)
structure aB where
 kind:Int
 field:aT
 name:aT
 more:aT
 type:aR
 expr:aT
 other:aT
structure aK where
 first:az
 changes:List aB
structure bH where
 id:Int
 cls:Int
 ver:Int
 aJ:List au
structure cT where
 name:aT
 id:Int
structure bE where
 lines:List aK
 objs:List bH
 roots:List cT
 next:Int
def ez {M:aS}{w:aj}{α:Type} [aA α]{v:an}{xs:List α}(h:ab M w v xs):v.oneCell'=true:=by
 obtain⟨css,⟨_,a,cap,rfl,_⟩,_⟩:=h;rfl
instance:aA ay where
 size:=4
 rep:=λ_ _ cs x=>cs=[xS x.name,xI x.type.kind,xI x.type.of,xB x.indexed]/\x.name.size<=maxLen
 len:=λh=>by rw[h.1];rfl
 flat:=λh u hu=>by rw[h.1]at hu;simp at hu;rcases hu with rfl|rfl|rfl|rfl<;>rfl
 ev:=λh _=>h
instance:aA aB where
 size:=8
 rep:=λ_ _ cs x=>cs=[xI x.kind,xS x.field,xS x.name,xS x.more,xI x.type.kind,xI x.type.of,xS x.expr,xS x.other]/\x.field.size<=maxLen/\x.name.size<=maxLen/\x.more.size<=maxLen/\x.expr.size<=maxLen/\x.other.size<=maxLen
 len:=λh=>by rw[h.1];rfl
 flat:=λh u hu=>by rw[h.1]at hu;simp at hu;rcases hu with rfl|rfl|rfl|rfl|rfl|rfl|rfl|rfl<;>rfl
 ev:=λh _=>h
instance:aA cT where
 size:=2
 rep:=λ_ _ cs x=>cs=[xS x.name,xI x.id]/\x.name.size<=maxLen
 len:=λh=>by rw[h.1];rfl
 flat:=λh u hu=>by rw[h.1]at hu;simp at hu;rcases hu with rfl|rfl<;>rfl
 ev:=λh _=>h
instance:aA Int where
 size:=1
 rep:=λ_ _ cs x=>cs=[xI x]
 len:=λh=>by rw[h];rfl
 flat:=λh u hu=>by rw[h]at hu;simp at hu;subst hu;rfl
 ev:=λh _=>h
instance:aA az where
 size:=2
 rep:=λM w cs x=>∃fv,cs=[xS x.name,fv]/\ab M w fv x.fields/\x.name.size<=maxLen
 len:=λ⟨_,h,_⟩=>by rw[h];rfl
 flat:=λ⟨_,h,h1,_⟩u hu=>by rw[h]at hu;simp at hu;rcases hu with rfl|rfl;rfl;exact ez h1
 ev:=λ⟨fv,h,h1,h2⟩k=>⟨fv,h,h1.ev k,h2⟩
instance:aA aK where
 size:=3
 rep:=λM w cs x=>∃fv cv,cs=[xS x.first.name,fv,cv]/\ab M w fv x.first.fields/\ab M w cv x.changes/\x.first.name.size<=maxLen
 len:=λ⟨_,_,h,_⟩=>by rw[h];rfl
 flat:=λ⟨_,_,h,h1,h2,_⟩u hu=>by rw[h]at hu;simp at hu;rcases hu with rfl|rfl|rfl;rfl;exact ez h1;exact ez h2
 ev:=λ⟨fv,cv,h,h1,h2,h3⟩k=>⟨fv,cv,h,h1.ev k,h2.ev k,h3⟩
mutual
inductive eN(M:aS)(w:aj):List an->au->Prop
 |mk(k n:Int)(s:aT)(l:List au)(a:an)(css:List (List an)):bj (λi=>¬M i) w 4 a l.length css.flatten->s.size<=maxLen->mE M w css l->eN M w [xI k,xI n,xS s,a] (.mk k n s l)
inductive mE(M:aS)(w:aj):List (List an)->List au->Prop
 |nil:mE M w [] []
 |cons(cs:List an)(v:au)(css:List (List an))(l:List au):eN M w cs v->mE M w css l->mE M w (cs::css) (v::l)
end
mutual
theorem eN.Av {M M':aS}{w w':aj}{cs:List an}{v:au}(h:eN M w cs v)(k:Ev M w M' w'):eN M' w' cs v:=by
 match h with
 | .mk kd n s l a css h1 hs h2=>exact .mk kd n s l a css (h1.ev k) hs (h2.Av k)
theorem mE.Av {M M':aS}{w w':aj}{css:List (List an)}{l:List au}(h:mE M w css l)(k:Ev M w M' w'):mE M' w' css l:=by
 match h with
 | .nil=>exact .nil
 | .cons cs v css l h1 h2=>exact .cons cs v css l (h1.Av k) (h2.Av k)
end
variable{F:aS}
def Ba {w:aj}{size n:Nat}{v:an}{xs:List an}(h:bj F w size v n xs):v.oneCell'=true:=by obtain⟨_,a,cap,rfl,_⟩:=h;rfl
instance:aA au where
 size:=4
 rep:=eN
 len:=λh=>by cases h;rfl
 flat:=λh u hu=>by
  cases h with
  |mk k n s l a css h1 hs h2=>simp at hu;rcases hu with rfl|rfl|rfl|rfl;rfl;rfl;rfl;exact Ba h1
 ev:=λh k=>h.Av k
theorem mE.iff {M:aS}{w:aj}:∀{css:List (List an)}{l:List au},mE M w css l↔css.length=l.length/\∀(i:Nat)(cs:List an)(x:au),css[i]? =some cs->l[i]? =some x->eN M w cs x
 |[],[]=>⟨λ_=>⟨rfl,λi cs x h=>by simp at h⟩,λ_=> .nil⟩
 |[],_::_=>⟨λh=>(by cases h),λh=>(by simp at h)⟩
 |_::_,[]=>⟨λh=>(by cases h),λh=>(by simp at h)⟩
 |cs::css,v::l=>by
  constructor
  .intro h;cases h with
   |cons _ _ _ _ h1 h2=>
    obtain⟨e,h3⟩:=(mE.iff (css:=css) (l:=l)).1 h2;refine⟨by simp[e],λi c x hc hx=> ?_⟩;cases i with
    |zero=>simp at hc hx;subst hc hx;exact h1
    |succ i=>exact h3 i c x (by simpa using hc) (by simpa using hx)
  .rintro⟨e,h⟩;exact .cons _ _ _ _ (h 0 cs v rfl rfl) ((mE.iff (css:=css) (l:=l)).2 ⟨by simpa using e,λi c x hc hx=>h (i+1) c x (by simpa using hc) (by simpa using hx)⟩)
variable{l:List au}{s:aT}{cs:List an}
theorem eN.iff {M:aS}{w:aj}{k n:Int}:eN M w cs (.mk k n s l)↔∃a,cs=[xI k,xI n,xS s,a]/\ab M w a l/\s.size<=maxLen:=by
 constructor
 .intro h;cases h with
  |mk _ _ _ _ a css h1 hs h2=>
   obtain⟨e,h3⟩:=mE.iff.1 h2;exact⟨a,rfl,⟨css,h1,e,h3⟩,hs⟩
 .rintro⟨a,rfl,⟨css,h1,e,h3⟩,hs⟩;exact .mk k n s l a css h1 hs (mE.iff.2 ⟨e,h3⟩)
mutual
inductive cC(M:aS)(w:aj):List an->ax->Prop
 |mk(k n:Int)(s:aT)(l:List ax)(a:an)(css:List (List an)):bj (λi=>¬M i) w 4 a l.length css.flatten->s.size<=maxLen->jo M w css l->cC M w [xI k,xI n,xS s,a] (.mk k n s l)
inductive jo(M:aS)(w:aj):List (List an)->List ax->Prop
 |nil:jo M w [] []
 |cons(cs:List an)(v:ax)(css:List (List an))(l:List ax):cC M w cs v->jo M w css l->jo M w (cs::css) (v::l)
end
mutual
theorem cC.Av {M M':aS}{w w':aj}{cs:List an}{v:ax}(h:cC M w cs v)(k:Ev M w M' w'):cC M' w' cs v:=by
 match h with
 | .mk kd n s l a css h1 hs h2=>exact .mk kd n s l a css (h1.ev k) hs (h2.Av k)
theorem jo.Av {M M':Nat->Prop}{w w':World}{css:List (List Value)}{l:List ax}(h:jo M w css l)(k:Ev M w M' w'):jo M' w' css l:=by
 match h with
 | .nil=>exact .nil
 | .cons cs v css l h1 h2=>exact .cons cs v css l (h1.Av k) (h2.Av k)
end
instance:aA ax where
 size:=4
 rep:=cC
 len:=λh=>by cases h;rfl
 flat:=λh u hu=>by
  cases h with
  |mk k n s l a css h1 hs h2=>simp at hu;rcases hu with rfl|rfl|rfl|rfl;rfl;rfl;rfl;exact Ba h1
 ev:=λh k=>h.Av k
theorem jo.iff {M:aS}{w:aj}:∀{css:List (List an)}{l:List ax},jo M w css l↔css.length=l.length/\∀(i:Nat)(cs:List an)(x:ax),css[i]? =some cs->l[i]? =some x->cC M w cs x
 |[],[]=>⟨λ_=>⟨rfl,λi cs x h=>by simp at h⟩,λ_=> .nil⟩
 |[],_::_=>⟨λh=>(by cases h),λh=>(by simp at h)⟩
 |_::_,[]=>⟨λh=>(by cases h),λh=>(by simp at h)⟩
 |cs::css,v::l=>by
  constructor
  .intro h;cases h with
   |cons _ _ _ _ h1 h2=>
    obtain⟨e,h3⟩:=(jo.iff (css:=css) (l:=l)).1 h2;refine⟨by simp[e],λi c x hc hx=> ?_⟩;cases i with
    |zero=>simp at hc hx;subst hc hx;exact h1
    |succ i=>exact h3 i c x (by simpa using hc) (by simpa using hx)
  .rintro⟨e,h⟩;exact .cons _ _ _ _ (h 0 cs v rfl rfl) ((jo.iff (css:=css) (l:=l)).2 ⟨by simpa using e,λi c x hc hx=>h (i+1) c x (by simpa using hc) (by simpa using hx)⟩)
theorem cC.iff {M:aS}{w:aj}{k n:Int}{l:List ax}:cC M w cs (.mk k n s l)↔∃a,cs=[xI k,xI n,xS s,a]/\ab M w a l/\s.size<=maxLen:=by
 constructor
 .intro h;cases h with
  |mk _ _ _ _ a css h1 hs h2=>
   obtain⟨e,h3⟩:=jo.iff.1 h2;exact⟨a,rfl,⟨css,h1,e,h3⟩,hs⟩
 .rintro⟨a,rfl,⟨css,h1,e,h3⟩,hs⟩;exact .mk k n s l a css h1 hs (jo.iff.2 ⟨e,h3⟩)
instance:aA bH where
 size:=4
 rep:=λM w cs x=>∃vv,cs=[xI x.id,xI x.cls,xI x.ver,vv]/\ab M w vv x.aJ
 len:=λ⟨_,h,_⟩=>by rw[h];rfl
 flat:=λ⟨_,h,h1⟩u hu=>by rw[h]at hu;simp at hu;rcases hu with rfl|rfl|rfl|rfl;rfl;rfl;rfl;exact ez h1
 ev:=λ⟨vv,h,h1⟩k=>⟨vv,h,h1.ev k⟩
def bS {α:Type} [aA α](M:aS)(w:aj)(v:an)(x:α):Prop:=∃cs,v= .agg cs.toArray/\aA.rep M w cs x
theorem bS.ev {α:Type} [aA α]{M M':aS}{w w':aj}{v:an}{x:α}(h:bS M w v x)(k:Ev M w M' w'):bS M' w' v x:=by
 obtain⟨cs,h1,h2⟩:=h;exact⟨cs,h1,aA.ev h2 k⟩
theorem bS.below {α:Type} [aA α]{M:aS}{w w':aj}{v:an}{x:α}(h:bS M w v x)(k:aq w w'):bS M w' v x:=h.ev (Ev.ao k)
def bW(w:aj)(R:an->aj->Prop)(e:Ending)(w':aj):Prop:=∃v,e=xR v/\R v w'/\aq w w'
abbrev xG(f:FuncId)(a:Array Value)(w:World)(R:Value->World->Prop):Prop:=Calls prog f a w (bW w R)
def Bd(M:aS)(w:aj):Prop:=∀i,M i->i<w.heap.size
theorem Bd.below {M:aS}{w w':aj}(h:Bd M w)(k:aq w w'):Bd M w':=λi hi=>Qde (h i hi) k.size
def bB(v:an)(M:aS):Nat->Prop:=λi=>M i\/v.ownBlock=some i
def aP {α:Type} [aA α](M:aS)(base:Nat)(e:TypeId)(w:aj)(v:an)(xs:List α):Prop:=
 ∃css:List (List an),w.ownsRow base e (aA.size α) v xs.length css.flatten/\css.length=xs.length/\∀(i:Nat)(cs:List an)(x:α),css[i]? =some cs->xs[i]? =some x->aA.rep (bB v M) w cs x
variable{N:aS}
theorem Ev.eG {M:aS}(w:aj)(h:∀i,N i->M i):Ev M w N w:=⟨ai.refl M w,λi hi=> .inl (h i hi)⟩
section
variable {α:Type} [aA α]{M:aS}{base:Nat}{e:TypeId}{w w':aj}{v v':an}{xs:List α}
theorem aP.nil(M:aS)(base:Nat)(e:TypeId)(w:aj):aP (α:=α) M base e w (xL none 0 0) []:=⟨[],World.ownsRow_nil w base e _,rfl,λi cs x h=>by simp at h⟩
theorem aP.made(M:aS)(cur:Array an)(cap:Nat)(hb:base<=w.heap.size)(hm:cap<=maxLen)(hs:cur.size=cap*aA.size α):aP (α:=α) M base e (w.alloc (.cells cur e)) (xL (some ⟨w.heap.size,0,none⟩) 0 cap) []:=
 ⟨[],World.ownsRow_made w cur cap hb hm hs,rfl,λi cs x h=>by simp at h⟩
def Aw {size n:Nat}(h:w.ownsRow base e size v n cs)(hb:aq w w'):w'.ownsRow base e size v n cs:=by
 refine⟨h.1,?_⟩;rcases h.2 with h0|⟨g,cap,cur,h1,h2,h3,h4⟩
 .exact .inl h0
 .exact .inr ⟨g,cap,cur,h1,h2,(hb.block g (Qaa.1 h3).1).trans h3,h4⟩
theorem aP.below(h:aP M base e w v xs)(hb:aq w w'):aP M base e w' v xs:=by
 obtain⟨css,h1,h2,h3⟩:=h;exact⟨css,Aw h1 hb,h2,λi cs x hc hx=>aA.ev (h3 i cs x hc hx) (Ev.ao hb)⟩
theorem aP.alloc(h:aP M base e w v xs)(o:Obj):aP M base e (w.alloc o) v xs:=h.below ((Qbg _ w).alloc bq o)
theorem aP.open_(h:aP M base e w v xs):∃a cap,v=xL a xs.length cap/\xs.length<=cap/\cap<=9223372036854775807:=by
 obtain⟨css,h1,_⟩:=h;obtain⟨a,c,h2,h3,h4⟩:=ey h1;exact⟨a,c,h2,h3,by unfold maxLen at h4;omega⟩
theorem aP.dU(h:aP M base e w v xs):∀k,v.ownBlock=some k->base<=k/\k<w.heap.size:=by
 obtain⟨css,h1,_⟩:=h;exact h1.lt
theorem aP.slice(h:aP M base e w v xs)(hM:∀i,M i->i<base):ab M w v xs:=by
 obtain⟨css,h1,h2,h3⟩:=h;refine⟨css,(bj.um h1).mono λi hi _ hM'=> ?_,h2,λi cs x hc hx=>aA.ev (h3 i cs x hc hx) (Ev.eG w λi hi=> .inl hi)⟩;have:=(h1.lt i hi).1;have:=hM i hM';omega
theorem Ev.grown(hg:w.grownBy w' v.ownBlock)(hv:v'.ownBlock=v.ownBlock\/v'.ownBlock=some w.heap.size):Ev (bB v M) w (bB v' M) w':=by
 refine⟨(ai.refl _ w).grown hg λg UR=> .inl (.inr UR),λi hi=> ?_⟩;rcases hi with hi|hi
 .exact .inl (.inl hi)
 .rcases hv with hv|hv
  .exact .inl (.inr (hv▸hi))
  .rw[hv]at hi;cases hi;exact .inr bq
theorem aP.snoc {css:List (List an)}{x:α}(h2:css.length=xs.length)(h3:∀(i:Nat)(cs:List an)(x:α),css[i]? =some cs->xs[i]? =some x->aA.rep (bB v M) w cs x)
 (hx:aA.rep (bB v M) w cs x)(ho:w'.ownsRow base e (aA.size α) v' (xs.length+1) (css.flatten++cs))(hg:w.grownBy w' v.ownBlock)(hv:v'.ownBlock=v.ownBlock\/v'.ownBlock=some w.heap.size):
 aP M base e w' v' (xs++[x]):=by
 refine⟨css++[cs],by simpa using ho,by simp[h2],λi c y hc hy=> ?_⟩;by_cases hi:i<css.length
 .rw[Qbc hi]at hc;rw[Qbc (by omega)]at hy;exact aA.ev (h3 i c y hc hy) (Ev.grown hg hv)
 .rw[Qbd (by omega)]at hc;rw[Qbd (by omega)]at hy;rw[h2]at hc;by_cases h0:i-xs.length=0
  .rw[h0]at hc hy;simp at hc hy;subst hc hy;exact aA.ev hx (Ev.grown hg hv)
  .rw[List.getElem?_eq_none (by simp;omega)]at hc;cases hc
theorem aP.app {css Nk:List (List an)}{ys:List α}(h2:css.length=xs.length)(h3:∀(i:Nat)(cs:List an)(x:α),css[i]? =some cs->xs[i]? =some x->aA.rep (bB v M) w cs x)
 (k2:Nk.length=ys.length)(k3:∀(i:Nat)(cs:List an)(x:α),Nk[i]? =some cs->ys[i]? =some x->aA.rep (bB v M) w cs x)(ho:w'.ownsRow base e (aA.size α) v' (xs.length+ys.length) (css.flatten++Nk.flatten))(hg:w.grownBy w' v.ownBlock)(hv:v'.ownBlock=v.ownBlock\/v'.ownBlock=some w.heap.size):
 aP M base e w' v' (xs++ys):=by
 refine⟨css++Nk,by simpa using ho,by simp[h2,k2],λi c y hc hy=> ?_⟩;by_cases hi:i<css.length
 .rw[Qbc hi]at hc;rw[Qbc (by omega)]at hy;exact aA.ev (h3 i c y hc hy) (Ev.grown hg hv)
 .rw[Qbd (by omega)]at hc;rw[Qbd (by omega)]at hy;rw[h2]at hc;exact aA.ev (k3 _ c y hc hy) (Ev.grown hg hv)
end
def fe(c:Int):Bool:=decide (97<=c/\c<=122)
def Ln(c:Int)(w:aj)(h0:0<=c)(h1:c<=255):
 xC 222 #[.int .u8 c] w (gE (xB (fe c)) w):=by
 by_cases h2:97<=c
 .by_cases h3:c<=122
  .go_enter func222,ntmps222;go_wp2;go_ret;exact⟨ba (by simp[fe,h2,h3]),rfl⟩
  .go_enter func222,ntmps222;go_wp2;go_ret;exact⟨ba (by simp[fe,h2];omega),rfl⟩
 .go_enter func222,ntmps222;go_wp2;go_ret;exact⟨ba (by simp[fe];omega),rfl⟩
def kP(b:Bool)(c:Int)(w:aj)(hb:fe c=b)(h0:0<=c)(h1:c<=255):
 xC 222 #[.int .u8 c] w (gE (xB b) w):=by subst hb;exact Ln c w h0 h1
def bz(c:Int):Bool:=fe c||decide (48<=c/\c<=57)||decide (c=95)
def aE(s:aT):Bool:=decide (1<=s.size)&&decide (s.size<=20)&&(match s.data.toList with|[]=>false|c::r=>fe c.toNat&&(c::r).all λc=>bz c.toNat)
def aF(t:aR):Bool:=if t.kind=5 then decide (1<=t.of/\t.of<=4)else decide (1<=t.kind/\t.kind<=4/\t.of=0)
def qP(t:aR)(w:aj):
 xC 223 #[.agg #[xI t.kind,xI t.of]] w (cN (xB (aF t)) w):=by
 obtain⟨k,o⟩:=t;by_cases hk:k=5
 .subst hk;by_cases h1:1<=o
  .go_enter func223,ntmps223;go_wp2;go_ret;exact⟨ba (by simp[aF,h1]),bO⟩
  .go_enter func223,ntmps223;go_wp2;go_ret;exact⟨ba (by simp[aF];omega),bO⟩
 .have RT:(k==5)=false:=by simpa using hk
  by_cases h1:1<=k
  .by_cases h2:k<=4
   .go_enter func223,ntmps223;go_wp2;go_ret;exact⟨ba (by by_cases ho:o=0<;>simp[aF,hk,h1,h2,ho]),bO⟩
   .go_enter func223,ntmps223;go_wp2;go_ret;exact⟨ba (by simp[aF,hk];omega),bO⟩
  .go_enter func223,ntmps223;go_wp2;go_ret;exact⟨ba (by simp[aF,hk];omega),bO⟩
def du(s:aT)(k:Nat)(h:k<s.size):s.data.toList[k]? =some s[k]:=by
 rw[Qac (by simpa using h)];rfl
def Lo(s:aT)(k:Nat)(h:k<s.size):s.data.toList.take (k+1)=s.data.toList.take k++[s[k]]:=by
 rw[Qbb,du s k h];rfl
def bh(s:aT):s.data.toList.length=s.size:=by rw[Array.length_toList];rfl
def Ax(s:aT)(w:aj)(hs:s.size<=maxLen):
 xC 207 #[xS s] w (gE (xB (aE s)) w):=by
 unfold maxLen at hs;by_cases h1:s.size<1
 .go_enter func207,ntmps207;go_wp2;go_ret;exact⟨ba (by simp[aE];omega),rfl⟩
 .by_cases h2:20<s.size
  .go_enter func207,ntmps207;go_wp2;go_ret;exact⟨ba (by simp[aE];omega),rfl⟩
  .obtain⟨c0,tX⟩:∃c,s[0]=c:=⟨_,rfl⟩;have kD:(c0.toNat:Int)<=255:=by have:=c0.toNat_lt;omega
   obtain⟨r,hr⟩:∃r,s.data.toList=c0::r:=by
    have h:=du s 0 (by omega);rw[tX]at h;cases hl:s.data.toList with
    |nil=>rw[hl]at h;simp at h
    |cons a r=>rw[hl]at h;simp at h;exact⟨r,by rw[h]⟩
   have HR:=af hr;clear hr;cases TP:fe c0.toNat
   .have HS:=af TP;clear TP;go_enter func207,ntmps207;go_wp2_with fail;refine dJ (kP false _ _ HS.o (by omega) kD) ?_;go_wp2;go_ret;exact⟨ba (by simp[aE,HR.o,HS.o]),rfl⟩
   .have HS:=af TP;clear TP;go_enter func207,ntmps207;go_wp2_with fail;refine dJ (kP true _ _ HS.o (by omega) kD) ?_;go_wp2_with fail;clear tX;go_loopg [3,20]s.size(λg _ iv wr=>∃k:Nat,k<=s.size/\g=s.size-k/\iv=xI k/\Hd ((s.data.toList.take k).all (λc=>bz c.toNat)=true)/\w=wr);case atStart=>exact⟨0,Qbf _,rfl,rfl,by exact(rfl:(s.data.toList.take 0).all (λc=>bz c.toNat)=true),rfl⟩
    case round=>
     obtain⟨k,hk,rfl,rfl,HT,rfl⟩:=hrel;by_cases aX:k<s.size
     .obtain⟨c,hc⟩:=fx (s[k]);have B9:(c.toNat:Int)<=255:=by have:=c.toNat_lt;omega
      have oR:=af (Lo s k aX);have QA:=af hc;have pX:=af (du s k aX);have hkz:(k:Int)<s.size:=by omega
      have fin:bz c.toNat=true->(s.data.toList.take (k+1)).all (λc=>bz c.toNat)=true:=λh=>by
       rw[oR.o,List.all_append,HT.o,QA.o];simp[h]
      have mA:=af fin;clear fin;cases TP:fe c.toNat
      .have eB:=af TP;clear TP;have NO:Hd (bz c.toNat=false->aE s=false):=by
        have h:bz c.toNat=false->aE s=false:=λhn=>by
         have hm:c∈s.data.toList:=Qaf (by rw[pX.o,QA.o]);have ha:(s.data.toList.all λc=>bz c.toNat)=false:=by
          rw[List.all_eq_false];exact⟨c,hm,by simp[hn]⟩
         unfold aE;rw[HR.o]at ha⊢;simp only[ha,Bool.and_false]
        exact h
       by_cases hu:(c.toNat:Int)=95
       .have hub:((c.toNat:Int)!=95)=false:=by simpa using hu
        have RU:¬(c.toNat:Int)<48:=by omega
        have Ys:57<(c.toNat:Int):=by omega
        have HU:=af hu;clear hu;go_wp2_with fail;refine dJ (kP false _ _ eB.o (by omega) B9) ?_;go_wp2;go_roundg(s.size-(k+1));case measure=>omega
        case rel=>exact⟨k+1,by omega,rfl,by go_num,mA.o (by simp[bz,HU.o]),rfl⟩
       .have hub:((c.toNat:Int)!=95)=true:=by simpa using hu
        have HU:=af hu;clear hu;by_cases RU:(c.toNat:Int)<48
        .have HN:Hd (bz c.toNat=false):=by
          have h:bz c.toNat=false:=by
           have:=HU.o;simp only[bz,eB.o,Bool.false_or,Bool.or_eq_false_iff,decide_eq_false_iff_not];omega
          exact h
         go_wp2_with fail;refine dJ (kP false _ _ eB.o (by omega) B9) ?_;go_wp2;go_ret;refine⟨ba ?_,rfl⟩;rw[NO.o];exact HN.o
        .by_cases Ys:57<(c.toNat:Int)
         .have HN:Hd (bz c.toNat=false):=by
           have h:bz c.toNat=false:=by
            have:=HU.o;simp only[bz,eB.o,Bool.false_or,Bool.or_eq_false_iff,decide_eq_false_iff_not];omega
           exact h
          go_wp2_with fail;refine dJ (kP false _ _ eB.o (by omega) B9) ?_;go_wp2;go_ret;refine⟨ba ?_,rfl⟩;rw[NO.o];exact HN.o
         .have HN:Hd (bz c.toNat=true):=by
           have h:bz c.toNat=true:=by
            simp only[bz,eB.o,Bool.false_or,Bool.or_eq_true,decide_eq_true_eq];omega
           exact h
          go_wp2_with fail;refine dJ (kP false _ _ eB.o (by omega) B9) ?_;go_wp2;go_roundg(s.size-(k+1));case measure=>omega
          case rel=>exact⟨k+1,by omega,rfl,by go_num,mA.o (HN.o),rfl⟩
      .have eB:=af TP;clear TP;go_wp2_with fail;refine dJ (kP true _ _ eB.o (by omega) B9) ?_;go_wp2;go_roundg(s.size-(k+1));case measure=>omega
       case rel=>exact⟨k+1,by omega,rfl,by go_num,mA.o (by simp[bz,eB.o]),rfl⟩
     .go_wp2;go_ret;have h:=HT.o;rw[Qah (by rw[bh];omega)]at h;refine⟨ba ?_,rfl⟩;simp only[aE,HR.o]at h⊢;simp[h,HS.o];omega
def bC(f:ay):Bool:=aE f.name&&aF f.type&&(!f.indexed||decide (f.type.kind<=3))
def nv(b:Bool)(t:aR)(w:aj)(hb:aF t=b):
 xC 223 #[.agg #[xI t.kind,xI t.of]] w (cN (xB b) w):=by subst hb;exact qP t w
def fy(b:Bool)(s:aT)(w:aj)(hb:aE s=b)(hs:s.size<=maxLen):
 xC 207 #[xS s] w (gE (xB b) w):=by subst hb;exact Ax s w hs
variable{o:Obj}{w W:aj}
def boxed(h:Below (w.alloc o).heap.size (w.alloc o) W):dY W w o:=(h.block w.heap.size (by simp)).trans (Qbh w o)
def aQ(h:Below (w.alloc o).heap.size (w.alloc o) W):aq w W:=((Qbg _ w).alloc bq o).trans (h.mono (by simp))
variable{t:TypeId}{c0 c1:an}{g:Nat}
def ah(h:W.heap[g]? =some (xK #[c0,c1] t)):W.cell? ⟨g,0,none⟩=some c0/\W.cell? ⟨g,1,none⟩=some c1:=by simp[World.cell?,h]
variable{c2 c3:an}
def ae(h:W.heap[g]? =some (xK #[c0,c1,c2,c3] t)):
 W.cell? ⟨g,0,none⟩=some c0/\W.cell? ⟨g,1,none⟩=some c1/\W.cell? ⟨g,2,none⟩=some c2/\W.cell? ⟨g,3,none⟩=some c3:=by simp[World.cell?,h]
def xT(f:ay)(w:aj)(hs:f.name.size<=maxLen):
 xC 208 #[.agg #[xS f.name,xI f.type.kind,xI f.type.of,xB f.indexed]] w (cN (xB (bC f)) w):=by
 obtain⟨name,⟨k,o⟩,ix⟩:=f;have QB:=af hs;cases h1:aE name
 .have H1:=af h1;go_enter func208,ntmps208;go_wp2_with fail;refine dJ (fy false _ _ H1.o QB.o) ?_;go_wp2;go_ret;exact⟨ba (by simp[bC,H1.o]),bO⟩
 .cases h2:aF ⟨k,o⟩
  .have H1:=af h1;have H2:=af h2;go_enter func208,ntmps208;go_wp2_with fail;refine dJ (fy true _ _ H1.o QB.o) ?_;go_wp2_with fail;refine cG (nv false ⟨k,o⟩ _ H2.o) λw1 aC=> ?_;go_wp2;go_ret;exact⟨ba (by simp[bC,H1.o,H2.o]),aQ aC⟩
  .have H1:=af h1;have H2:=af h2;cases ix
   .go_enter func208,ntmps208;go_wp2_with fail;refine dJ (fy true _ _ H1.o QB.o) ?_;go_wp2_with fail;refine cG (nv true ⟨k,o⟩ _ H2.o) λw1 aC=> ?_;obtain⟨q0,q1,q2,q3⟩:=ae (boxed aC);have aO:=af aC;go_wp2;go_ret;exact⟨ba (by simp[bC,H1.o,H2.o]),aQ aO.o⟩
   .go_enter func208,ntmps208;go_wp2_with fail;refine dJ (fy true _ _ H1.o QB.o) ?_;go_wp2_with fail;refine cG (nv true ⟨k,o⟩ _ H2.o) λw1 aC=> ?_;obtain⟨q0,q1,q2,q3⟩:=ae (boxed aC);have aO:=af aC;go_wp2;go_ret;exact⟨ba (by simp[bC,H1.o,H2.o]),aQ aO.o⟩
def bV(a b:aT):Bool:=a.toList==b.toList
def DY(f:ay)(name:aT)(p:Nat)(w:aj)(hp:aU w p 0 (xS name))(gO:p<w.heap.size):
 xC 105 #[.agg #[xS f.name,xI f.type.kind,xI f.type.of,xB f.indexed],xP p] w (cN (xB (bV f.name name)) w):=by
 obtain⟨fn,⟨k,o⟩,ix⟩:=f;have hpn:p≠w.heap.size:=by omega
 go_enter func105,ntmps105;go_wp2;go_ret;exact⟨rfl,bO⟩
def idxOf {α:Type}(p:α->Bool)(xs:List α):Int:=match xs.findIdx? p with|some i=>i|none=> -1
variable{k:Nat}
def idxOf_hit {α:Type}{p:α->Bool}{xs:List α}{x:α}(h:∀y∈xs.take k,p y=false)(hx:xs[k]? =some x)(hp:p x=true):idxOf p xs=k:=by
 unfold idxOf;have:xs.findIdx? p=some k:=by
  rw[List.findIdx?_eq_some_iff_getElem];have hk:k<xs.length:=(Qad.1 hx).1;refine⟨hk,by rw[(Qad.1 hx).2];exact hp,λj hj=> ?_⟩;have:=h xs[j] (List.mem_take_iff_getElem.2 ⟨j,by omega,rfl⟩);simp[this]
 rw[this]
def kQ {α:Type}{p:α->Bool}{xs:List α}(h:∀y∈xs,p y=false):idxOf p xs= -1:=by
 unfold idxOf;rw[List.findIdx?_eq_none_iff.2 (λx hx=>by simp[h x hx])]
def xU(M:aS)(v:an)(w:aj)(xs:List ay)(name:aT)(p:Nat)(h:ab M w v xs)(hp:aU w p 0 (xS name))(gO:p<w.heap.size):
 xC 104 #[v, .func (.func 105) #[] #[xP p]] w (cN (xI (idxOf (λf=>bV f.name name) xs)) w):=by
 obtain⟨a,bQ,rfl,cK,hm,hc⟩:=h.open_;have HC:=af hc;have HP:=af hp;generalize hn:xs.length=n at*;have HN:=af hn;go_enter func104,ntmps104;go_wp2;go_loopg [5,8]n(λg _ iv wr=>∃k:Nat,k<=n/\g=n-k/\iv=xI k/\Hd (∀x∈xs.take k,bV x.name name=false)/\Hd (aq w wr));case atStart=>exact⟨0,Qbf _,rfl,rfl,by {have h:∀x∈xs.take 0,bV x.name name=false:=(by simp);exact h},by exact(Qbg _ w)⟩
 case round=>
  obtain⟨k,hk,rfl,rfl,HT,HB⟩:=hrel;by_cases aX:k<n
  .obtain⟨b,off,rfl,Dl,cw,aG⟩:=HC.o (by omega);obtain⟨x,hx⟩:=dQ xs k (by rw[HN.o];exact aX);obtain⟨cs,bU,bD⟩:=aG k x hx;have gw:∀(j:Nat)(u:an),cs[j]? =some u->aU wr b (off+k*4+j) u:=λj u hu=>(HB.o.cell (p:=⟨b,off+k*4+j,none⟩) cw).trans (bD j u hu);have pY:cs=[xS x.name,xI x.type.kind,xI x.type.of,xB x.indexed]:=bU.1;subst pY;have g0:aU wr b (off+k*4) (xS x.name):=gw 0 _ rfl;have g1:=gw 1 _ rfl;have g2:=gw 2 _ rfl;have g3:=gw 3 _ rfl;have bA:=DY x name p wr ((HB.o.cell (p:=⟨p,0,none⟩) gO).trans HP.o) (Qde gO HB.o.size);have HX:=af hx;cases hq:bV x.name name
   .rw[hq]at bA;have bt:=af bA;have HQ:=af hq;go_wp2_with fail;refine bt.o.mono ?_;rintro e w1⟨rfl,aC⟩;have aO:Hd (aq w w1):=HB.o.trans (aC.mono HB.o.size);go_wp2;go_roundg(n-(k+1));case measure=>omega
    case rel=>exact⟨k+1,by omega,rfl,by go_num,by {have h:∀y∈xs.take (k+1),bV y.name name=false:=λy hy=>by {rw[Qbb,HX.o]at hy;simp at hy;rcases hy with h|h;exact HT.o y h;subst h;exact HQ.o};exact h},aO⟩
   .rw[hq]at bA;have bt:=af bA;have HQ:=af hq;go_wp2_with fail;refine bt.o.mono ?_;rintro e w1⟨rfl,aC⟩;have aO:Hd (aq w w1):=HB.o.trans (aC.mono HB.o.size);go_wp2;go_ret;exact⟨iP (idxOf_hit (p:=λf=>bV f.name name) HT.o HX.o HQ.o).symm,aO.o⟩
  .go_wp2;go_ret;have h:=HT.o;rw[Qah (by rw[HN.o];omega)]at h;exact⟨iP (kQ (p:=λf:ay=>bV f.name name) h).symm,HB.o⟩
variable{c:az}{v:an}{M:aS}
def G1(h:bS M w v c):∃fv,v= .agg #[xS c.name,fv]/\ab M w fv c.fields/\c.name.size<=maxLen:=by
 obtain⟨cs,rfl,fv,rfl,h1,h2⟩:=h;exact⟨fv,rfl,h1,h2⟩
def fieldAt(c:az)(name:aT):Int:=idxOf (λf:ay=>bV f.name name) c.fields
def sn {α:Type}(p:α->Bool)(xs:List α): -1<=idxOf p xs:=by unfold idxOf;split<;>omega
def xV {α:Type}(p:α->Bool)(xs:List α):idxOf p xs<xs.length\/idxOf p xs= -1:=by
 unfold idxOf;cases h:xs.findIdx? p with
 |none=>exact .inr rfl
 |some i=>exact .inl (by have:=(List.findIdx?_eq_some_iff_getElem.1 h).1;simp;omega)
def Lp(M:Nat->Prop)(v:Value)(w:World)(c:az)(name:ByteArray)(h:bS M w v c):
 xC 60 #[v,xS name] w (cN (.tuple #[xI (if fieldAt c name<0 then 0 else fieldAt c name),xB (!decide (fieldAt c name<0))]) w):=by
 obtain⟨fv,rfl,hs,_⟩:=G1 h;obtain⟨a,cap,rfl,_⟩:=hs.open_;obtain⟨u,hu⟩:=cM ((w.alloc (xK #[xS c.name,xL a c.fields.length cap] 101)).alloc (xK #[xS name] 9));have hbu:aq w u:=by rw[hu];exact bO.alloc (by simp) _
 have hpu:u.heap[w.heap.size+1]? =some (xK #[xS name] 9):=by
  rw[hu];have:=Qbh (w.alloc (xK #[xS c.name,xL a c.fields.length cap] 101)) (xK #[xS name] 9);simpa using this
 have bA:=xU M _ u c.fields name (w.heap.size+1) (hs.below hbu) (by simp[World.cell?,hpu]) ((Qaa.1 hpu).1);have e0:fieldAt c name=idxOf (λf=>bV f.name name) c.fields:=rfl;rw[<-e0]at bA;have bt:=af bA;have TQ:=af hbu;rw[hu]at bt;have HU:=af hu;clear bA hbu hpu hu e0 hs;by_cases hn:fieldAt c name<0
 .rw[if_pos hn,decide_eq_true hn];generalize fieldAt c name=at_ at*;generalize c.fields.length=n at*;go_enter func60,ntmps60;go_wp2_with fail;refine bt.o.mono ?_;rintro e w1⟨rfl,aC⟩;rw[<-HU.o]at aC;have aO:Hd (aq w w1):=TQ.o.trans (aC.mono TQ.o.size);clear aC;go_wp2;go_ret2;exact⟨rfl,aO.o⟩
 .rw[if_neg hn,decide_eq_false hn];generalize fieldAt c name=at_ at*;generalize c.fields.length=n at*;go_enter func60,ntmps60;go_wp2_with fail;refine bt.o.mono ?_;rintro e w1⟨rfl,aC⟩;rw[<-HU.o]at aC;have aO:Hd (aq w w1):=TQ.o.trans (aC.mono TQ.o.size);clear aC;go_wp2;go_ret2;exact⟨rfl,aO.o⟩
def sq(c:az)(k:Nat):Prop:=∀(j:Nat)(f:ay),j<k->c.fields[j]? =some f->bC f=true/\fieldAt c f.name=j
def aM(c:az):Bool:=aE c.name&&decide (c.fields.length<=8)&&(List.range c.fields.length).all λk=>match c.fields[k]? with|some f=>bC f&&decide (fieldAt c f.name=k)|none=>true
def bc(c:az):aM c=true↔aE c.name=true/\c.fields.length<=8/\sq c c.fields.length:=by
 unfold aM sq;simp only[Qce,decide_eq_true_eq,List.all_eq_true,List.mem_range,and_assoc];refine and_congr Iff.rfl (and_congr Iff.rfl ⟨λh j f hj hf=> ?_,λh j hj=> ?_⟩)
 .have:=h j hj;rw[hf]at this;simpa using this
 .cases hf:c.fields[j]? with
  |none=>rfl
  |some f=>simpa using h j f hj hf
def xW(h:aE c.name=false):aM c=false:=by
 cases h2:aM c;rfl;have:=((bc c).1 h2).1;rw[h]at this;cases this
def xX(h:8<c.fields.length):aM c=false:=by
 cases h2:aM c;rfl;have:=((bc c).1 h2).2.1;omega
variable{f:ay}
def pf(hf:c.fields[k]? =some f)(h:¬(bC f=true/\fieldAt c f.name=k)):aM c=false:=by
 cases h2:aM c;rfl;exact absurd (((bc c).1 h2).2.2 k f (Qad.1 hf).1 hf) h
def G3(c:az)(s:aT): -1<=fieldAt c s:=sn _ _
def rE(c:az)(s:aT):fieldAt c s<c.fields.length:=by
 rcases xV (λf:ay=>bV f.name s) c.fields with h|h
 .exact h
 .unfold fieldAt;rw[h];omega
def vy(hf:c.fields[k]? =some f):0<=fieldAt c f.name:=by
 unfold fieldAt idxOf;cases h:c.fields.findIdx? (λg=>bV g.name f.name)with
 |some i=>simp
 |none=>
  have:=List.findIdx?_eq_none_iff.1 h f (Qaf hf);simp[bV]at this
def jJ(M:aS)(fv:an)(w:aj)(c:az)(name:aT)(at_:Int)(is:Bool)(h:ab M w fv c.fields)(hn:c.name.size<=maxLen)(ha:(if fieldAt c name<0 then 0 else fieldAt c name)=at_)(hi:(!decide (fieldAt c name<0))=is):
 xC 60 #[.agg #[xS c.name,fv],xS name] w (cN (.tuple #[xI at_,xB is]) w):=by
 subst ha hi;exact Lp M _ w c name ⟨_,rfl,fv,rfl,h,hn⟩
def mm(b:Bool)(f:ay)(w:aj)(hs:f.name.size<=maxLen)(hb:bC f=b):
 xC 208 #[.agg #[xS f.name,xI f.type.kind,xI f.type.of,xB f.indexed]] w (cN (xB b) w):=by subst hb;exact xT f w hs
def fW(M:aS)(fv:an)(w:aj)(c:az)(hs:ab M w fv c.fields)(lH:c.name.size<=maxLen):
 xC 185 #[.agg #[xS c.name,fv]] w (cN (xB (aM c)) w):=by
 have HS:=af hs;have oZ:=af lH;obtain⟨a,bQ,rfl,cK,hm,hc⟩:=hs.open_;have HC:=af hc;generalize hn:c.fields.length=n at*;have HN:=af hn;cases h1:aE c.name
 .have H1:=af h1;go_enter func185,ntmps185;go_wp2_with fail;refine dJ (fy false _ _ H1.o oZ.o) ?_;go_wp2;go_ret;exact⟨ba (xW H1.o).symm,bO⟩
 .have H1:=af h1;by_cases h8:8<n
  .go_enter func185,ntmps185;go_wp2_with fail;refine dJ (fy true _ _ H1.o oZ.o) ?_;go_wp2;go_ret;exact⟨ba (xX (by rw[HN.o];exact h8)).symm,bO⟩
  .go_enter func185,ntmps185;go_wp2_with fail;refine dJ (fy true _ _ H1.o oZ.o) ?_;go_wp2;go_loopg [2,3,4,5,6,20]n(λg r _ _ _ _ iv wr=>∃k:Nat,k<=n/\g=n-k/\iv=xI k/\r=xB false/\Hd (sq c k)/\Hd (aq w wr)/\dY wr w (xK #[xS c.name,xL a n bQ] 101));case atStart=>exact⟨0,Qbf _,rfl,rfl,rfl,(λj f h=>absurd h (Nat.not_lt_zero _)),by exact bO,Qbh _ _⟩
   case round=>
    obtain⟨k,hk,rfl,rfl,rfl,HT,HB,vg⟩:=hrel;have hsz:w.heap.size<wr.heap.size:=(Qaa.1 vg).1;obtain⟨g0,g1⟩:=ah vg;have Nl:=af vg;by_cases aX:k<n
    .obtain⟨b,off,rfl,Dl,cw,aG⟩:=HC.o (by omega);obtain⟨x,hx⟩:=dQ c.fields k (by rw[HN.o];exact aX);obtain⟨cs,bU,bD⟩:=aG k x hx;have gw:∀(j:Nat)(u:an),cs[j]? =some u->aU wr b (off+k*4+j) u:=λj u hu=>(HB.o.cell (p:=⟨b,off+k*4+j,none⟩) cw).trans (bD j u hu);obtain⟨rfl,iO⟩:=bU;have q0:aU wr b (off+k*4) (xS x.name):=gw 0 _ rfl;have q1:=gw 1 _ rfl;have q2:=gw 2 _ rfl;have q3:=gw 3 _ rfl;have HX:=af hx;have tM:=af iO;have GM:b≠w.heap.size:=by omega
     have qf9:=G3 c x.name;have qga:=rE c x.name;have qgb:=vy HX.o;have Yt:¬fieldAt c x.name<0:=by omega
     have Ap:Hd ((if fieldAt c x.name<0 then 0 else fieldAt c x.name)=fieldAt c x.name):=if_neg Yt;have QC:=af (show(!decide (fieldAt c x.name<0))=true by rw[decide_eq_false Yt];rfl);cases hr:bC x
     .have HR:=af hr;go_wp2_with fail;refine cG (mm false x _ tM.o HR.o) λw1 aC=> ?_;have aO:=af aC;go_wp2;go_ret;exact⟨ba (pf HX.o (by rw[HR.o];simp)).symm,HB.o.trans ((aQ aO.o).mono (by have:=HB.o.size;omega))⟩
     .have HR:=af hr;by_cases hq:fieldAt c x.name=k
      .have HQ:=af hq;go_wp2_with fail;refine cG (mm true x _ tM.o HR.o) λw1 aC=> ?_;have s1:w.heap.size<w1.heap.size:=by have:=aC.size;simp at this;omega
       obtain⟨p0,p1,p2,p3⟩:=ae (boxed aC);obtain⟨p4,p5⟩:=ah ((aC.block w.heap.size (by simp;omega)).trans ((Qcb wr _ w.heap.size (by omega)).trans Nl.o));have aO:Hd (aq w w1):=HB.o.trans ((aQ aC).mono (by have:=HB.o.size;omega));have bN:Hd (dY w1 w (xK #[xS c.name,xL (some ⟨b,off,none⟩) n bQ] 101)):=((aC.block w.heap.size (by simp;omega)).trans ((Qcb wr _ w.heap.size (by omega)).trans Nl.o));have bA:=jJ M _ w1 c x.name _ _ (HS.o.below aO.o) oZ.o Ap.o QC.o;have bt:=af bA;go_wp2_with fail;refine bt.o.mono ?_;rintro e w2⟨rfl,aY⟩;have aL:=af aY;have hqb:((fieldAt c x.name)!=(k:Int))=false:=by simpa using HQ.o
       go_wp2;go_roundg(n-(k+1));case measure=>omega
       case rel=>
        refine⟨k+1,by omega,rfl,by go_num,rfl,?_,?_,?_⟩
        .have h:sq c (k+1):=λj f hj hf=>by
          by_cases hjk:j<k
          .exact HT.o j f hjk hf
          .obtain rfl:j=k:=by omega
           rw[HX.o]at hf;cases hf;exact⟨HR.o,HQ.o⟩
         exact h
        .have h:aq w w2:=aO.o.trans (aL.o.mono (by omega));exact h
        .exact(aL.o.block _ s1).trans bN.o
      .have HQ:=af hq;have hqb:((fieldAt c x.name)!=(k:Int))=true:=by simpa using hq
       go_wp2_with fail;refine cG (mm true x _ tM.o HR.o) λw1 aC=> ?_;have s1:w.heap.size<w1.heap.size:=by have:=aC.size;simp at this;omega
       obtain⟨p0,p1,p2,p3⟩:=ae (boxed aC);obtain⟨p4,p5⟩:=ah ((aC.block w.heap.size (by simp;omega)).trans ((Qcb wr _ w.heap.size (by omega)).trans Nl.o));have aO:Hd (aq w w1):=HB.o.trans ((aQ aC).mono (by have:=HB.o.size;omega));have bA:=jJ M _ w1 c x.name _ _ (HS.o.below aO.o) oZ.o Ap.o QC.o;have bt:=af bA;go_wp2_with fail;refine bt.o.mono ?_;rintro e w2⟨rfl,aY⟩;have aL:=af aY;go_wp2;go_ret;exact⟨ba (pf HX.o (λh=>HQ.o h.2)).symm,aO.o.trans (aL.o.mono (by omega))⟩
    .go_wp2;go_ret;refine⟨ba ?_,HB.o⟩;have Wu:k=n:=by omega
     exact((bc c).2 ⟨H1.o,by rw[HN.o];omega,by rw[HN.o];have h:=HT.o;rw[Wu]at h;exact h⟩).symm
def SA {c:UInt8}(hc:s.data.toList[k]? =some c)(hn:bz c.toNat=false):aE s=false:=by
 have hm:c∈s.data.toList:=Qaf hc;have ha:(s.data.toList.all λc=>bz c.toNat)=false:=by
  rw[List.all_eq_false];exact⟨c,hm,by simp[hn]⟩
 unfold aE;cases hl:s.data.toList with
 |nil=>simp
 |cons a r=>rw[hl]at ha;simp only[ha,Bool.and_false]
def N5 {c:UInt8}(hc:s.data.toList[0]? =some c)(hn:fe c.toNat=false):aE s=false:=by
 unfold aE;cases hl:s.data.toList with
 |nil=>simp
 |cons a r=>rw[hl]at hc;simp at hc;subst hc;simp[hn]
def N6(h1:1<=s.size)(h2:s.size<=20)(ha:s.data.toList.all (λc=>bz c.toNat)=true)(h0:∀c,s.data.toList[0]? =some c->fe c.toNat=true):aE s=true:=by
 unfold aE;cases hl:s.data.toList with
 |nil=>have:=bh s;rw[hl]at this;simp at this;omega
 |cons a r=>
  rw[hl]at ha;have:=h0 a (by rw[hl];rfl);simp only[ha,this,Bool.and_true,Qce,decide_eq_true_eq];exact⟨h1,h2⟩
def uq(s:aT)(k:Nat):Prop:=(s.data.toList.take k).all (λc=>bz c.toNat)=true/\(0<k->∀c,s.data.toList[0]? =some c->fe c.toNat=true)
theorem uq.succ {c:UInt8}(h:uq s k)(hk:k<s.size)(hc:s.data.toList[k]? =some c)(hn:bz c.toNat=true)(h0:k=0->fe c.toNat=true):uq s (k+1):=by
 refine⟨?_,λ_ d hd=> ?_⟩
 .rw[Qbb,hc,List.all_append,h.1];simp[hn]
 .by_cases Yu:k=0
  .subst Yu;rw[hc]at hd;cases hd;exact h0 rfl
  .exact h.2 (by omega) d hd
def DZ(s:aT)(w:aj)(hs:s.size<=maxLen):
 xC 67 #[xS s] w (gE (xB (aE s)) w):=by
 unfold maxLen at hs;by_cases h1:s.size<1
 .go_enter func67,ntmps67;go_wp2;go_ret;exact⟨ba (by simp[aE];omega),rfl⟩
 .by_cases h2:20<s.size
  .go_enter func67,ntmps67;go_wp2;go_ret;exact⟨ba (by simp[aE];omega),rfl⟩
  .go_enter func67,ntmps67;go_wp2;go_loopg [2,3,4,5]s.size(λg r iv _ _ wr=>∃k:Nat,k<=s.size/\g=s.size-k/\iv=xI k/\r=xB false/\Hd (uq s k)/\w=wr);case atStart=>exact⟨0,Qbf _,rfl,rfl,rfl,by {have h:uq s 0:=⟨rfl,λh=>absurd h (Nat.lt_irrefl _)⟩;exact h},rfl⟩
   case round=>
    obtain⟨k,hk,rfl,rfl,rfl,HT,rfl⟩:=hrel;by_cases aX:k<s.size
    .obtain⟨c,hc⟩:=fx (s[k]);have B9:(c.toNat:Int)<=255:=by have:=c.toNat_lt;omega
     have pX:Hd (s.data.toList[k]? =some c):=(du s k aX).trans (congrArg some hc);have hkz:(k:Int)<s.size:=by omega
     by_cases hl:97<=(c.toNat:Int)/\(c.toNat:Int)<=122
     .obtain⟨vi,zU⟩:=hl;have HS:=af (show fe c.toNat=true by simp[fe];omega);have a1:48<=(c.toNat:Int):=by omega
      have a2:¬(c.toNat:Int)<=57:=by omega
      have a3:((c.toNat:Int)==95)=false:=by simp;omega
      go_wp2;go_roundg(s.size-(k+1));case measure=>omega
      case rel=>exact⟨k+1,by omega,rfl,by go_num,rfl,HT.o.succ aX pX.o (by simp[bz,HS.o]) (λ_=>HS.o),rfl⟩
     .have HS:=af (show fe c.toNat=false by simp[fe];omega);have b1:(decide (97<=(c.toNat:Int))&&decide ((c.toNat:Int)<=122))=false:=by simp;omega
      by_cases h0:k=0
      .subst h0;have HR:=af (N5 pX.o HS.o);by_cases q1:97<=(c.toNat:Int)
       .have q2:¬(c.toNat:Int)<=122:=by simp at b1;omega
        go_wp2_with fail;all_goals(go_ret;exact⟨ba HR.o.symm,rfl⟩)
       .clear b1;go_wp2_with fail;all_goals(go_ret;exact⟨ba HR.o.symm,rfl⟩)
      .have Yu:((k:Int)==0)=false:=by simp;omega
       have K0:=af h0;by_cases ho:(48<=(c.toNat:Int)/\(c.toNat:Int)<=57)\/(c.toNat:Int)=95
       .have HN:=af (show bz c.toNat=true by simp only[bz,HS.o,Bool.false_or,Bool.or_eq_true,decide_eq_true_eq];omega);have mA:Hd (uq s (k+1)):=HT.o.succ aX pX.o HN.o (λh=>absurd h K0.o);have q1:¬97<=(c.toNat:Int):=by omega
        by_cases h95:(c.toNat:Int)=95
        .have a1:48<=(c.toNat:Int):=by omega
         have a2:¬(c.toNat:Int)<=57:=by omega
         have a3:((c.toNat:Int)==95)=true:=by simpa using h95
         go_wp2;go_roundg(s.size-(k+1));case measure=>omega
         case rel=>exact⟨k+1,by omega,rfl,by go_num,rfl,mA,rfl⟩
        .have a1:48<=(c.toNat:Int):=by omega
         have a2:(c.toNat:Int)<=57:=by omega
         go_wp2;go_roundg(s.size-(k+1));case measure=>omega
         case rel=>exact⟨k+1,by omega,rfl,by go_num,rfl,mA,rfl⟩
       .have HN:=af (show bz c.toNat=false by simp only[bz,HS.o,Bool.false_or,Bool.or_eq_false_iff,decide_eq_false_iff_not];omega);have HR:=af (SA pX.o HN.o);have a3:((c.toNat:Int)==95)=false:=by simp;omega
        by_cases q1:97<=(c.toNat:Int)
        .have q2:¬(c.toNat:Int)<=122:=by omega
         have a1:48<=(c.toNat:Int):=by omega
         have a2:¬(c.toNat:Int)<=57:=by omega
         go_wp2_with fail;all_goals(go_ret;exact⟨ba HR.o.symm,rfl⟩)
        .by_cases a1:48<=(c.toNat:Int)
         .have a2:¬(c.toNat:Int)<=57:=by omega
          go_wp2_with fail;all_goals(go_ret;exact⟨ba HR.o.symm,rfl⟩)
         .clear ho hl;go_wp2_with fail;all_goals(go_ret;exact⟨ba HR.o.symm,rfl⟩)
    .go_wp2;go_ret;have h:=HT.o;have hk:k=s.size:=by omega
     refine⟨ba (N6 (by omega) (by omega) ?_ (h.2 (by omega))).symm,rfl⟩;have h3:=h.1;rw[Qah (by rw[bh];omega)]at h3;exact h3
def ie(k:Int):Bool:=decide (1<=k/\k<=4)
def G4(k:Int)(w:aj):xC 213 #[xI k] w (gE (xB (ie k)) w):=by
 by_cases h1:1<=k
 .by_cases h2:k<=4
  .go_enter func213,ntmps213;go_wp2;go_ret;exact⟨ba (by simp[ie,h1,h2]),rfl⟩
  .go_enter func213,ntmps213;go_wp2;go_ret;exact⟨ba (by simp[ie];omega),rfl⟩
 .go_enter func213,ntmps213;go_wp2;go_ret;exact⟨ba (by simp[ie];omega),rfl⟩
def jq(b:Bool)(k:Int)(w:aj)(hb:ie k=b):xC 213 #[xI k] w (gE (xB b) w):=by subst hb;exact G4 k w
def ur(t:aR)(w:aj):
 xC 197 #[.agg #[xI t.kind,xI t.of]] w (cN (xB (aF t)) w):=by
 obtain⟨k,o⟩:=t;cases h1:ie k
 .have H1:=af h1;clear h1;by_cases hk:k=5
  .have RT:(k==5)=true:=by simpa using hk
   have HK:=af hk;clear hk;cases h2:ie o
   .have H2:=af h2;clear h2;go_enter func197,ntmps197;go_wp2_with(first|(go_at_call 213;((with_reducible refine(jq false k _ H1.o).mono ?_);rintro e w'⟨rfl,rfl⟩))|(go_at_call 213;((with_reducible refine(jq false o _ H2.o).mono ?_);rintro e w'⟨rfl,rfl⟩)));go_ret;refine⟨ba ?_,bO⟩;have h:=H2.o;have h3:=HK.o;subst h3;simp[aF,ie]at h⊢;exact h
   .have H2:=af h2;clear h2;go_enter func197,ntmps197;go_wp2_with(first|(go_at_call 213;((with_reducible refine(jq false k _ H1.o).mono ?_);rintro e w'⟨rfl,rfl⟩))|(go_at_call 213;((with_reducible refine(jq true o _ H2.o).mono ?_);rintro e w'⟨rfl,rfl⟩)));go_ret;refine⟨ba ?_,bO⟩;have h:=H2.o;have h3:=HK.o;subst h3;simp[aF,ie]at h⊢;exact h
  .have RT:(k==5)=false:=by simpa using hk
   have HK:=af hk;clear hk;go_enter func197,ntmps197;go_wp2_with(go_at_call 213;((with_reducible refine(jq false k _ H1.o).mono ?_);rintro e w'⟨rfl,rfl⟩));go_ret;refine⟨ba ?_,bO⟩;have h:=H1.o;simp[aF,ie,HK.o]at h⊢;omega
 .have H1:=af h1;clear h1;have HK:=af (show k≠5 by have:=H1.o;simp[ie]at this;omega);have RT:(k==5)=false:=by simpa using HK.o
  by_cases ho:o=0
  .have Dm:(o==0)=true:=by simpa using ho
   have HO:=af ho;clear ho;go_enter func197,ntmps197;go_wp2_with(go_at_call 213;((with_reducible refine(jq true k _ H1.o).mono ?_);rintro e w'⟨rfl,rfl⟩));go_ret;refine⟨ba ?_,bO⟩;have h:=H1.o;simp[aF,ie,HK.o,HO.o]at h⊢;exact h
  .have Dm:(o==0)=false:=by simpa using ho
   have HO:=af ho;clear ho;go_enter func197,ntmps197;go_wp2_with(go_at_call 213;((with_reducible refine(jq true k _ H1.o).mono ?_);rintro e w'⟨rfl,rfl⟩));go_ret;refine⟨ba ?_,bO⟩;simp[aF,HK.o,HO.o]
def xY {a b:Int}{c d:Bool}(h:a=b)(k:c=d):Ending.returned (.tuple #[xI a,xB c])=xR (.tuple #[xI b,xB d]):=by rw[h,k]
def Cl(M:aS)(fv:an)(w:aj)(c:az)(name:aT)(hs:ab M w fv c.fields)(at_:Int)(is:Bool)(HA:Hd ((if fieldAt c name<0 then 0 else fieldAt c name)=at_))(HI:Hd ((!decide (fieldAt c name<0))=is)):
 xC 79 #[.agg #[xS c.name,fv],xS name] w (cN (.tuple #[xI at_,xB is]) w):=by
 obtain⟨a,bQ,rfl,cK,hm,hc⟩:=hs.open_;have HC:=af hc;generalize hn:c.fields.length=n at*;have HN:=af hn;go_enter func79,ntmps79;go_wp2;go_loopg [4,5,6]n(λg r0 r1 iv wr=>∃k:Nat,k<=n/\g=n-k/\iv=xI k/\r0=xI 0/\r1=xB false/\Hd (∀x∈c.fields.take k,bV x.name name=false)/\wr=w.alloc (xK #[xS c.name,xL a n bQ] 101));case atStart=>exact⟨0,Qbf _,rfl,rfl,rfl,rfl,by {have h:∀x∈c.fields.take 0,bV x.name name=false:=(by simp);exact h},rfl⟩
 case round=>
  obtain⟨k,hk,rfl,rfl,rfl,rfl,HT,rfl⟩:=hrel;by_cases aX:k<n
  .obtain⟨b,off,rfl,Dl,cw,aG⟩:=HC.o (by omega);obtain⟨x,hx⟩:=dQ c.fields k (by rw[HN.o];exact aX);obtain⟨cs,⟨rfl,iO⟩,bD⟩:=aG k x hx;have q0:aU w b (off+k*4) (xS x.name):=bD 0 _ rfl;have GM:b≠w.heap.size:=by omega
   have HX:=af hx;cases hq:bV x.name name
   .have hq':(x.name.toList==name.toList)=false:=hq;have HQ:=af hq;go_wp2;go_roundg(n-(k+1));case measure=>omega
    case rel=>exact⟨k+1,by omega,rfl,by go_num,rfl,rfl,by {have h:∀y∈c.fields.take (k+1),bV y.name name=false:=λy hy=>by {rw[Qbb,HX.o]at hy;simp at hy;rcases hy with h|h;exact HT.o y h;subst h;exact HQ.o};exact h},rfl⟩
   .have hq':(x.name.toList==name.toList)=true:=hq;have HJ:Hd (fieldAt c name=k):=idxOf_hit (p:=λf:ay=>bV f.name name) HT.o HX.o hq;go_wp2;go_ret2;exact⟨xY (by rw[<-HA.o,HJ.o,if_neg (by omega)]) (by rw[<-HI.o,HJ.o,decide_eq_false (by omega)];rfl),bO⟩
  .go_wp2;go_ret2;have h:=HT.o;rw[Qah (by rw[HN.o];omega)]at h;have e0:fieldAt c name= -1:=kQ (p:=λf:ay=>bV f.name name) h;exact⟨xY (by rw[<-HA.o,e0];rfl) (by rw[<-HI.o,e0];rfl),bO⟩
def lT(M:aS)(fv:an)(w:aj)(c:az)(name:aT)(at_:Int)(is:Bool)(h:ab M w fv c.fields)(ha:(if fieldAt c name<0 then 0 else fieldAt c name)=at_)(hi:(!decide (fieldAt c name<0))=is):
 xC 79 #[.agg #[xS c.name,fv],xS name] w (cN (.tuple #[xI at_,xB is]) w):=by
 exact Cl M _ w c name h at_ is ha hi
def eR(b:Bool)(s:aT)(w:aj)(hb:aE s=b)(hs:s.size<=maxLen):
 xC 67 #[xS s] w (gE (xB b) w):=by subst hb;exact DZ s w hs
def ot(b:Bool)(t:aR)(w:aj)(hb:aF t=b):
 xC 197 #[.agg #[xI t.kind,xI t.of]] w (cN (xB b) w):=by subst hb;exact ur t w
variable{j:Nat}
def Cm {α:Type}{p:α->Bool}{xs:List α}{y:α}(h:idxOf p xs=k)(hj:j<k)(hy:xs[j]? =some y):p y=false:=by
 unfold idxOf at h;cases hf:xs.findIdx? p with
 |none=>rw[hf]at h;simp at h
 |some i=>
  rw[hf]at h;have hi:i=k:=by simp at h;omega
  subst hi;obtain⟨_,_,h3⟩:=List.findIdx?_eq_some_iff_getElem.1 hf;have h4:=h3 j hj;rw[(Qad.1 hy).2]at h4;simpa using h4
def ko(M:aS)(fv:an)(w:aj)(c:az)(hs:ab M w fv c.fields)(lH:c.name.size<=maxLen)(hr:aM c=true):
 xC 174 #[.agg #[xS c.name,fv]] w (cN (xB true) w):=by
 obtain⟨h1,h8,oS⟩:=(bc c).1 hr;obtain⟨a,bQ,rfl,cK,hm,hc⟩:=hs.open_;have HC:=af hc;have oZ:=af lH;have H1:=af h1;have Wv:=af oS;generalize hn:c.fields.length=n at*;have HN:=af hn;go_enter func174,ntmps174;go_wp2_with fail;refine dJ (eR true _ _ H1.o oZ.o) ?_;have Gh:¬8<n:=by omega
 go_wp2;go_loopg [2,3,4,5]n(λg r iv _ _ wr=>∃k:Nat,k<=n/\g=n-k/\iv=xI k/\r=xB false/\Hd (aq w wr)/\dY wr w (xK #[xS c.name,xL a n bQ] 101));case atStart=>exact⟨0,Qbf _,rfl,rfl,rfl,by exact bO,Qbh _ _⟩
 case round=>
  obtain⟨k,hk,rfl,rfl,rfl,HB,vg⟩:=hrel;obtain⟨wo,rfl⟩:=cM (wr);have hsz:w.heap.size<wo.heap.size:=(Qaa.1 vg).1;obtain⟨g0,g1⟩:=ah vg;have Nl:=af vg;by_cases aX:k<n
  .obtain⟨b,off,rfl,Dl,cw,aG⟩:=HC.o (by omega);obtain⟨x,hx⟩:=dQ c.fields k (by rw[HN.o];exact aX);obtain⟨cs,bU,bD⟩:=aG k x hx;have gw:∀(j:Nat)(u:an),cs[j]? =some u->aU wo b (off+k*4+j) u:=λj u hu=>(HB.o.cell (p:=⟨b,off+k*4+j,none⟩) cw).trans (bD j u hu);obtain⟨rfl,iO⟩:=bU;have q0:aU wo b (off+k*4) (xS x.name):=gw 0 _ rfl;have q1:=gw 1 _ rfl;have q2:=gw 2 _ rfl;have q3:=gw 3 _ rfl;have GM:b≠w.heap.size:=by omega
   obtain⟨hrf,og⟩:=Wv.o k x (by omega) hx;have Ww:=hrf;unfold bC at Ww;simp only[Qce]at Ww;obtain⟨⟨rZ,xH⟩,RV⟩:=Ww;have gQ:=af aG;have HX:=af hx;have tM:=af iO;have Ap:=af og;have fI:=af rZ;have jT:=af xH;obtain⟨xn,⟨xk,xo⟩,xi⟩:=x;have QD:xi=false\/¬3<xk:=by simp at RV;rcases RV with h|h;exact .inl h;exact .inr (by omega)
   go_wp2_with fail;refine dJ (eR true _ _ fI.o tM.o) ?_;go_wp2_with fail;refine cG (ot true ⟨xk,xo⟩ _ jT.o) λw1 aC=> ?_;have s1:w.heap.size<w1.heap.size/\wo.heap.size<w1.heap.size:=by have:=aC.size;simp at this;omega
   obtain⟨s1,s2⟩:=s1;have qdg:Hd (dY w1 wo (xK #[xS xn,xI xk,xI xo,xB xi] 138)):=boxed aC;obtain⟨p0,p1,p2,p3⟩:=ae qdg.o;have bN:Hd (dY w1 w (xK #[xS c.name,xL (some ⟨b,off,none⟩) n bQ] 101)):=((aC.block w.heap.size (by simp;omega)).trans ((Qcb wo _ w.heap.size (by omega)).trans Nl.o));obtain⟨p4,p5⟩:=ah bN.o;have aO:Hd (aq w w1):=HB.o.trans ((aQ aC).mono (by have:=HB.o.size;omega));rcases QD with rfl|QD;all_goals try cases xi
   all_goals
    go_wp2;go_loopg [2,5]k(λg r jv wr=>∃j:Nat,j<=k/\g=k-j/\jv=xI j/\r=xB false/\∃q,wr=w1.drewN q);case atStart=>exact⟨0,Qbf _,rfl,rfl,rfl,0,rfl⟩
    case round=>
     obtain⟨j,hj,rfl,rfl,rfl,q,rfl⟩:=hrel;by_cases hjk:j<k
     .obtain⟨y,hy⟩:=dQ c.fields j (by rw[HN.o];omega);obtain⟨cs,⟨rfl,_⟩,bD⟩:=gQ.o j y hy;have y0:aU w1 b (off+j*4) (xS y.name):=(aO.o.cell (p:=⟨b,off+j*4,none⟩) cw).trans (bD 0 _ rfl);have hyq:(y.name.toList==xn.toList)=false:=Cm (p:=λf:ay=>bV f.name xn) Ap.o hjk hy;have hjn:(j:Int)<n:=by omega
      go_wp2_with fail;go_quiet(fail);go_wp2;go_roundg(k-(j+1));case measure=>omega
      case rel=>exact⟨j+1,by omega,rfl,by go_num,rfl,_,rfl⟩
     .go_wp2;go_roundg(n-(k+1));case measure=>omega
      case rel=>exact⟨k+1,by omega,rfl,by go_num,rfl,by {have h:aq w (w1.drewN q):=aO.o.trans ⟨rfl,rfl,rfl,bq,λ_ _=>rfl⟩;exact h},bN.o⟩
  .go_wp2;go_ret;exact⟨rfl,HB.o⟩
structure Tok where
 kind:Nat
 n:Nat
 s:List UInt8
 at_:Nat
 deriving DecidableEq
def ou(c:UInt8):Bool:=decide (48<=c)&&decide (c<=57)
def qQ(c:UInt8):Bool:=decide (97<=c)&&decide (c<=122)
def de(c:UInt8):Bool:=qQ c||ou c||c==95
def eX(c:UInt8):Bool:=c !=34&&c !=92
def qR(l:List UInt8):Bool:=decide (1<=l.length)&&decide (l.length<=20)&&(match l with|[]=>false|c::_=>qQ c)&&l.all de
def jK(l:List UInt8):Bool:=decide (l.length<=60)&&l.all λc=>decide (32<=c)&&decide (c<127)
def su:List UInt8->Bool
 |d::_=>ou d
 |[]=>false
def sw:List UInt8->Option ((Nat×Nat×List UInt8)×Nat)
 |[]=>none
 |c::r=>
  if ou c then(if su r then none else some ((1,c.toNat-48,[]),1))
  else if qQ c then(if qR ((c::r).takeWhile de)then some ((3,0,(c::r).takeWhile de),((c::r).takeWhile de).length)else none)
  else if c=34 then(match r.drop (r.takeWhile eX).length with
   |34::_=>if jK (r.takeWhile eX)then some ((2,0,r.takeWhile eX),(r.takeWhile eX).length+2)else none
   |_=>none)
  else if [38,43,45,42,47,37,40,41,44,61].contains c then some ((4,0,[c]),1)
  else if c=62/\r.head?≠some 61 then some ((4,0,[c]),1)
  else none
def eJ:Nat->List UInt8->Nat->Option (List Tok)
 |_,[],_=>some []
 |0,_::_,_=>none
 |k+1,c::r,i=>
  if c=32 then eJ k r (i+1)
  else match sw (c::r)with
   |none=>none
   |some ((kd,n,s),size)=>if size=0 then none else(eJ k ((c::r).drop size) (i+size)).map λts=>⟨kd,n,s,i⟩::ts
def cj(s:List UInt8):Nat:=
 if s=[42]\/s=[47]\/s=[37]then 4 else if s=[43]\/s=[45]then 3 else if s=[38]then 2 else if s=[61]\/s=[62]then 1 else 0
def dq(s:List UInt8):Nat:=
 if s=[108,101,110]\/s=[116,101,120,116]\/s=[110,117,109]then 1
 else if s=[108,101,102,116]\/s=[114,105,103,104,116]\/s=[102,114,111,109]\/s=[102,105,110,100]\/s=[109,105,110]\/s=[109,97,120]then 2
 else if s=[105,102]then 3 else 0
def bL(l:List UInt8):aT:=⟨l.toArray⟩
def dL(ts:List Tok)(s:List UInt8):Bool:=match ts with|t::_=>t.kind==4&&t.s==s|[]=>false
mutual
def ji:Nat->Nat->List Tok->Option (ax×List Tok)
 |0,_,_=>none
 |k+1,least,ts=>match jr k ts with
  |none=>none
  |some (e,r)=>ow k least e r
def ow:Nat->Nat->ax->List Tok->Option (ax×List Tok)
 |0,_,_,_=>none
 |k+1,least,e,ts=>match ts with
  |[]=>some (e,[])
  |t::r=>if t.kind=4/\least<=cj t.s then(match ji k (cj t.s+1) r with
    |none=>none
    |some (f,r')=>ow k least (.mk 4 0 (bL t.s) [e,f]) r')else some (e,t::r)
def jr:Nat->List Tok->Option (ax×List Tok)
 |0,_=>none
 |k+1,ts=>match ts with
  |[]=>none
  |t::r=>
   if t.kind=1 then some (.mk 1 t.n (bL []) [],r)
   else if t.kind=2 then some (.mk 2 0 (bL t.s) [],r)
   else if t.kind=3 then(if dq t.s>0/\dL r [40]=true then(match eO k (dq t.s) (r.drop 1)with
    |none=>none
    |some (l,r')=>some (.mk 6 0 (bL t.s) l,r'))else some (.mk 3 0 (bL t.s) [],r))
   else none
def eO:Nat->Nat->List Tok->Option (List ax×List Tok)
 |0,_,_=>none
 |k+1,n,ts=>match ji k 1 ts with
  |none=>none
  |some (e,r)=>if n=1 then(if dL r [41]then some ([e],r.drop 1)else none)
   else if n=0 then none
   else if dL r [44]then(match eO k (n-1) (r.drop 1)with
    |none=>none
    |some (l,r')=>some (e::l,r'))else none
end
def ax.kind:ax->Int| .mk k _ _ _=>k
def ax.num:ax->Int| .mk _ n _ _=>n
def ax.str:ax->aT| .mk _ _ s _=>s
def ax.kids:ax->List ax| .mk _ _ _ l=>l
mutual
def eo:ax->Nat| .mk _ _ _ l=>df l+1
def df:List ax->Nat|[]=>0|e::r=>eo e+df r
end
mutual
def kR:ax->Nat| .mk _ _ _ l=>x8 l+1
def x8:List ax->Nat|[]=>0|e::r=>max (kR e) (x8 r)
end
def x9(k n:Int)(s:List UInt8)(kids:Nat):Bool:=
 if k=1 then decide (0<=n)&&decide (n<=1000000000000000)&&s.isEmpty&&kids==0
 else decide (n=0)&&(if k=2 then jK s&&kids==0 else if k=3 then qR s&&kids==0 else if k=4 then decide (0<cj s)&&kids==2 else if k=6 then decide (0<dq s)&&kids==dq s else false)
mutual
def ir:ax->Bool| .mk k n s l=>x9 k n s.data.toList l.length&&sx l
def sx:List ax->Bool|[]=>true|e::r=>ir e&&sx r
end
def ed(l:List UInt8):Option ax:=match eJ 200 l 0 with
 |none=>none
 |some ts=>match ji 60 1 ts with
  |some (e,[])=>if l.length<=200/\ir e=true/\kR e<=8/\eo e<=40 then some e else none
  |_=>none
def fE(s:List UInt8):ax:= .mk 3 0 (bL s) []
def nE(n:Int):ax:= .mk 1 n (bL []) []
def tE(s:List UInt8):ax:= .mk 2 0 (bL s) []
def Kc(s:List UInt8)(a b:ax):ax:= .mk 4 0 (bL s) [a,b]
def mF(s:List UInt8)(l:List ax):ax:= .mk 6 0 (bL s) l
def uu(s:List UInt8):ax:=if s=[55]then nE 7 else if s=[34,97,32,98,34]then tE [97,32,98]else fE s
def pg(num txt:ax):List ax:=[nE 3,num,Kc [45] (Kc [42] num (nE 2)) (nE 1),mF [108,101,110] [txt],mF [105,102] [Kc [62] num (nE 2),num,Kc [45] (nE 0) num],
 mF [102,105,110,100] [tE [98],txt],Kc [47] num num]
def mG(num txt:ax):List ax:=[tE [120],txt,Kc [38] (Kc [38] txt (tE [45])) txt,mF [116,101,120,116] [num],mF [108,101,102,116] [txt,nE 2],mF [102,114,111,109] [txt,nE 3],
 mF [105,102] [Kc [61] num (nE 1),txt,tE [110,111]]]
def names9:List (List UInt8):=[[97],[98,50],[110,97,109,101],[110,101,120,116,95,111,110,101],[107,105,100,115],[120],[110,101,119,95,49],[109,111,114,101],[122,57]]
def VE(num txt:List UInt8):List (List UInt8):=[[51],num,num++[32,42,32,50,32,45,32,49],[108,101,110,40]++txt++[41],
 [105,102,40]++num++[32,62,32,50,44,32]++num++[44,32,48,32,45,32]++num++[41],[102,105,110,100,40,34,98,34,44,32]++txt++[41],num++[32,47,32]++num]
def G5(num txt:List UInt8):List (List UInt8):=[[34,120,34],txt,txt++[32,38,32,34,45,34,32,38,32]++txt,[116,101,120,116,40]++num++[41],
 [108,101,102,116,40]++txt++[44,32,50,41],[102,114,111,109,40]++txt++[44,32,51,41],[105,102,40]++num++[32,61,32,49,44,32]++txt++[44,32,34,110,111,34,41]]
mutual
def eqE:ax->ax->Bool| .mk k n s l, .mk k' n' s' l'=>decide (k=k')&&decide (n=n')&&(s.data.toList==s'.data.toList)&&Lq l l'
def Lq:List ax->List ax->Bool|[],[]=>true|e::r,e'::r'=>eqE e e'&&Lq r r'|_,_=>false
end
mutual
theorem Bb:∀{a b:ax},eqE a b=true->a=b
 | .mk k n s l, .mk k' n' s' l',h=>by
   simp only[eqE,Qce,decide_eq_true_eq,beq_iff_eq]at h;obtain⟨⟨⟨rfl,rfl⟩,h3⟩,h4⟩:=h;have e1:s=s':=by cases s;cases s';simp at h3;simpa using h3
   have e2:=yb h4;rw[e1,e2]
theorem yb:∀{a b:List ax},Lq a b=true->a=b
 |[],[],_=>rfl
 |e::r,e'::r',h=>by
  simp only[Lq,Qce]at h;rw[Bb h.1,yb h.2]
 |[],_::_,h=>by simp[Lq]at h
 |_::_,[],h=>by simp[Lq]at h
end
def Zs(s:List UInt8)(e:ax):Bool:=match ed s with|some f=>eqE f e|none=>false
def uw {s:List UInt8}{e:ax}(h:Zs s e=true):ed s=some e:=by
 unfold Zs at h;split at h
 .rename_i f hf;rw[hf,Bb h]
 .cases h
def N7:(([55]::names9).all λnum=>([34,97,32,98,34]::names9).all λtxt=>((VE num txt).zip (pg (uu num) (uu txt))).all λp=>Zs p.1 p.2)=true:=by decide+kernel
def Lr:(([55]::names9).all λnum=>([34,97,32,98,34]::names9).all λtxt=>((G5 num txt).zip (mG (uu num) (uu txt))).all λp=>Zs p.1 p.2)=true:=by decide+kernel
def Ls:(names9.all λs=>Zs s (fE s))=true:=by decide+kernel
def b9 {F:aS}(w:aj)(cs:Array an)(t:TypeId)(size:Nat)(hs:cs.size=size)(hF:F w.heap.size):bj F (w.alloc (.cells cs t)) size (xL (some ⟨w.heap.size,0,none⟩) 1 1) 1 cs.toList:=by
 refine⟨by simp[hs],some ⟨w.heap.size,0,none⟩,1,rfl,bq,by unfold maxLen;omega,λ_=>⟨w.heap.size,0,rfl,hF,by simp,λj u hu=> ?_⟩⟩;simp only[World.cell?,Qbh,Nat.zero_add];simpa using hu
section
variable {P:Program}{α:Type} [aA α]
def ox {F:aS}(w:aj){o:Oper}{a:Act}{K:Act->aj->Prop}{Q:Exit->Act->aj->Prop}(s x:Operand)(t:TypeId)
 (ho:o.op= .call {callee:= .builtin .append,args:= #[s,x],argTypes:= #[t,t]})
 (base:Nat)(e:TypeId)(i:TypeInfo)(z:an)(size bytes:Nat)(ht:P.underlying t=some (.slice e))(hi:P.info? e=some i)(hz:i.zero=some z)
 (hsize:i.size=size)(hby:i.bytes=bytes)(hzs:z.cells.size=size)(hsz:0<size)
 (v:an)(n:Nat)(xs:List an)(hs:a.eval s=v)(od:w.ownsRow base e size v n xs)
 (sv:an)(m:Nat)(news:List an)(hx:a.eval x=sv)(hr:bj F w size sv m news)(h1:∀u∈news,u.oneCell'=true)
 (h63:n+m<=maxLen)(hbytes:(n+m)*bytes<=140737488355328)(hbase:base<=w.heap.size)
 (h:∀v' w',w'.ownsRow base e size v' (n+m) (xs++news)->w.grownBy w' v.ownBlock->(v'.ownBlock=v.ownBlock\/v'.ownBlock=some w.heap.size)->K (a.put o.dst v') w'):Oper.wp P o a w K Q:=by
 obtain⟨v',w',oe,h2,h3,h4⟩:=gD (P:=P) w base t o.type e i z size bytes ht hi hz hsize hby hzs hsz v n xs od sv m news hr h1 h63 hbytes hbase;unfold Oper.wp execOp;simp only[ho,resolve,invoke,builtin,Sem.run_bind,Sem.run_pure,Result.andThen_ok,List.map_toArray,List.map_cons,List.map_nil,hs,hx,oe];exact h v' w' h2 h3 h4
end
section
variable {P:Program}{α:Type} [aA α]{o:Oper}{a:Act}{w:aj}{ops:Array Oper}{rest:List Oper}{K:Act->aj->Prop}{Q:Exit->Act->aj->Prop}{E:Prop}(hgd:o.guard=none)(s x:Operand)(t:TypeId)
 (ho:o.op= .call {callee:= .builtin .append,args:= #[s,x],argTypes:= #[t,t]})
 (M:aS)(base:Nat)(e:TypeId)(i:TypeInfo)(z:an)(bytes:Nat)(ht:P.underlying t=some (.slice e))(hi:P.info? e=some i)(hz:i.zero=some z)
 (hsize:i.size=aA.size α)(hby:i.bytes=bytes)(hzs:z.cells.size=aA.size α)(hsz:0<aA.size α)
 (v:an)(xs:List α)(hs:a.eval s=v)(hacc:aP M base e w v xs)
include hgd ho ht hi hz hsize hby hzs hsz hs hacc
section
variable(F:aS)(sv:an)(cs:List an)(y:α)(hx:a.eval x=sv)(hr:bj F w (aA.size α) sv 1 cs)(hy:aA.rep (bB v M) w cs y)
 (h63:xs.length+1<=maxLen)(hbytes:(xs.length+1)*bytes<=140737488355328)(hbase:base<=w.heap.size)
include hx hr hy h63 hbytes hbase
def aZ
 (h:∀a' c' w',aP M base e w' (xL a' (xs.length+1) c') (xs++[y])->Ev (bB v M) w (bB (xL a' (xs.length+1) c') M) w'->Below base w w'->wpList P ops Q rest (a.put o.dst (xL a' (xs.length+1) c')) w'):wpList P ops Q (o::rest) a w:=by
 obtain⟨css,h1,h2,h3⟩:=hacc;refine gU w hgd s x t ho base e i z (aA.size α) bytes ht hi hz hsize hby hzs hsz v xs.length css.flatten hs h1 sv 1 cs hx hr (aA.flat hy) h63 hbytes hbase λa' c' w' k1 k2 k3=> ?_;exact h a' c' w' (aP.snoc h2 h3 hy k1 k2 k3) (Ev.grown k2 k3) ((Qbg _ w).grown k2 hbase λk hk=>(h1.lt k hk).1)
def cO
 (h:∀a' c' w',aP M base e w' (xL a' (xs.length+1) c') (xs++[y])->Ev (bB v M) w (bB (xL a' (xs.length+1) c') M) w'->Below base w w'->K (a.put o.dst (xL a' (xs.length+1) c')) w'):
 if Region.wanted o (yielded ops a.tmps)=true then Oper.wp P o a w K Q else E:=by
 have hw:Region.wanted o (yielded ops a.tmps)=true:=by simp[Region.wanted,hgd]
 rw[if_pos hw];obtain⟨css,h1,h2,h3⟩:=hacc;refine ox w s x t ho base e i z (aA.size α) bytes ht hi hz hsize hby hzs hsz v xs.length css.flatten hs h1 sv 1 cs hx hr (aA.flat hy) h63 hbytes hbase λv' w' k1 k2 k3=> ?_;obtain⟨a',c',rfl,_,_⟩:=ey k1;exact h a' c' w' (aP.snoc h2 h3 hy k1 k2 k3) (Ev.grown k2 k3) ((Qbg _ w).grown k2 hbase λk hk=>(h1.lt k hk).1)
end
variable(sv:an)(ys:List α)(hx:a.eval x=sv)(hr:ab (bB v M) w sv ys)
 (h63:xs.length+ys.length<=maxLen)(hbytes:(xs.length+ys.length)*bytes<=140737488355328)(hbase:base<=w.heap.size)
include hx hr h63 hbytes hbase
def cV
 (h:∀a' c' w',aP M base e w' (xL a' (xs.length+ys.length) c') (xs++ys)->Ev (bB v M) w (bB (xL a' (xs.length+ys.length) c') M) w'->Below base w w'->wpList P ops Q rest (a.put o.dst (xL a' (xs.length+ys.length) c')) w'):wpList P ops Q (o::rest) a w:=by
 obtain⟨css,h1,h2,h3⟩:=hacc;obtain⟨Nk,k1,k2,k3⟩:=hr;have oN:∀u∈Nk.flatten,u.oneCell'=true:=λu hu=>by
  obtain⟨cs,bD,hu⟩:=List.mem_flatten.1 hu;obtain⟨i,hi⟩:=List.getElem?_of_mem bD;have zV:i<ys.length:=by rw[<-k2];exact(Qad.1 hi).1
  exact aA.flat (k3 i cs _ hi (Qac zV)) u hu
 refine gU w hgd s x t ho base e i z (aA.size α) bytes ht hi hz hsize hby hzs hsz v xs.length css.flatten hs h1 sv ys.length Nk.flatten hx k1 oN h63 hbytes hbase λa' c' w' j1 j2 j3=> ?_;exact h a' c' w' (aP.app h2 h3 k2 k3 j1 j2 j3) (Ev.grown j2 j3) ((Qbg _ w).grown j2 hbase λk hk=>(h1.lt k hk).1)
def mH
 (h:∀a' c' w',aP M base e w' (xL a' (xs.length+ys.length) c') (xs++ys)->Ev (bB v M) w (bB (xL a' (xs.length+ys.length) c') M) w'->Below base w w'->K (a.put o.dst (xL a' (xs.length+ys.length) c')) w'):
 if Region.wanted o (yielded ops a.tmps)=true then Oper.wp P o a w K Q else E:=by
 have hw:Region.wanted o (yielded ops a.tmps)=true:=by simp[Region.wanted,hgd]
 rw[if_pos hw];obtain⟨css,h1,h2,h3⟩:=hacc;obtain⟨Nk,k1,k2,k3⟩:=hr;have oN:∀u∈Nk.flatten,u.oneCell'=true:=λu hu=>by
  obtain⟨cs,bD,hu⟩:=List.mem_flatten.1 hu;obtain⟨i,hi⟩:=List.getElem?_of_mem bD;have zV:i<ys.length:=by rw[<-k2];exact(Qad.1 hi).1
  exact aA.flat (k3 i cs _ hi (Qac zV)) u hu
 refine ox w s x t ho base e i z (aA.size α) bytes ht hi hz hsize hby hzs hsz v xs.length css.flatten hs h1 sv ys.length Nk.flatten hx k1 oN h63 hbytes hbase λv' w' j1 j2 j3=> ?_;obtain⟨a',c',rfl,_,_⟩:=ey j1;exact h a' c' w' (aP.app h2 h3 k2 k3 j1 j2 j3) (Ev.grown j2 j3) ((Qbg _ w).grown j2 hbase λk hk=>(h1.lt k hk).1)
end
def I6(x:Int):Prop:= -9223372036854775808<=x/\x<=9223372036854775807
structure js where
 name:Int
 kind:Int
 of:Int
 indexed:Bool
structure uy where
 name:Int
 fields:List js
structure fz where
 kind:Int
 field:Int
 name:Int
 more:Int
 type:aR
 expr:Int
 other:Int
structure gZ where
 cls:uy
 changes:List fz
structure jE where
 cls:Int
 ver:Int
 aJ:List Int
 skip:Int
structure jL where
 name:Int
 id:Int
instance:aA js where
 size:=4
 rep:=λ_ _ cs x=>cs=[xI x.name,xI x.kind,xI x.of,xB x.indexed]/\I6 x.name/\I6 x.kind/\I6 x.of
 len:=λh=>by rw[h.1];rfl
 flat:=λh u hu=>by rw[h.1]at hu;simp at hu;rcases hu with rfl|rfl|rfl|rfl<;>rfl
 ev:=λh _=>h
instance:aA fz where
 size:=8
 rep:=λ_ _ cs x=>cs=[xI x.kind,xI x.field,xI x.name,xI x.more,xI x.type.kind,xI x.type.of,xI x.expr,xI x.other]/\I6 x.kind/\I6 x.field/\I6 x.name/\I6 x.more/\I6 x.type.kind/\I6 x.type.of/\I6 x.expr/\I6 x.other
 len:=λh=>by rw[h.1];rfl
 flat:=λh u hu=>by rw[h.1]at hu;simp at hu;rcases hu with rfl|rfl|rfl|rfl|rfl|rfl|rfl|rfl<;>rfl
 ev:=λh _=>h
instance:aA jL where
 size:=2
 rep:=λ_ _ cs x=>cs=[xI x.name,xI x.id]/\I6 x.name/\I6 x.id
 len:=λh=>by rw[h.1];rfl
 flat:=λh u hu=>by rw[h.1]at hu;simp at hu;rcases hu with rfl|rfl<;>rfl
 ev:=λh _=>h
instance:aA uy where
 size:=2
 rep:=λM w cs x=>∃fv,cs=[xI x.name,fv]/\ab M w fv x.fields/\I6 x.name
 len:=λ⟨_,h,_⟩=>by rw[h];rfl
 flat:=λ⟨_,h,h1,_⟩u hu=>by rw[h]at hu;simp at hu;rcases hu with rfl|rfl;rfl;exact ez h1
 ev:=λ⟨fv,h,h1,h2⟩k=>⟨fv,h,h1.ev k,h2⟩
instance:aA gZ where
 size:=3
 rep:=λM w cs x=>∃fv cv,cs=[xI x.cls.name,fv,cv]/\ab M w fv x.cls.fields/\ab M w cv x.changes/\I6 x.cls.name
 len:=λ⟨_,_,h,_⟩=>by rw[h];rfl
 flat:=λ⟨_,_,h,h1,h2,_⟩u hu=>by rw[h]at hu;simp at hu;rcases hu with rfl|rfl|rfl;rfl;exact ez h1;exact ez h2
 ev:=λ⟨fv,cv,h,h1,h2,h3⟩k=>⟨fv,cv,h,h1.ev k,h2.ev k,h3⟩
instance:aA jE where
 size:=4
 rep:=λM w cs x=>∃vv,cs=[xI x.cls,xI x.ver,vv,xI x.skip]/\ab M w vv x.aJ/\I6 x.cls/\I6 x.ver/\I6 x.skip/\∀y∈x.aJ,I6 y
 len:=λ⟨_,h,_⟩=>by rw[h];rfl
 flat:=λ⟨_,h,h1,_⟩u hu=>by rw[h]at hu;simp at hu;rcases hu with rfl|rfl|rfl|rfl;rfl;rfl;exact ez h1;rfl
 ev:=λ⟨vv,h,h1,h2⟩k=>⟨vv,h,h1.ev k,h2⟩
variable{b:Nat}
def cell_of_heap {cs:Array an}{t:TypeId}{fr:Nat×Nat}(h:cI W b (.cells cs t fr)){i:Nat}{v:an}(hv:cs[i]? =some v):aU W b i v:=by
 simp[World.cell?,h,hv]
def ag {cs:Array an}{t:TypeId}(h:cI W b (.cells cs t (0,0)))(i:Nat):W.frozen? ⟨b,i,none⟩=false:=by
 simp[World.frozen?,h]
variable{w':aj}
theorem Ev.setCell {M:aS}{w:aj}(h:Ev M w N w'){p:Addr}(hp:M p.block\/w.heap.size<=p.block)(u:an):Ev M w N (w'.setCell p u):=⟨h.only.setCell hp u,h.sub⟩
theorem Ev.drew {M:aS}{w:aj}(h:Ev M w N w'):Ev M w N w'.drew:=⟨h.only.drew,h.sub⟩
theorem Ev.alloc {M:aS}{w:aj}(h:Ev M w N w')(o:Obj):Ev M w N (w'.alloc o):=⟨h.only.alloc o,h.sub⟩
theorem aP.uz {α:Type} [aA α]{M:aS}{base:Nat}{e:TypeId}{w:aj}{v:an}{xs:List α}(h:aP M base e w v xs){p:Addr}(hp:M p.block)(hb:p.block<base)(u:an):aP M base e (w.setCell p u) v xs:=by
 obtain⟨css,h1,h2,h3⟩:=h;exact⟨css,ownsRow_setCell_below h1 hb u,h2,λi cs x hc hx=>aA.ev (h3 i cs x hc hx) ((Ev.refl _ w).setCell (.inl (.inl hp)) u)⟩
variable{o0:Obj}
def sB {w:aj}(hW:W=w.alloc o0):dY W w o0/\W.heap.size=w.heap.size+1/\aq w W:=by
 subst hW;exact⟨Qbh w o0,by simp,bO⟩
variable{o1:Obj}
def jM {w:aj}(hW:W=(w.alloc o0).alloc o1):dY W w o0/\cI W (w.heap.size+1) o1/\W.heap.size=w.heap.size+2/\aq w W:=by
 subst hW;obtain⟨h0,hz,hb⟩:=sB (w:=w) (o0:=o0) rfl;exact⟨(Qcb _ _ _ (by omega)).trans h0,by rw[<-hz];exact Qbh _ _,by rw[World.size_alloc,hz],hb.alloc hb.size _⟩
variable{o2:Obj}
def D1 {w:aj}(hW:W=((w.alloc o0).alloc o1).alloc o2):dY W w o0/\cI W (w.heap.size+1) o1/\cI W (w.heap.size+2) o2/\W.heap.size=w.heap.size+3/\aq w W:=by
 subst hW;obtain⟨h0,h1,hz,hb⟩:=jM (w:=w) (o0:=o0) (o1:=o1) rfl;exact⟨(Qcb _ _ _ (by omega)).trans h0,(Qcb _ _ _ (by omega)).trans h1,by rw[<-hz];exact Qbh _ _,by rw[World.size_alloc,hz],hb.alloc hb.size _⟩
variable{o3:Obj}
def Uz {w:aj}(hW:W=(((w.alloc o0).alloc o1).alloc o2).alloc o3):dY W w o0/\cI W (w.heap.size+1) o1/\cI W (w.heap.size+2) o2/\cI W (w.heap.size+3) o3/\W.heap.size=w.heap.size+4/\aq w W:=by
 subst hW;obtain⟨h0,h1,h2,hz,hb⟩:=D1 (w:=w) (o0:=o0) (o1:=o1) (o2:=o2) rfl;exact⟨(Qcb _ _ _ (by omega)).trans h0,(Qcb _ _ _ (by omega)).trans h1,(Qcb _ _ _ (by omega)).trans h2,by rw[<-hz];exact Qbh _ _,by rw[World.size_alloc,hz],hb.alloc hb.size _⟩
def aH(c:Int)(n:Nat):Nat:=((if c<0 then-(c+1)else c)%n).toNat
def cq(c:Int)(n:Nat)(h:0<n):aH c n<n:=by
 unfold aH;have h1:=Int.emod_lt_of_pos (if c<0 then-(c+1)else c) (b:=n) (by omega);have h2:=Int.emod_nonneg (if c<0 then-(c+1)else c) (b:=n) (by omega);omega
def eS(c:Int)(n:Int)(w:aj)(hc:I6 c)(hn:1<=n)(Cd:n<=1000000):
 xC 78 #[xI c,xI n] w (gE (xI (aH c n.toNat)) w):=by
 obtain⟨iB,jh⟩:=hc;have e0:((aH c n.toNat:Nat):Int)=(if c<0 then-(c+1)else c)%n:=by
  unfold aH;rw[Int.toNat_of_nonneg (a:=n) (by omega)];exact Int.toNat_of_nonneg (Int.emod_nonneg _ (by omega))
 by_cases h:c<0
 .rw[if_pos h]at e0;have E:=af e0;clear e0;go_enter func78,ntmps78;go_wp2;go_ret;refine⟨iP ?_,rfl⟩;rw[E.o,<-Int.neg_tmod,Int.tmod_eq_emod_of_nonneg (by omega)]
 .rw[if_neg h]at e0;have E:=af e0;clear e0;go_enter func78,ntmps78;go_wp2;go_ret;exact⟨iP E.o.symm,rfl⟩
def iu(c:Int)(n:Int)(w:aj)(hc:I6 c)(hn:1<=n)(Cd:n<=1000000):
 xC 132 #[xI c,xI n] w (gE (xI (aH c n.toNat)) w):=by
 obtain⟨iB,jh⟩:=hc;have e0:((aH c n.toNat:Nat):Int)=(if c<0 then-(c+1)else c)%n:=by
  unfold aH;rw[Int.toNat_of_nonneg (a:=n) (by omega)];exact Int.toNat_of_nonneg (Int.emod_nonneg _ (by omega))
 by_cases h:c<0
 .rw[if_pos h]at e0;have E:=af e0;clear e0;go_enter func132,ntmps132;go_wp2;go_ret;refine⟨iP ?_,rfl⟩;rw[E.o,<-Int.neg_tmod,Int.tmod_eq_emod_of_nonneg (by omega)]
 .rw[if_neg h]at e0;have E:=af e0;clear e0;go_enter func132,ntmps132;go_wp2;go_ret;exact⟨iP E.o.symm,rfl⟩
def kT(c:Int)(n:Int)(w:aj)(hc:I6 c)(hn:1<=n)(Cd:n<=1000000):
 xC 23 #[xI c,xI n] w (gE (xI (aH c n.toNat)) w):=by
 obtain⟨iB,jh⟩:=hc;have e0:((aH c n.toNat:Nat):Int)=(if c<0 then-(c+1)else c)%n:=by
  unfold aH;rw[Int.toNat_of_nonneg (a:=n) (by omega)];exact Int.toNat_of_nonneg (Int.emod_nonneg _ (by omega))
 by_cases h:c<0
 .rw[if_pos h]at e0;have E:=af e0;clear e0;go_enter func23,ntmps23;go_wp2;go_ret;refine⟨iP ?_,rfl⟩;rw[E.o,<-Int.neg_tmod,Int.tmod_eq_emod_of_nonneg (by omega)]
 .rw[if_neg h]at e0;have E:=af e0;clear e0;go_enter func23,ntmps23;go_wp2;go_ret;exact⟨iP E.o.symm,rfl⟩
def Bx(w:aj)(os:List Obj)(wx:aj):Prop:=aq w wx/\w.heap.size+os.length<=wx.heap.size/\∀(i:Nat)(o:Obj),os[i]? =some o->cI wx (w.heap.size+i) o
section
variable {w wx w':aj}{os:List Obj}
theorem Bx.nil(w:aj):Bx w [] w:=⟨dK,by simp,λi o h=>by simp at h⟩
theorem Bx.at_(h:Bx w os wx)(i:Nat)(hi:os[i]? =some o):cI wx (w.heap.size+i) o:=h.2.2 i o hi
theorem Bx.bJ(h:Bx w os wx)(hi:os[0]? =some o):dY wx w o:=h.2.2 0 o hi
theorem Bx.cE(h:Bx w os wx)(hi:os[1]? =some o):cI wx (w.heap.size+1) o:=h.2.2 1 o hi
theorem Bx.gy(h:Bx w os wx)(hi:os[2]? =some o):cI wx (w.heap.size+1+1) o:=h.2.2 2 o hi
theorem Bx.Ay(h:Bx w os wx)(hi:os[3]? =some o):cI wx (w.heap.size+1+1+1) o:=h.2.2 3 o hi
theorem Bx.at4(h:Bx w os wx)(hi:os[4]? =some o):cI wx (w.heap.size+1+1+1+1) o:=h.2.2 4 o hi
theorem Bx.bY(h:Bx w os wx):w.heap.size+os.length<=wx.heap.size:=h.2.1
variable{B:Nat}
theorem Bx.cP(h:Bx w os wx)(k:Below B wx w')(hB:w.heap.size+os.length<=B):Bx w os w':=by
 obtain⟨h1,h2,h3⟩:=h;refine⟨h1.trans (k.mono (by omega)),by have:=k.size;omega,λi o hi=> ?_⟩;have hl:=(Qad.1 hi).1;exact(k.block _ (by omega)).trans (h3 i o hi)
theorem Bx.below(h:Bx w os wx)(k:aq wx w'):Bx w os w':=h.cP k h.2.1
theorem Bx.alloc(h:Bx w os wx)(o:Obj):Bx w os (wx.alloc o):=h.below (dK.alloc bq o)
theorem Bx.drew(h:Bx w os wx):Bx w os wx.drew:=⟨h.1.drew,h.2⟩
theorem Bx.drewN(h:Bx w os wx)(n:Nat):Bx w os (wx.drewN n):=⟨⟨h.1.os,h.1.tape,h.1.output,h.1.size,h.1.block⟩,h.2⟩
theorem Bx.snoc(h:Bx w os wx)(hs:wx.heap.size=w.heap.size+os.length)(o:Obj):Bx w (os++[o]) (wx.alloc o):=by
 obtain⟨h1,h2,h3⟩:=h;refine⟨h1.alloc h1.size o,by simp;omega,λi p hi=> ?_⟩;by_cases hl:i<os.length
 .rw[Qbc hl]at hi;exact(Qcb wx o _ (by omega)).trans (h3 i p hi)
 .rw[Qbd (by omega)]at hi;have h0:i-os.length=0:=by
   cases hq:i-os.length with
   |zero=>rfl
   |succ q=>rw[hq]at hi;simp at hi
  rw[h0]at hi;simp at hi;subst hi;rw[show w.heap.size+i=wx.heap.size from by omega];exact Qbh wx o
theorem Bx.dR(w:aj)(o0:Obj):Bx w [o0] (w.alloc o0):=(Bx.nil w).snoc (by simp) o0
theorem Bx.dh(w:aj)(o0 o1:Obj):Bx w [o0,o1] ((w.alloc o0).alloc o1):=(Bx.dR w o0).snoc (by simp) o1
theorem Bx.gI(w:aj)(o0 o1 o2:Obj):Bx w [o0,o1,o2] (((w.alloc o0).alloc o1).alloc o2):=(Bx.dh w o0 o1).snoc (by simp) o2
theorem Bx.Oy(w:aj)(o0 o1 o2 o3:Obj):Bx w [o0,o1,o2,o3] ((((w.alloc o0).alloc o1).alloc o2).alloc o3):=(Bx.gI w o0 o1 o2).snoc (by simp) o3
theorem Bx.Zw(w:aj)(o0 o1 o2 o3 o4:Obj):Bx w [o0,o1,o2,o3,o4] (((((w.alloc o0).alloc o1).alloc o2).alloc o3).alloc o4):=(Bx.Oy w o0 o1 o2 o3).snoc (by simp) o4
theorem Bx.set(h:Bx w os wx)(i j:Nat){cs:Array an}(hi:os[i]? =some (.cells cs t (0,0)))(v:an):Bx w (os.set i (.cells (cs.setIfInBounds j v) t (0,0))) (wx.setCell ⟨w.heap.size+i,j,none⟩ v):=by
 obtain⟨h1,h2,h3⟩:=h;refine⟨h1.setCell (by simp) v,by simpa [World.setCell]using h2,λk o hk=> ?_⟩;have hl:=(Qad.1 hi).1;by_cases e:k=i
 .subst e;rw[List.getElem?_set_self hl]at hk;cases hk;have:=Qca wx (w.heap.size+k) j cs t v (h3 k _ hi);simpa using this
 .rw[List.getElem?_set_ne (λh=>e h.symm)]at hk;exact(Qag _ _ _ _ (by simp;omega)).trans (h3 k o hk)
end
def orM(M:aS)(B:Nat):Nat->Prop:=λi=>M i\/i=B
def dD {α:Type} [aA α](M:aS)(B:Nat)(t:TypeId)(w:aj)(n:Nat)(xs:List α):Prop:=
 ∃(cur:Array an)(css:List (List an)),cI w B (.cells cur t (0,0))/\cur.size=n*aA.size α/\xs.length<=n/\css.length=xs.length/\css.flatten=cur.toList.take (xs.length*aA.size α)/\
  ∀(i:Nat)(cs:List an)(x:α),css[i]? =some cs->xs[i]? =some x->aA.rep (orM M B) w cs x
section
variable {α:Type} [aA α]{M:aS}{B:Nat}{t:TypeId}{w w':aj}{n:Nat}{xs:List α}
theorem dD.made(cur:Array an)(h:cI w B (.cells cur t (0,0)))(hs:cur.size=n*aA.size α):dD (α:=α) M B t w n []:=
 ⟨cur,[],h,hs,Qbf _,rfl,by simp,λi cs x h=>by simp at h⟩
theorem dD.lt(h:dD M B t w n xs):B<w.heap.size:=by obtain⟨cur,css,h1,_⟩:=h;exact(Qaa.1 h1).1
theorem dD.below(h:dD M B t w n xs)(hb:aq w w'):dD M B t w' n xs:=by
 obtain⟨cur,css,h1,h2,h3,h4,h5,h6⟩:=h;exact⟨cur,css,(hb.block B (Qaa.1 h1).1).trans h1,h2,h3,h4,h5,λi cs x hc hx=>aA.ev (h6 i cs x hc hx) (Ev.ao hb)⟩
theorem dD.cell(h:dD M B t w n xs)(hj:j<n*aA.size α):∃v,aU w B j v/\w.frozen? ⟨B,j,none⟩=false:=by
 obtain⟨cur,css,h1,h2,_⟩:=h;exact⟨cur[j]'(by omega),cell_of_heap h1 (by simp[h2,hj]),ag h1 j⟩
theorem dD.slice(h:dD M B t w n xs)(hn:xs.length=n)(hB:¬M B)(hm:n<=maxLen):ab M w (xL (some ⟨B,0,none⟩) n n) xs:=by
 obtain⟨cur,css,h1,h2,h3,h4,h5,h6⟩:=h;subst hn;refine⟨css,⟨?_,some ⟨B,0,none⟩,xs.length,rfl,bq,hm,λ_=>⟨B,0,rfl,hB,(Qaa.1 h1).1,λj u hu=> ?_⟩⟩,h4,λi cs x hc hx=>aA.ev (h6 i cs x hc hx) (Ev.eG w λi hi=> .inl hi)⟩
 .rw[h5,Qdb];simp[h2]
 .rw[h5]at hu;have hu2:=lS hu;rw[Nat.zero_add];exact cell_of_heap h1 (by simpa using hu2)
end
def Zz {l:List an}{o:Nat}{a b c d:an}(h:o+4<=l.length):((((l.set o a).set (o+1) b).set (o+2) c).set (o+3) d).take (o+4)=l.take o++[a,b,c,d]:=by
 apply List.ext_getElem?;intro i;rw[List.getElem?_take,List.getElem?_append];have hl:(l.take o).length=o:=by simp;omega
 rw[hl];by_cases h1:i<o
 .rw[if_pos (by omega),if_pos h1];rw[List.getElem?_set_ne (by omega),List.getElem?_set_ne (by omega),List.getElem?_set_ne (by omega),List.getElem?_set_ne (by omega),List.getElem?_take,if_pos h1]
 .rw[if_neg h1];by_cases h2:i<o+4
  .rw[if_pos h2];have:i=o\/i=o+1\/i=o+2\/i=o+3:=by omega
   rcases this with rfl|rfl|rfl|rfl
   .rw[List.getElem?_set_ne (by omega),List.getElem?_set_ne (by omega),List.getElem?_set_ne (by omega),List.getElem?_set_self (by omega)];simp
   .rw[List.getElem?_set_ne (by omega),List.getElem?_set_ne (by omega),List.getElem?_set_self (by simp;omega)];simp
   .rw[List.getElem?_set_ne (by omega),List.getElem?_set_self (by simp;omega)];simp
   .rw[List.getElem?_set_self (by simp;omega)];simp
  .rw[if_neg h2];rw[List.getElem?_eq_none (by simp;omega)]
variable{cur:Array an}{K:Nat}
def dM {o:Nat}{t:TypeId}(h:cI W K (.cells cur t (0,0)))(a b c d:an):
 ((((W.setCell ⟨K,o,none⟩ a).setCell ⟨K,o+1,none⟩ b).setCell ⟨K,o+2,none⟩ c).setCell ⟨K,o+3,none⟩ d).heap[K]? =some (.cells ((((cur.setIfInBounds o a).setIfInBounds (o+1) b).setIfInBounds (o+2) c).setIfInBounds (o+3) d) t (0,0)):=
 Qca _ K (o+3) _ _ d (Qca _ K (o+2) _ _ c (Qca _ K (o+1) _ _ b (Qca _ K o _ _ a h)))
theorem dD.gJ {α:Type} [aA α](h4:aA.size α=4){M:aS}{B:Nat}{t:TypeId}{w:aj}{n:Nat}{xs:List α}(h:dD M B t w n xs)(hk:xs.length=k)(hn:k<n){x:α}{a b c d:an}(hx:aA.rep (orM M B) w [a,b,c,d] x):
 dD M B t ((((w.setCell ⟨B,k*4,none⟩ a).setCell ⟨B,k*4+1,none⟩ b).setCell ⟨B,k*4+2,none⟩ c).setCell ⟨B,k*4+3,none⟩ d) n (xs++[x]):=by
 obtain⟨cur,css,h1,h2,h3,h5,h6,h7⟩:=h;subst hk;rw[h4]at h2 h6;have E:Ev (orM M B) w (orM M B) ((((w.setCell ⟨B,xs.length*4,none⟩ a).setCell ⟨B,xs.length*4+1,none⟩ b).setCell ⟨B,xs.length*4+2,none⟩ c).setCell ⟨B,xs.length*4+3,none⟩ d):=
  ((((Ev.refl _ w).setCell (.inl (.inr rfl)) a).setCell (.inl (.inr rfl)) b).setCell (.inl (.inr rfl)) c).setCell (.inl (.inr rfl)) d;refine⟨_,css++[[a,b,c,d]],dM h1 a b c d,by rw[h4];simp[h2],by simp;omega,by simp[h5],?_,λi cs y hc hy=> ?_⟩
 .rw[h4];simp only[List.flatten_append,List.flatten_cons,List.flatten_nil,List.append_nil,Qda,Qcc,Qcd,h6,Array.toList_setIfInBounds];rw[show(xs.length+(0+1))*4=xs.length*4+4 from by omega,Zz (by simp[h2];omega)]
 .by_cases hi:i<css.length
  .rw[Qbc hi]at hc;rw[Qbc (by omega)]at hy;exact aA.ev (h7 i cs y hc hy) E
  .rw[Qbd (by omega)]at hc;rw[Qbd (by omega)]at hy;rw[h5]at hc;have h0:i-xs.length=0:=by
    cases hq:i-xs.length with
    |zero=>rfl
    |succ q=>rw[hq]at hc;simp at hc
   rw[h0]at hc hy;simp at hc hy;subst hc hy;exact aA.ev hx E
def qU {css:List (List an)}{size:Nat}:(∀(i:Nat)(cs:List an),css[i]? =some cs->cs.length=size)->∀k,(css.take k).flatten=css.flatten.take (k*size)/\(css.drop k).flatten=css.flatten.drop (k*size):=by
 induction css with
 |nil=>intro _ k;simp
 |cons a r ih=>
  intro hs k;have ha:a.length=size:=hs 0 a rfl;cases k with
  |zero=>simp
  |succ k=>
   obtain⟨h1,h2⟩:=ih (λi c hc=>hs (i+1) c (by simpa using hc)) k;have e:(k+1)*size=a.length+k*size:=by rw[Nat.succ_mul,ha];omega
   constructor
   .rw[List.take_succ_cons,List.flatten_cons,List.flatten_cons,h1,e,List.take_length_add_append]
   .rw[List.drop_succ_cons,List.flatten_cons,h2,e,List.drop_length_add_append]
theorem ab.lens {α:Type} [aA α]{xs:List α}{css:List (List an)}(h2:css.length=xs.length)(h3:∀(i:Nat)(cs:List an)(x:α),css[i]? =some cs->xs[i]? =some x->aA.rep M w cs x):
 ∀(i:Nat)(cs:List an),css[i]? =some cs->cs.length=aA.size α:=λi cs bD=>by
 have hi:i<xs.length:=by rw[<-h2];exact(Qad.1 bD).1
 exact aA.len (h3 i cs _ bD (Qac hi))
variable{cap:Nat}{a:dC}
theorem ab.upto {α:Type} [aA α]{n:Nat}{xs:List α}(h:ab M w (xL a n cap) xs)(hn:xs.length=n)(hk:k<=n):ab M w (xL a k cap) (xs.take k):=by
 subst hn;obtain⟨css,h1,h2,h3⟩:=h;refine⟨css.take k,?_,by simp[h2],λi cs x hc hx=> ?_⟩
 .rw[(qU (ab.lens h2 h3) k).1,Qdb,Nat.min_eq_left hk];exact bj.upto h1 rfl hk
 .rw[List.getElem?_take]at hc hx;split at hc
  .rename_i hi;rw[if_pos hi]at hx;exact h3 i cs x hc hx
  .cases hc
theorem ab.from_ {α:Type} [aA α]{n:Nat}{xs:List α}(h:ab M w (xL a n cap) xs)(hn:xs.length=n)(hk:k<=n):
 ab M w (xL (if cap=k then a else a.map (·.add (k*aA.size α))) (n-k) (cap-k)) (xs.drop k):=by
 subst hn;obtain⟨css,h1,h2,h3⟩:=h;refine⟨css.drop k,?_,by simp[h2],λi cs x hc hx=> ?_⟩
 .rw[(qU (ab.lens h2 h3) k).2,List.length_drop];exact bj.from_ h1 rfl hk
 .rw[List.getElem?_drop]at hc hx;exact h3 _ cs x hc hx
def nM(c:Int)(n:Int)(w:aj)(hc:I6 c)(hn:1<=n)(Cd:n<=1000000):
 xC 33 #[xI c,xI n] w (gE (xI (aH c n.toNat)) w):=by
 obtain⟨iB,jh⟩:=hc;have e0:((aH c n.toNat:Nat):Int)=(if c<0 then-(c+1)else c)%n:=by
  unfold aH;rw[Int.toNat_of_nonneg (a:=n) (by omega)];exact Int.toNat_of_nonneg (Int.emod_nonneg _ (by omega))
 by_cases h:c<0
 .rw[if_pos h]at e0;have E:=af e0;clear e0;go_enter func33,ntmps33;go_wp2;go_ret;refine⟨iP ?_,rfl⟩;rw[E.o,<-Int.neg_tmod,Int.tmod_eq_emod_of_nonneg (by omega)]
 .rw[if_neg h]at e0;have E:=af e0;clear e0;go_enter func33,ntmps33;go_wp2;go_ret;exact⟨iP E.o.symm,rfl⟩
end
namespace Mk
def bn(ys:List Int)(k:Nat):Int:=ys.getD k 0
def kg(ys:List Int)(i j:Nat):List Int:=(ys.set i (bn ys j)).set j (bn ys i)
variable{k:Nat}{ys:List Int}
def BO(h:k<ys.length):ys[k]? =some (bn ys k):=by simp[bn,List.getD,Qac h]
def dk(ys:List Int)(i j:Nat):(kg ys i j).length=ys.length:=by simp[kg]
variable{i j:Nat}
def lq(hi:i<ys.length)(hj:j<ys.length)(k:Nat):bn (kg ys i j) k=if k=j then bn ys i else if k=i then bn ys j else bn ys k:=by
 unfold kg bn;simp only[List.getD];by_cases h1:k=j
 .subst h1;simp[List.getElem?_set,hj]
 .by_cases h2:k=i
  .subst h2;rw[List.getElem?_set_ne (by omega)];simp[hi,h1]
  .rw[List.getElem?_set_ne (by omega),List.getElem?_set_ne (by omega)];simp[h1,h2]
def count_set(ys:List Int)(i:Nat)(h:i<ys.length)(x a:Int):(ys.set i x).count a+(if bn ys i=a then 1 else 0)=ys.count a+(if x=a then 1 else 0):=by
 induction ys generalizing i with
 |nil=>simp at h
 |cons y r ih=>
  cases i with
  |zero=>simp only[List.set_cons_zero,List.count_cons,bn,List.getD];simp;omega
  |succ i=>
   have:=ih i (by simpa using h);simp only[List.set_cons_succ,List.count_cons];have e:bn (y::r) (i+1)=bn r i:=by simp[bn,List.getD]
   rw[e];omega
def lu(hi:i<ys.length)(hj:j<ys.length):(kg ys i j).Perm ys:=by
 rw[List.perm_iff_count];intro a;have h1:=count_set ys i hi (bn ys j) a;have h2:=count_set (ys.set i (bn ys j)) j (by simpa using hj) (bn ys i) a;have e:bn (ys.set i (bn ys j)) j=if j=i then bn ys j else bn ys j:=by
  unfold bn;simp only[List.getD];by_cases h:i=j
  .subst h;simp[hi]
  .rw[List.getElem?_set_ne h];simp
 have e':bn (ys.set i (bn ys j)) j=bn ys j:=by rw[e];split<;>rfl
 rw[e']at h2;unfold kg;omega
def fF(ys:List Int)(n:Nat):Prop:=∀c,1<=c->c<n->bn ys ((c-1)/2)<=bn ys c
structure zt(ys:List Int)(j:Nat):Prop where
 lt:j<ys.length
 far:∀c,1<=c->c<ys.length->c≠j->bn ys ((c-1)/2)<=bn ys c
 near:∀c,1<=c->c<ys.length->(c-1)/2=j->1<=j->bn ys ((j-1)/2)<=bn ys c
variable{xs:List Int}
def PR {x:Int}(h:fF xs xs.length):zt (xs++[x]) xs.length:=by
 have e:∀k,k<xs.length->bn (xs++[x]) k=bn xs k:=λk hk=>by simp[bn,List.getD,Qbc hk]
 refine⟨by simp,λc h1 h2 h3=> ?_,λc h1 h2 h3 h4=> ?_⟩
 .simp at h2;rw[e _ (by omega),e _ (by omega)];exact h c h1 (by omega)
 .simp at h2;omega
def KL(h:zt ys j)(hs:j=0\/¬bn ys j<bn ys ((j-1)/2)):fF ys ys.length:=by
 intro c h1 h2;by_cases hc:c=j
 .subst hc;rcases hs with hs|hs
  .omega
  .omega
 .exact h.far c h1 h2 hc
def Tj(h:zt ys j)(hj:1<=j)(hs:bn ys j<bn ys ((j-1)/2)):zt (kg ys ((j-1)/2) j) ((j-1)/2):=by
 have aX:=h.lt;have hi:(j-1)/2<ys.length:=by omega
 have e:=lq hi aX;refine⟨by rw[dk];exact hi,λc h1 h2 h3=> ?_,λc h1 h2 h3 h4=> ?_⟩
 .rw[dk]at h2;rw[e,e];by_cases Sm:c=j
  .subst Sm;rw[if_neg (by omega),if_pos rfl,if_pos rfl];omega
  .rw[if_neg Sm,if_neg h3];by_cases hp:(c-1)/2=j
   .rw[if_pos hp];exact h.near c h1 h2 hp hj
   .rw[if_neg hp];have hf:=h.far c h1 h2 Sm;by_cases hpi:(c-1)/2=(j-1)/2
    .rw[if_pos hpi];rw[hpi]at hf;omega
    .rw[if_neg hpi];exact hf
 .rw[dk]at h2;have qem:bn ys (((j-1)/2-1)/2)<=bn ys ((j-1)/2):=h.far _ h4 hi (by omega);rw[e,e];rw[if_neg (show((j-1)/2-1)/2≠j by omega),if_neg (show((j-1)/2-1)/2≠(j-1)/2 by omega)];by_cases Sm:c=j
  .rw[if_pos Sm];exact qem
  .rw[if_neg Sm,if_neg (by omega)];have hf:=h.far c h1 h2 Sm;rw[h3]at hf;omega
structure qu(ys:List Int)(i n:Nat):Prop where
 le:n<=ys.length
 far:∀c,1<=c->c<n->(c-1)/2≠i->bn ys ((c-1)/2)<=bn ys c
 near:∀c,1<=c->c<n->(c-1)/2=i->1<=i->bn ys ((i-1)/2)<=bn ys c
def qw {n:Nat}(h:qu ys i n)(hs:∀c,1<=c->c<n->(c-1)/2=i->bn ys i<=bn ys c):fF ys n:=by
 intro c h1 h2;by_cases hc:(c-1)/2=i
 .rw[hc];exact hs c h1 h2 hc
 .exact h.far c h1 h2 hc
def uX {n:Nat}(h:qu ys i n)(hj1:1<=j)(hjn:j<n)(T9:(j-1)/2=i)(hs:bn ys j<bn ys i)(ho:∀c,1<=c->c<n->(c-1)/2=i->bn ys j<=bn ys c):qu (kg ys i j) j n:=by
 have hle:=h.le;have e:=lq (ys:=ys) (i:=i) (j:=j) (by omega) (by omega);refine⟨by rw[dk];exact hle,λc h1 h2 h3=> ?_,λc h1 h2 h3 h4=> ?_⟩
 .rw[e,e];by_cases hp:(c-1)/2=i
  .rw[if_neg (by omega),if_pos hp];by_cases Sm:c=j
   .rw[if_pos Sm];omega
   .rw[if_neg Sm,if_neg (by omega)];exact ho c h1 h2 hp
  .rw[if_neg (by omega),if_neg hp];rw[if_neg (show c≠j by rintro rfl;exact hp T9)];by_cases Za:c=i
   .rw[if_pos Za];have h5:=h.near j hj1 hjn T9 (by omega);rw[Za];exact h5
   .rw[if_neg Za];exact h.far c h1 h2 hp
 .rw[e,e,T9,if_neg (by omega),if_pos rfl,if_neg (by omega),if_neg (by omega)];have:=h.far c h1 h2 (by omega);rw[h3]at this;exact this
def I4 {n:Nat}(h:fF ys n):∀c,c<n->bn ys 0<=bn ys c:=by
 intro c;induction c using Nat.strongRecOn with
 |ind c ih=>
  intro hc;rcases Nat.eq_zero_or_pos c with h0|h0
  .subst h0;omega
  .have:=h c h0 hc;have:=ih ((c-1)/2) (by omega) (by omega);omega
def I5 {n:Nat}(h:fF xs xs.length)(hn:xs.length=n+1):qu (kg xs 0 n) 0 n:=by
 have e:=lq (ys:=xs) (i:=0) (j:=n) (by omega) (by omega);refine⟨by rw[dk];omega,λc h1 h2 h3=> ?_,λc h1 h2 h3 h4=>by omega⟩;rw[e,e,if_neg (by omega),if_neg (by omega),if_neg (by omega),if_neg (by omega)];exact h c h1 (by omega)
theorem fF.take {n:Nat}(h:fF ys n)(hn:n<=ys.length):fF (ys.take n) (ys.take n).length:=by
 rw[Qdb,Nat.min_eq_left hn];intro c h1 h2;have e:∀k,k<n->bn (ys.take n) k=bn ys k:=λk hk=>by simp[bn,List.getD,List.getElem?_take,hk]
 rw[e _ (by omega),e _ h2];exact h c h1 h2
def MC {n:Nat}(h:ys.length=n+1):ys=ys.take n++[bn ys n]:=by
 have h1:=List.take_append_drop n ys;have h2:ys.drop n=[bn ys n]:=by
  rw[List.drop_eq_getElem_cons (by omega),List.drop_of_length_le (by omega)];have:=BO (ys:=ys) (k:=n) (by omega);rw[Qac (by omega)]at this;simpa using this
 rw[h2]at h1;exact h1.symm
end Mk
section
open Go.RowKit
variable{v:an}
def F3 {l:List an}{o:Nat}(h:o<l.length):(l.set o v).take (o+1)=l.take o++[v]:=by
 rw[Qbb,List.getElem?_set_self h,List.take_set_of_le bq];rfl
theorem ru(K:Nat)(t:TypeId):∀(vs:List an)(o:Nat)(W:aj)(cur:Array an),cI W K (.cells cur t (0,0))->o+vs.length<=cur.size->
 ∃Ka:Array an,(W.setCells K o vs).heap[K]? =some (.cells Ka t (0,0))/\Ka.size=cur.size/\Ka.toList.take (o+vs.length)=cur.toList.take o++vs
 |[],o,W,cur,h,_=>⟨cur,h,rfl,by simp⟩
 |v::r,o,W,cur,h,hl=>by
  simp only[Qcc]at hl;obtain⟨Ka,h1,h2,h3⟩:=ru K t r (o+1) _ _ (Qca W K o cur t v h) (by simp;omega);refine⟨Ka,h1,by simpa using h2,?_⟩;rw[Qcc,show o+(r.length+1)=o+1+r.length from by omega,h3,Array.toList_setIfInBounds,F3 (by simp;omega)];simp
theorem wq(M:aS)(K:Nat)(hK:M K):∀(vs:List an)(o:Nat)(w W:aj),Ev M w M W->Ev M w M (W.setCells K o vs)
 |[],_,_,_,h=>h
 |v::r,o,w,W,h=>wq M K hK r (o+1) w _ (h.setCell (.inl hK) v)
variable{k B:Nat}{w:aj}{t:TypeId}{M:aS}
theorem dD.ZZ {α:Type} [aA α]{n:Nat}{xs:List α}(h:dD M B t w n xs)(hk:xs.length=k)(hn:k<n){x:α}{vs:List an}(hx:aA.rep (orM M B) w vs x):
 dD M B t (w.setCells B (k*aA.size α) vs) n (xs++[x]):=by
 obtain⟨cur,css,h1,h2,h3,h5,h6,h7⟩:=h;subst hk;have dt:=aA.len hx;have hmul:xs.length*aA.size α+aA.size α<=n*aA.size α:=by
  have:=Nat.mul_le_mul_right (aA.size α) hn;rwa [Nat.succ_mul]at this
 have E:=wq (orM M B) B (.inr rfl) vs (xs.length*aA.size α) w w (Ev.refl _ w);obtain⟨Ka,g1,g2,g3⟩:=ru B t vs (xs.length*aA.size α) w cur h1 (by rw[h2,dt];exact hmul);refine⟨Ka,css++[vs],g1,g2.trans h2,by simp;omega,by simp[h5],?_,λi cs y hc hy=> ?_⟩
 .rw[List.flatten_append,Qda,List.length_singleton,Nat.succ_mul,<-dt];rw[dt]at g3⊢;rw[g3,h6];simp
 .by_cases hi:i<css.length
  .rw[Qbc hi]at hc;rw[Qbc (by omega)]at hy;exact aA.ev (h7 i cs y hc hy) E
  .rw[Qbd (by omega)]at hc;rw[Qbd (by omega)]at hy;rw[h5]at hc;have h0:i-xs.length=0:=by
    cases hq:i-xs.length with
    |zero=>rfl
    |succ q=>rw[hq]at hc;simp at hc
   rw[h0]at hc hy;simp at hc hy;subst hc hy;exact aA.ev hx E
structure ec where
 k:Int
 n:Int
 s:aT
 a:Option Addr
 c:Nat
 id:Int
inductive Tr where
 |nil:Tr
 |node(b:Nat)(p:ec)(h:Nat)(l r:Tr):Tr
namespace Tr
def ptr:Tr->an
 |nil=> .pointer none
 |node b _ _ _ _=>xP b
def dm:Tr->Nat
 |nil=>0
 |node _ _ h _ _=>h
def cells:Tr->List (Nat×Int)
 |nil=>[]
 |node b p _ l r=>(b,p.id)::(l.cells++r.cells)
def blocks(t:Tr):List Nat:=t.cells.map Prod.fst
def ht:Tr->Prop
 |nil=>True
 |node _ _ h l r=>1<=h/\h<=1+l.cells.length+r.cells.length/\l.ht/\r.ht
def qa:Tr->Prop
 |nil=>True
 |node _ _ _ l r=>l.ht/\r.ht
def mk(b:Nat)(p:ec)(l r:Tr):Tr:=node b p (1+max l.dm r.dm) l r
def oL:∀{t:Tr},t.ht->t.dm<=t.cells.length
 |nil,_=>bq
 |node b p h l r,hh=>by
  obtain⟨_,h2,_,_⟩:=hh;simp[dm,cells];omega
variable{b:Nat}
def Z0 {p:ec}{l r:Tr}(hl:l.ht)(hr:r.ht):(mk b p l r).ht:=by
 have:=oL hl;have:=oL hr;exact⟨by omega,by omega,hl,hr⟩
variable{h:Nat}
def aV {p:ec}{l r:Tr}:(node b p h l r).blocks=b::(l.blocks++r.blocks):=by simp[blocks,cells]
end Tr
def lQ(T:TypeId)(p:ec)(l r:an)(h:Nat):Obj:=xK #[xI p.k,xI p.n,xS p.s,xL p.a 0 p.c,xI p.id,l,r,xI h] T
def xA(T:TypeId)(w:aj):Tr->Prop
 | .nil=>True
 | .node b p h l r=>cI w b (lQ T p l.ptr r.ptr h)/\p.s.size<=maxLen/\xA T w l/\xA T w r
structure Z2(T:TypeId)(w:aj)(t:Tr):Prop where
 rep:xA T w t
 nodup:t.blocks.Nodup
 qa:t.qa
structure fU(T:TypeId)(w:aj)(t:Tr):Prop where
 rep:xA T w t
 nodup:t.blocks.Nodup
 ht:t.ht
section
variable {T:TypeId}{w w':aj}{S:aS}
theorem xA.lt:∀{t:Tr},xA T w t->∀k∈t.blocks,k<w.heap.size
 | .nil,_,k,hk=>by simp[Tr.blocks,Tr.cells]at hk
 | .node b p h l r,hr,k,hk=>by
   obtain⟨h1,_,h2,h3⟩:=hr;rw[Tr.aV]at hk;rcases Qdf.1 hk with rfl|hk
   .exact(Qaa.1 h1).1
   .rcases Qch.1 hk with hk|hk
    .exact h2.lt k hk
    .exact h3.lt k hk
theorem xA.only(ho:ai S w w'):∀{t:Tr},xA T w t->(∀k∈t.blocks,¬S k)->xA T w' t
 | .nil,_,_=>trivial
 | .node b p h l r,hr,hS=>by
   obtain⟨h1,hs,h2,h3⟩:=hr;rw[Tr.aV]at hS;exact⟨(ho.block b (Qaa.1 h1).1 (hS b (by simp))).trans h1,hs,h2.only ho λk hk=>hS k (by simp[hk]),h3.only ho λk hk=>hS k (by simp[hk])⟩
theorem fU.only {t:Tr}(h:fU T w t)(ho:ai S w w')(hS:∀k∈t.blocks,¬S k):fU T w' t:=⟨h.rep.only ho hS,h.nodup,h.ht⟩
theorem Z2.only {t:Tr}(h:Z2 T w t)(ho:ai S w w')(hS:∀k∈t.blocks,¬S k):Z2 T w' t:=⟨h.rep.only ho hS,h.nodup,h.qa⟩
theorem fU.nil(T:TypeId)(w:aj):fU T w .nil:=⟨trivial,by simp[Tr.blocks,Tr.cells],trivial⟩
structure oM(T:TypeId)(w:aj)(b:Nat)(p:ec)(h:Nat)(l r:Tr):Prop where
 at_:cI w b (lQ T p l.ptr r.ptr h)
 str:p.s.size<=maxLen
 left:fU T w l
 right:fU T w r
 notL:b∉l.blocks
 notR:b∉r.blocks
 apart:∀k∈l.blocks,k∉r.blocks
theorem oM.iff {b:Nat}{p:ec}{h:Nat}{l r:Tr}:Z2 T w (.node b p h l r)↔oM T w b p h l r:=by
 constructor
 .rintro⟨⟨h1,hs,h2,h3⟩,hn,h4,h5⟩;rw[Tr.aV,List.nodup_cons,List.nodup_append,Qch]at hn;obtain⟨hb,n1,n2,n3⟩:=hn;exact⟨h1,hs,⟨h2,n1,h4⟩,⟨h3,n2,h5⟩,λh=>hb (.inl h),λh=>hb (.inr h),λk k1 k2=>n3 k k1 k k2 rfl⟩
 .rintro⟨h1,hs,⟨h2,n1,h4⟩,⟨h3,n2,h5⟩,hl,hr,ha⟩;refine⟨⟨h1,hs,h2,h3⟩,?_,h4,h5⟩;rw[Tr.aV,List.nodup_cons,List.nodup_append,Qch];exact⟨λh=>h.elim hl hr,n1,n2,λx hx y hy e=>ha x hx (e▸hy)⟩
theorem fU.q {t:Tr}(h:fU T w t):Z2 T w t:=by
 refine⟨h.rep,h.nodup,?_⟩;cases t with
 |nil=>trivial
 |node b p h' l r=>exact h.ht.2.2
theorem fU.n {b:Nat}{p:ec}{h:Nat}{l r:Tr}(q:fU T w (.node b p h l r)):oM T w b p h l r:=oM.iff.1 q.q
theorem oM.ok {b:Nat}{p:ec}{l r:Tr}(h:oM T w b p (1+max l.dm r.dm) l r):fU T w (Tr.mk b p l r):=
 have q:=oM.iff.2 h
 ⟨q.rep,q.nodup,Tr.Z0 h.left.ht h.right.ht⟩
theorem oM.set {b:Nat}{p:ec}{h h':Nat}{l r l' r':Tr}(q:oM T w b p h l r)(hb:w'.heap[b]? =some (lQ T p l'.ptr r'.ptr h'))(hl:fU T w' l')(hr:fU T w' r')
 (h1:b∉l'.blocks)(h2:b∉r'.blocks)(h3:∀k∈l'.blocks,k∉r'.blocks):oM T w' b p h' l' r':=⟨hb,q.str,hl,hr,h1,h2,h3⟩
theorem oM.Qn {b:Nat}{p:ec}{h h':Nat}{l r:Tr}(q:oM T w b p h l r)(ho:ai (λk=>k=b) w w')(hb:w'.heap[b]? =some (lQ T p l.ptr r.ptr h')):oM T w' b p h' l r:=
 q.set hb (q.left.only ho λk hk e=>q.notL (e▸hk)) (q.right.only ho λk hk e=>q.notR (e▸hk)) q.notL q.notR q.apart
theorem oM.Z3 {b c:Nat}{p q:ec}{h h':Nat}{l rl rr:Tr}(n:oM T w b p h l (.node c q h' rl rr))(ho:ai (λk=>k=b\/k=c) w w')
 (hb:w'.heap[b]? =some (lQ T p l.ptr rl.ptr (1+max l.dm rl.dm)))(hc:w'.heap[c]? =some (lQ T q (.pointer (some ⟨b,0,none⟩)) rr.ptr (1+max (1+max l.dm rl.dm) rr.dm))):
 fU T w' (Tr.mk c q (Tr.mk b p l rl) rr):=by
 have m:=n.right.n;have DB:b≠c:=λe=>n.notR (by rw[Tr.aV,e];simp);have cw:b∉rl.blocks:=λe=>n.notR (by rw[Tr.aV];simp[e]);have Cg:b∉rr.blocks:=λe=>n.notR (by rw[Tr.aV];simp[e]);have gw:c∉l.blocks:=λe=>n.apart c e (by rw[Tr.aV];simp);have JX:∀k∈l.blocks,k∉rl.blocks:=λk k1 k2=>n.apart k k1 (by rw[Tr.aV];simp[k2]);have Ux:∀k∈l.blocks,k∉rr.blocks:=λk k1 k2=>n.apart k k1 (by rw[Tr.aV];simp[k2]);have ol:fU T w' l:=n.left.only ho λk hk e=>e.elim (λe=>n.notL (e▸hk)) (λe=>gw (e▸hk));have orl:fU T w' rl:=m.left.only ho λk hk e=>e.elim (λe=>cw (e▸hk)) (λe=>m.notL (e▸hk));have orr:fU T w' rr:=m.right.only ho λk hk e=>e.elim (λe=>Cg (e▸hk)) (λe=>m.notR (e▸hk));have o1:fU T w' (Tr.mk b p l rl):=oM.ok ⟨hb,n.str,ol,orl,n.notL,cw,JX⟩;refine oM.ok ⟨hc,m.str,o1,orr,λe=> ?_,m.notR,λk k1 k2=> ?_⟩
 .unfold Tr.mk at e;rw[Tr.aV]at e;rcases Qdf.1 e with e|e
  .exact DB e.symm
  .exact(Qch.1 e).elim gw m.notL
 .unfold Tr.mk at k1;rw[Tr.aV]at k1;rcases Qdf.1 k1 with rfl|k1
  .exact Cg k2
  .exact(Qch.1 k1).elim (λk1=>Ux k k1 k2) (λk1=>m.apart k k1 k2)
theorem oM.Z4 {b c:Nat}{p q:ec}{h h':Nat}{ll lr r:Tr}(n:oM T w b p h (.node c q h' ll lr) r)(ho:ai (λk=>k=b\/k=c) w w')
 (hb:w'.heap[b]? =some (lQ T p lr.ptr r.ptr (1+max lr.dm r.dm)))(hc:w'.heap[c]? =some (lQ T q ll.ptr (.pointer (some ⟨b,0,none⟩)) (1+max ll.dm (1+max lr.dm r.dm)))):
 fU T w' (Tr.mk c q ll (Tr.mk b p lr r)):=by
 have m:=n.left.n;have DB:b≠c:=λe=>n.notL (by rw[Tr.aV,e];simp);have cw:b∉ll.blocks:=λe=>n.notL (by rw[Tr.aV];simp[e]);have Cg:b∉lr.blocks:=λe=>n.notL (by rw[Tr.aV];simp[e]);have AU:c∉r.blocks:=λe=>n.apart c (by rw[Tr.aV];simp) e;have JX:∀k∈ll.blocks,k∉r.blocks:=λk k1 k2=>n.apart k (by rw[Tr.aV];simp[k1]) k2;have Ux:∀k∈lr.blocks,k∉r.blocks:=λk k1 k2=>n.apart k (by rw[Tr.aV];simp[k1]) k2;have or_:fU T w' r:=n.right.only ho λk hk e=>e.elim (λe=>n.notR (e▸hk)) (λe=>AU (e▸hk));have oll:fU T w' ll:=m.left.only ho λk hk e=>e.elim (λe=>cw (e▸hk)) (λe=>m.notL (e▸hk));have olr:fU T w' lr:=m.right.only ho λk hk e=>e.elim (λe=>Cg (e▸hk)) (λe=>m.notR (e▸hk));have o1:fU T w' (Tr.mk b p lr r):=oM.ok ⟨hb,n.str,olr,or_,Cg,n.notR,Ux⟩;refine oM.ok ⟨hc,m.str,oll,o1,m.notL,λe=> ?_,λk k1 k2=> ?_⟩
 .unfold Tr.mk at e;rw[Tr.aV]at e;rcases Qdf.1 e with e|e
  .exact DB e.symm
  .exact(Qch.1 e).elim m.notR AU
 .unfold Tr.mk at k2;rw[Tr.aV]at k2;rcases Qdf.1 k2 with rfl|k2
  .exact cw k1
  .exact(Qch.1 k2).elim (m.apart k k1) (JX k k1)
end
def nY {b c:Nat}{p q:ec}{h h':Nat}{l rl rr:Tr}:(Tr.mk c q (Tr.mk b p l rl) rr).cells.Perm (Tr.node b p h l (.node c q h' rl rr)).cells:=by
 rw[List.perm_iff_count];intro x;simp[Tr.mk,Tr.cells,List.count_cons,List.count_append];omega
def nZ {b c:Nat}{p q:ec}{h h':Nat}{ll lr r:Tr}:(Tr.mk c q ll (Tr.mk b p lr r)).cells.Perm (Tr.node b p h (.node c q h' ll lr) r).cells:=by
 rw[List.perm_iff_count];intro x;simp[Tr.mk,Tr.cells,List.count_cons,List.count_append];omega
end
end Go.Proofs.YtccpcfcochffcaaGreatDoor
