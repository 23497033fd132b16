/- A part of the proof; no condition. -/
import Derived.WalkSpells
import Derived.WalkLawsBesides
import Derived.Lib.Hide
import Derived.BigQuiet
import Derived.Test.YtpjdjlnknfmfkaaGreatDoorProg
import Derived.Deep.DeepCutAuto
import Derived.Deep.CutBlock
import Derived.Deep.RegionHeld3
set_option linter.all false
set_option maxHeartbeats 8000000
set_option maxRecDepth 100000
namespace Go.Proofs.YtpjdjlnknfmfkaaGreatDoor
open Tryz
open Go.RowKit
def hD{p:Prop}(h:p):Hid p:=Lib.hid h
theorem ab{α:Type _}{i:Nat}{b:α}{xs:Array α}:xs[i]? =some b↔∃h:i<xs.size,xs[i]=b:=Array.getElem?_eq_some_iff
theorem ae(n:Nat):n<=n:=Nat.le_refl n
theorem af{α:Type _}{l:List α}{i:Nat}(h:i<l.length):l[i]? =some l[i]:=List.getElem?_eq_getElem h
theorem ag{α:Type _}{i:Nat}{a:α}{l:List α}:l[i]? =some a↔∃h:i<l.length,l[i]=a:=List.getElem?_eq_some_iff
theorem ah{P:Program}{fn:Func}{R:Ending->World->Prop}{a:Act}{w:World}{v:Value}(h:Sem.run P (results fn a.tmps) w=Result.ok v w)(k:a.defers=[])(r:R (Ending.returned v) w):bodyPost P fn R Exit.ret a w:=bodyPost_ret h k r
theorem ai{α:Type _}{l:List α}{i:Nat}{a:α}(h:l[i]? =some a):a∈l:=List.mem_of_getElem? h
theorem aj(w:World)(a:Addr)(k:Nat)(v:Value)(h:k≠a.block):(w.setCell a v).heap[k]? =w.heap[k]? :=heap_setCell_other w a k v h
theorem ak{α:Type _}{i:Nat}{l:List α}(h:l.length<=i):List.take i l=l:=List.take_of_length_le h
theorem an(n:Nat):(0:Int)<=n:=Int.natCast_nonneg n
theorem ao{α:Type _}{l:List α}{i:Nat}:List.take (i+1) l=List.take i l++l[i]?.toList:=List.take_add_one
theorem aq{α:Type _}{l₁ l₂:List α}{i:Nat}(h:i<l₁.length):(l₁++l₂)[i]? =l₁[i]? :=List.getElem?_append_left h
theorem au{α:Type _}{l₁ l₂:List α}{i:Nat}(h:l₁.length<=i):(l₁++l₂)[i]? =l₂[i-l₁.length]? :=List.getElem?_append_right h
theorem aw(n:Int)(h: -9223372036854775808<=n/\n<=9223372036854775807):IntKind.i64.wrap n=n:=IntWalk.i64_in n h
theorem ax(n:Nat):0<=n:=Nat.zero_le n
theorem ay(n:Nat)(w:World):Below n w w:=Below.refl n w
theorem az(w:World)(o:Obj):(w.alloc o).heap[w.heap.size]? =some o:=heap_alloc_new w o
theorem aA(w:World)(g i:Nat)(cs:Array Value)(t:TypeId)(v:Value)(h:w.heap[g]? =some (.cells cs t (0,0))):(w.setCell ⟨g,i,none⟩ v).heap[g]? =some (.cells (cs.setIfInBounds i v) t (0,0)):=heap_setCell_same w g i cs t v h
theorem aB(w:World)(o:Obj)(k:Nat)(h:k<w.heap.size):(w.alloc o).heap[k]? =w.heap[k]? :=Below.heap_alloc w o k h
theorem aC{α:Type _}{a:α}{l:List α}:(a::l).length=l.length+1:=List.length_cons
theorem aD{α:Type _}:([]:List α).length=0:=List.length_nil
theorem aF(a b:Bool):((a&&b)=true)=(a=true/\b=true):=Bool.and_eq_true a b
theorem aG{α:Type _}(a b:α):(some a=some b)=(a=b):=Option.some.injEq a b
theorem aH{a b c:Nat}:a<=b->b<=c->a<=c:=Nat.le_trans
theorem aI{α:Type _}{a:α}{s t:List α}:a∈s++t↔a∈s\/a∈t:=List.mem_append
theorem aJ{α:Type _}{s t:List α}:(s++t).length=s.length+t.length:=List.length_append
theorem aK{α:Type _}{i:Nat}{l:List α}:(List.take i l).length=min i l.length:=List.length_take
theorem aL{α β:Type _}{l:List α}(f:α->β):(List.map f l).length=l.length:=List.length_map f
theorem aM{α:Type _}{l:List α}:l.length=0->l=[]:=List.eq_nil_of_length_eq_zero
theorem aN{n m k:Nat}:n<m->m<=k->n<k:=Nat.lt_of_lt_of_le
theorem aO{α:Type _}{a b:α}{l:List α}:a∈b::l↔a=b\/a∈l:=List.mem_cons
theorem aP{α:Type _}{a:α}{l:List α}(h:a∈l):∃i:Nat,l[i]? =some a:=List.getElem?_of_mem h
theorem aQ{α β:Type _}{b:β}{f:α->β}{l:List α}:b∈l.map f↔∃a,a∈l/\f a=b:=List.mem_map
theorem aR{α:Type _}{a b:α}:a∈[b]↔a=b:=List.mem_singleton
def jN {k:IntKind}{a b:Int}(h:a=b):Ending.returned (.int k a)= .returned (.int k b):=by rw[h]
def cL {a b:Bool}(h:a=b):Ending.returned (.bool a)= .returned (.bool b):=by rw[h]
def mE {α:Type}{l:List α}{n j:Nat}{u:α}(h:(l.take n)[j]? =some u):l[j]? =some u:=by
 rw[List.getElem?_take]at h;split at h
 .exact h
 .cases h
structure bh(S:Nat->Prop)(w w':World):Prop where
 os:w'.os=w.os
 tape:w'.tape=w.tape
 output:w'.output=w.output
 size:w.heap.size<=w'.heap.size
 block:∀k,k<w.heap.size->¬S k->w'.heap[k]? =w.heap[k]?
section
variable {S T:Nat->Prop}{w w' w'':World}
def bh.refl(S:Nat->Prop)(w:World):bh S w w:=⟨rfl,rfl,rfl,ae _,λ_ _ _=>rfl⟩
def bh.trans(h:bh S w w')(k:bh S w' w''):bh S w w'':=
 ⟨k.os.trans h.os,k.tape.trans h.tape,k.output.trans h.output,aH h.size k.size,λi hi hS=>(k.block i (aN hi h.size) hS).trans (h.block i hi hS)⟩
def bh.dL(h:bh S w w')(k:bh T w' w'')(hT:∀i,T i->i<w.heap.size->S i):bh S w w'':=
 ⟨k.os.trans h.os,k.tape.trans h.tape,k.output.trans h.output,aH h.size k.size,λi hi hS=>(k.block i (aN hi h.size) (λhh=>hS (hT i hh hi))).trans (h.block i hi hS)⟩
def bh.mono(h:bh S w w')(hST:∀i,S i->T i):bh T w w':=⟨h.os,h.tape,h.output,h.size,λi hi hT=>h.block i hi (λhs=>hT (hST i hs))⟩
def bh.drewN(h:bh S w w')(n:Nat):bh S w (w'.drewN n):=⟨h.os,h.tape,h.output,h.size,h.block⟩
def bh.drew(h:bh S w w'):bh S w w'.drew:=⟨h.os,h.tape,h.output,h.size,h.block⟩
def bh.alloc(h:bh S w w')(o:Obj):bh S w (w'.alloc o):=
 ⟨h.os,h.tape,h.output,aH h.size (by simp),λi hi hS=>(aB w' o i (aN hi h.size)).trans (h.block i hi hS)⟩
def bh.setCell(h:bh S w w'){p:Addr}(hp:S p.block\/w.heap.size<=p.block)(u:Value):bh S w (w'.setCell p u):=
 ⟨h.os,h.tape,h.output,by simpa [World.setCell]using h.size,λi hi hS=>(Below.heap_setCell w' p u i (by rintro rfl;rcases hp with hp|hp;exact hS hp;omega)).trans (h.block i hi hS)⟩
def bh.bA(h:Below w.heap.size w w'):bh S w w':=⟨h.os,h.tape,h.output,h.size,λi hi _=>h.block i hi⟩
def bh.aT(h:bh (λ_=>False) w w'):Below w.heap.size w w':=⟨h.os,h.tape,h.output,h.size,λi hi=>h.block i hi (λh=>h)⟩
def bh.grown {row:Option Nat}(h:bh S w w')(hg:w'.grownBy w'' row)(hr:∀g,row=some g->S g\/w.heap.size<=g):bh S w w'':=
 ⟨hg.os.trans h.os,hg.tape.trans h.tape,hg.output.trans h.output,aH h.size hg.size,λi hi hS=>(hg.block i (aN hi h.size) (λe=>by rcases hr i e.symm with h1|h1;exact hS h1;omega)).trans (h.block i hi hS)⟩
def bh.cell(h:bh S w w'){p:Addr}(hp:p.block<w.heap.size)(hS:¬S p.block):w'.cell? p=w.cell? p:=World.cell?_of_block (w:=w) (h.block p.block hp hS)
def bh.frozen(h:bh S w w'){p:Addr}(hp:p.block<w.heap.size)(hS:¬S p.block):w'.frozen? p=w.frozen? p:=World.frozen?_of_block (w:=w) (h.block p.block hp hS)
end
def du(F:Nat->Prop)(w:World)(size:Nat)(v:Value)(n:Nat)(xs:List Value):Prop:=
 xs.length=n*size/\∃a cap,v= .slice a n cap/\n<=cap/\cap<=maxLen/\(0<n->∃b off,a=some ⟨b,off,none⟩/\F b/\b<w.heap.size/\∀j u,xs[j]? =some u->w.cell? ⟨b,off+j,none⟩=some u)
section
variable {F G:Nat->Prop}{w w':World}{size n:Nat}{v:Value}{xs:List Value}
def du.nil(F:Nat->Prop)(w:World)(size:Nat):du F w size (.slice none 0 0) 0 []:=⟨by simp,none,0,rfl,ae _,ax _,λh=>absurd h (by omega)⟩
def du.KX(h:du F w size v n xs)(hs:w.heap.size<=w'.heap.size)(hk:∀i,F i->i<w.heap.size->w'.heap[i]? =w.heap[i]?):du F w' size v n xs:=by
 obtain⟨hl,a,cap,hv,hc,hm,hx⟩:=h;refine⟨hl,a,cap,hv,hc,hm,λhn=> ?_⟩;obtain⟨b,off,ha,hF,hb,hcell⟩:=hx hn;exact⟨b,off,ha,hF,aN hb hs,λj u hu=>(World.cell?_of_block (w:=w) (a:=⟨b,off+j,none⟩) (hk b hF hb)).trans (hcell j u hu)⟩
def du.mono(h:du F w size v n xs)(hFG:∀i,F i->i<w.heap.size->G i):du G w size v n xs:=by
 obtain⟨hl,a,cap,hv,hc,hm,hx⟩:=h;refine⟨hl,a,cap,hv,hc,hm,λhn=> ?_⟩;obtain⟨b,off,ha,hF,hb,hcell⟩:=hx hn;exact⟨b,off,ha,hFG b hF hb,hb,hcell⟩
def du.only {S:Nat->Prop}(h:du F w size v n xs)(ho:bh S w w')(hd:∀i,F i->¬S i):du F w' size v n xs:=
 h.KX ho.size λi hi cE=>ho.block i cE (hd i hi)
def du.upto(h:du F w size v n xs){a:Option Addr}{cap k:Nat}(hv:v= .slice a n cap)(hk:k<=n):du F w size (.slice a k cap) k (xs.take (k*size)):=by
 obtain⟨hl,a',cap',hv',hc,hm,hx⟩:=h;obtain⟨rfl,_,rfl⟩:a=a'/\n=n/\cap=cap':=by rw[hv]at hv';simpa using hv'
 refine⟨by rw[aK,hl];exact Nat.min_eq_left (Nat.mul_le_mul_right _ hk),a,cap,rfl,by omega,hm,λhn=> ?_⟩;obtain⟨b,off,ha,hF,hb,hcell⟩:=hx (by omega);exact⟨b,off,ha,hF,hb,λj u hu=>hcell j u (mE hu)⟩
def du.from_(h:du F w size v n xs){a:Option Addr}{cap k:Nat}(hv:v= .slice a n cap)(hk:k<=n):
 du F w size (.slice (if cap=k then a else a.map (·.add (k*size))) (n-k) (cap-k)) (n-k) (xs.drop (k*size)):=by
 obtain⟨hl,a',cap',hv',hc,hm,hx⟩:=h;obtain⟨rfl,_,rfl⟩:a=a'/\n=n/\cap=cap':=by rw[hv]at hv';simpa using hv'
 refine⟨by rw[List.length_drop,hl,Nat.sub_mul],_,_,rfl,by omega,by omega,λhn=> ?_⟩;obtain⟨b,off,rfl,hF,hb,hcell⟩:=hx (by omega);rw[if_neg (by omega)];refine⟨b,off+k*size,?_,hF,hb,λj u hu=> ?_⟩
 .simp only[Option.map,Addr.add];split<;>simp_all
 .rw[Nat.add_assoc];exact hcell _ u (by rw[<-hu,List.getElem?_drop])
def du.BJ {base:Nat}{e:TypeId}(h:w.ownsRow base e size v n xs):du (λi=>v.ownBlock=some i) w size v n xs:=by
 refine⟨h.1,?_⟩;rcases h.2 with⟨rfl,rfl⟩|⟨g,cap,cur,rfl,hb,hh,Yb,Jo,hcs,htk⟩
 .exact⟨none,0,rfl,ae _,ax _,λh=>absurd h (by omega)⟩
 .refine⟨_,cap,rfl,Yb,Jo,λhn=>⟨g,0,rfl,rfl,(ab.1 hh).1,λj u hu=> ?_⟩⟩;rw[Nat.zero_add];have hj:j<xs.length:=(ag.1 hu).1;simp only[World.cell?,hh];simp;rw[<-htk]at hu;have h2:=mE hu;simpa using h2
end
section
variable {F G:Nat->Prop}{w w':World}{v:Value}{xs:List Int}
end
section
variable {P:Program}(w:World)
def rJ(base:Nat)(t ty e:TypeId)(i:TypeInfo)(size:Nat)(ht:P.underlying t=some (.slice e))(hi:P.info? e=some i)
 (v:Value)(n:Nat)(xs:List Value)(hown:w.ownsRow base e size v n xs)(c:Nat):(Builtin.append_ #[t,t] ty #[v, .slice none 0 c]).run P w= .ok v w:=by
 rcases hown.2 with⟨rfl,rfl⟩|⟨g,cap,cur,rfl,_,_,Yb,_⟩
 .simp[Builtin.append_,run_underlying ht,sizeOf,typeInfo,hi,Builtin.lenOf,Builtin.firstCells]
 .simp[Builtin.append_,run_underlying ht,sizeOf,typeInfo,hi,Builtin.lenOf,Builtin.firstCells,Yb,storeCells]
def iK {F:Nat->Prop}(base:Nat)(t ty e:TypeId)(i:TypeInfo)(z:Value)(size bytes:Nat)(ht:P.underlying t=some (.slice e))(hi:P.info? e=some i)(hz:i.zero=some z)
 (hsize:i.size=size)(hby:i.bytes=bytes)(hzs:z.cells.size=size)(hsz:0<size)
 (v:Value)(n:Nat)(xs:List Value)(hown:w.ownsRow base e size v n xs)
 (s:Value)(m:Nat)(news:List Value)(hr:du F w size s m news)(h1:∀u∈news,u.oneCell'=true)
 (h63:n+m<=maxLen)(hbytes:(n+m)*bytes<=140737488355328)(hbase:base<=w.heap.size):
 ∃v' w',(Builtin.append_ #[t,t] ty #[v,s]).run P w= .ok v' w'/\w'.ownsRow base e size v' (n+m) (xs++news)/\w.grownBy w' v.ownBlock/\
  (v'.ownBlock=v.ownBlock\/v'.ownBlock=some w.heap.size):=by
 obtain⟨hl,A,cap,rfl,hmc,Jo,hx⟩:=hr;rcases Nat.eq_zero_or_pos m with h0|h0
 .subst h0;have hn:news=[]:=aM (by simpa using hl);subst hn;rcases A with _|ad
  .exact⟨v,w,rJ w base t ty e i size ht hi v n xs hown cap,by simpa using hown,World.grownBy.refl w _, .inl rfl⟩
  .obtain⟨v',w',hrun,h2,h3,_,h5⟩:=run_append_own_at (P:=P) w base t ty e i z size bytes ht hi hz hsize hby hzs hsz v n xs hown ad 0 cap [] (by simp) (by simp) (by simp) h63 hbytes hbase;exact⟨v',w',hrun,h2,h3,h5⟩
 .obtain⟨b,off,rfl,_,_,hcell⟩:=hx h0;obtain⟨v',w',hrun,h2,h3,_,h5⟩:=run_append_own_at (P:=P) w base t ty e i z size bytes ht hi hz hsize hby hzs hsz v n xs hown ⟨b,off,none⟩ m cap news hl (λj u hu=>by
   have:=hcell j u hu;unfold Addr.add;split
   .rename_i h;subst h;simpa using this
   .exact this) h1 h63 hbytes hbase;exact⟨v',w',hrun,h2,h3,h5⟩
def qN {F:Nat->Prop}{ops:Array Oper}{rest:List Oper}{o:Oper}{a:Act}{Q:Exit->Act->World->Prop}(hgd:o.guard=none)(s x:Operand)(t:TypeId)
 (ho:o.op= .call {callee:= .builtin .append,args:= #[s,x],argTypes:= #[t,t]})
 (base:Nat)(e:TypeId)(i:TypeInfo)(z:Value)(size bytes:Nat)(ht:P.underlying t=some (.slice e))(hi:P.info? e=some i)(hz:i.zero=some z)
 (hsize:i.size=size)(hby:i.bytes=bytes)(hzs:z.cells.size=size)(hsz:0<size)
 (v:Value)(n:Nat)(xs:List Value)(hs:a.eval s=v)(hown:w.ownsRow base e size v n xs)
 (sv:Value)(m:Nat)(news:List Value)(hx:a.eval x=sv)(hr:du F w size sv m news)(h1:∀u∈news,u.oneCell'=true)
 (h63:n+m<=maxLen)(hbytes:(n+m)*bytes<=140737488355328)(hbase:base<=w.heap.size)
 (h:∀v' w',w'.ownsRow base e size v' (n+m) (xs++news)->w.grownBy w' v.ownBlock->(v'.ownBlock=v.ownBlock\/v'.ownBlock=some w.heap.size)->wpList P ops Q rest (a.put o.dst v') w'):wpList P ops Q (o::rest) a w:=
 wpList_plain hgd λ_ hK=>by
  obtain⟨v',w',hrun,h2,h3,h4⟩:=iK (P:=P) w base t o.type e i z size bytes ht hi hz hsize hby hzs hsz v n xs hown sv m news hr h1 h63 hbytes hbase;unfold Oper.wp execOp;simp only[ho,resolve,invoke,builtin,Sem.run_bind,Sem.run_pure,Result.andThen_ok,List.map_toArray,List.map_cons,List.map_nil,hs,hx,hrun];exact hK _ _ (h v' w' h2 h3 h4)
def ic {w:World}{base:Nat}{e:TypeId}{size n:Nat}{v:Value}{xs:List Value}(h:w.ownsRow base e size v n xs):∃a c,v= .slice a n c/\n<=c/\c<=maxLen:=by
 rcases h.2 with⟨rfl,rfl⟩|⟨g,cap,cur,rfl,_,_,h1,h2,_⟩
 .exact⟨none,0,rfl,ae _,ax _⟩
 .exact⟨_,_,rfl,h1,h2⟩
def iV {F:Nat->Prop}{ops:Array Oper}{rest:List Oper}{o:Oper}{a:Act}{Q:Exit->Act->World->Prop}(hgd:o.guard=none)(s x:Operand)(t:TypeId)
 (ho:o.op= .call {callee:= .builtin .append,args:= #[s,x],argTypes:= #[t,t]})
 (base:Nat)(e:TypeId)(i:TypeInfo)(z:Value)(size bytes:Nat)(ht:P.underlying t=some (.slice e))(hi:P.info? e=some i)(hz:i.zero=some z)
 (hsize:i.size=size)(hby:i.bytes=bytes)(hzs:z.cells.size=size)(hsz:0<size)
 (v:Value)(n:Nat)(xs:List Value)(hs:a.eval s=v)(hown:w.ownsRow base e size v n xs)
 (sv:Value)(m:Nat)(news:List Value)(hx:a.eval x=sv)(hr:du F w size sv m news)(h1:∀u∈news,u.oneCell'=true)
 (h63:n+m<=maxLen)(hbytes:(n+m)*bytes<=140737488355328)(hbase:base<=w.heap.size)
 (h:∀a' c' w',w'.ownsRow base e size (.slice a' (n+m) c') (n+m) (xs++news)->w.grownBy w' v.ownBlock->((Value.slice a' (n+m) c').ownBlock=v.ownBlock\/(Value.slice a' (n+m) c').ownBlock=some w.heap.size)->wpList P ops Q rest (a.put o.dst (.slice a' (n+m) c')) w'):wpList P ops Q (o::rest) a w:=
 qN w hgd s x t ho base e i z size bytes ht hi hz hsize hby hzs hsz v n xs hs hown sv m news hx hr h1 h63 hbytes hbase λv' w' h2 h3 h4=>by
  obtain⟨a',c',rfl,_,_⟩:=ic h2;exact h a' c' w' h2 h3 h4
end
abbrev bC(w W:World):Prop:=Below w.heap.size w W
abbrev xC:=Calls prog
@[simp]abbrev cC(w:World)(b o:Nat)(v:Value):Prop:=w.cell? ⟨b,o,none⟩=some v
@[simp]abbrev cX(w:World)(b:Nat)(o:Obj):Prop:=w.heap[b]? =some o
abbrev xF:Nat->Prop:=λ_=>False
abbrev xI(n:Int):Value:=.int .i64 n
abbrev xS(s:ByteArray):Value:=.string s
abbrev xL(a:Option Addr)(n c:Nat):Value:=.slice a n c
abbrev xB(b:Bool):Value:=.bool b
abbrev xP(b:Nat):Value:=.pointer (some ⟨b,0,none⟩)
abbrev xR(v:Value):Ending:=.returned v
abbrev bq:=World
abbrev bS:=ByteArray
abbrev bt:=Value
abbrev bY:=Nat->Prop
abbrev fM:=Option Addr
@[simp]abbrev oT(w u:World)(o:Nat)(v:Value):Prop:=w.cell? ⟨u.heap.size,o,none⟩=some v
@[simp]abbrev zB(w u:World)(o:Nat)(v:Value):Prop:=w.cell? ⟨u.heap.size+1,o,none⟩=some v
@[simp]abbrev ed(w u:World)(o:Obj):Prop:=w.heap[u.heap.size]? =some o
def ey {P:Program}{f:FuncId}{a:Array Value}{w u:World}{x:Ending}{R:Ending->World->Prop}(h:Calls P f a w λe w'=>e=x/\u=w')(k:R x u):Calls P f a w R:=h.mono (by rintro e w'⟨rfl,rfl⟩;exact k)
def dx {P:Program}{f:FuncId}{a:Array Value}{w:World}{x:Ending}{S:World->Prop}{R:Ending->World->Prop}(h:Calls P f a w λe w'=>e=x/\S w')(k:∀w',S w'->R x w'):Calls P f a w R:=h.mono (by rintro e w'⟨rfl,g⟩;exact k w' g)
def dd {α:Type _}(a:α):∃b,b=a:=⟨a,rfl⟩
def js {α:Type _}(a:α):∃b,a=b:=⟨a,rfl⟩
abbrev xZ(w:World):Nat:=w.heap.size
abbrev xK(c:Array Value)(t:TypeId):Obj:=.cells c t (0,0)
abbrev xSc(w:World)(b o:Nat)(v:Value):World:=w.setCell ⟨b,o,none⟩ v
abbrev di(v:Value)(w:World):Ending->World->Prop:=λe w'=>e= .returned v/\Below w.heap.size w w'
abbrev j7(v:Value)(w:World):Ending->World->Prop:=λe w'=>e= .returned v/\w=w'
def Hd(p:Prop):Prop:=p
def Hd.o {p:Prop}(h:Hd p):p:=h
def aV {p:Prop}(h:p):Hd p:=h
def ie {w:World}{Q:World->Prop}(h:∀W,Below w.heap.size w W->Q W):Hd (∀W,Below w.heap.size w W->Q W):=h
def cU {w:World}{o:Obj}:Below w.heap.size w (w.alloc o):=(ay _ _).alloc (ae _) _
def eH {n:Nat}{w:World}:Below n w w:=ay _ _
def cN {n:Nat}:n<=n:=ae _
def fg {α:Type _}(l:List α)(i:Nat)(h:i<l.length):∃x,l[i]? =some x:=⟨_,af h⟩
def jk {a b:Option Addr}{n m c d:Nat}(h:Value.slice a n c=.slice b m d):a=b/\c=d:=by simp only[Value.slice.injEq]at h;exact⟨h.1,h.2.2⟩
def nZ {W:World}{b:Nat}{cs:Array Value}{t:TypeId}(h:W.heap[b]? =some (.cells cs t (0,0))):W.frozen? ⟨b,0,none⟩=false/\W.frozen? ⟨b,1,none⟩=false:=⟨by simp[World.frozen?,h],by simp[World.frozen?,h]⟩
def iS {W:World}{b:Nat}{cs:Array Value}{t:TypeId}(h:W.heap[b]? =some (.cells cs t (0,0))):W.frozen? ⟨b,0,none⟩=false/\W.frozen? ⟨b,1,none⟩=false/\W.frozen? ⟨b,2,none⟩=false/\W.frozen? ⟨b,3,none⟩=false:=⟨by simp[World.frozen?,h],by simp[World.frozen?,h],by simp[World.frozen?,h],by simp[World.frozen?,h]⟩
def xf8 {W:World}{b:Nat}{cs:Array Value}{t:TypeId}(h:W.heap[b]? =some (.cells cs t (0,0))):W.frozen? ⟨b,0,none⟩=false/\W.frozen? ⟨b,1,none⟩=false/\W.frozen? ⟨b,2,none⟩=false/\W.frozen? ⟨b,3,none⟩=false/\W.frozen? ⟨b,4,none⟩=false/\W.frozen? ⟨b,5,none⟩=false/\W.frozen? ⟨b,6,none⟩=false/\W.frozen? ⟨b,7,none⟩=false:=⟨by simp[World.frozen?,h],by simp[World.frozen?,h],by simp[World.frozen?,h],by simp[World.frozen?,h],by simp[World.frozen?,h],by simp[World.frozen?,h],by simp[World.frozen?,h],by simp[World.frozen?,h]⟩
abbrev jl:Array Value:=#[.int .i64 0, .int .i64 0, .string ⟨#[]⟩, .slice none 0 0]
instance xca(b o:Nat):CoeDep (Nat×Nat) (b,o) Addr:=⟨⟨b,o,none⟩⟩
instance xcb(b o:Nat):CoeDep (Nat×Nat) (b,o) (Option Addr):=⟨some ⟨b,o,none⟩⟩
instance xcc(b:World)(o:Nat):CoeDep (World×Nat) (b,o) Addr:=⟨⟨b.heap.size,o,none⟩⟩
instance xcd(b:World)(o:Nat):CoeDep (List World×Nat) ([b],o) Addr:=⟨⟨b.heap.size+1,o,none⟩⟩
instance xce(b:World)(o:Nat):CoeDep (List World×Nat) ([b,b],o) Addr:=⟨⟨b.heap.size+1+1,o,none⟩⟩
instance xcf(b:World)(o:Nat):CoeDep (List World×Nat) ([b,b,b],o) Addr:=⟨⟨b.heap.size+1+1+1,o,none⟩⟩
instance xcg(b:World):CoeDep World b Nat:=⟨b.heap.size⟩
instance xch(b:World):CoeDep (List World) [b] Nat:=⟨b.heap.size+1⟩
instance xci(b:World):CoeDep (List World) [b,b] Nat:=⟨b.heap.size+1+1⟩
instance xcj(b:World):CoeDep (List World) [b,b,b] Nat:=⟨b.heap.size+1+1+1⟩
instance xck:CoeDep Unit () Value:=⟨.slice none 0 0⟩
instance xcl:CoeDep Unit () ByteArray:=⟨⟨#[]⟩⟩
instance xcm:CoeDep String "" Value:=⟨.string ⟨#[]⟩⟩
instance xcn(n:Int):CoeDep Int n Value:=⟨.int .i64 n⟩
instance xco(n:ByteArray):CoeDep ByteArray n Value:=⟨.string n⟩
instance xcp(n:Bool):CoeDep Bool n Value:=⟨.bool n⟩
instance xcq(n:Nat):CoeDep Nat n Value:=⟨.int .i64 n⟩
instance xcr(b:World)(o:Nat):CoeDep (World×Nat) (b,o) (Option Addr):=⟨some ⟨b.heap.size,o,none⟩⟩
instance Sa(b:World)(o:Nat):CoeDep (List World×Nat) ([b],o) (Option Addr):=⟨some ⟨b.heap.size+1,o,none⟩⟩
structure Ev(M:bY)(w:bq)(M':bY)(w':bq):Prop where
 only:bh M w w'
 sub:∀i,M' i->M i\/w.heap.size<=i
def Ev.refl(M:bY)(w:bq):Ev M w M w:=⟨bh.refl M w,λ_ h=> .inl h⟩
def Ev.trans {M M' M'':bY}{w w' w'':bq}(h:Ev M w M' w')(k:Ev M' w' M'' w''):Ev M w M'' w'':=
 ⟨h.only.dL k.only λi hi cE=>(h.sub i hi).elim (λh=>h) (λh=>by omega),
  λi hi=>(k.sub i hi).elim (h.sub i) λh1=> .inr (aH h.only.size h1)⟩
def Ev.bA {M:bY}{w w':bq}(h:bC w w'):Ev M w M w':=⟨bh.bA h,λ_ h=> .inl h⟩
def du.ev {M M':bY}{w w':bq}{size n:Nat}{v:bt}{xs:List bt}(h:du (λi=>¬M i) w size v n xs)(k:Ev M w M' w'):du (λi=>¬M' i) w' size v n xs:=
 (du.only (F:=λi=>¬M i/\i<w) (h.mono λi hi hl=>⟨hi,hl⟩) k.only (λi hi=>hi.1)).mono λi hi _ h1=>(k.sub i h1).elim hi.1 λh2=>by omega
class bD(α:Type)where
 size:Nat
 rep:(Nat->Prop)->bq->List bt->α->Prop
 len:∀{M w cs x},rep M w cs x->cs.length=size
 flat:∀{M w cs x},rep M w cs x->∀u∈cs,u.oneCell'=true
 ev:∀{M M' w w' cs x},rep M w cs x->Ev M w M' w'->rep M' w' cs x
def aS {α:Type} [bD α](M:bY)(w:bq)(v:bt)(xs:List α):Prop:=
 ∃css:List (List bt),du (λi=>¬M i) w (bD.size α) v xs.length css.flatten/\css.length=xs.length/\∀(i:Nat)(cs:List bt)(x:α),css[i]? =some cs->xs[i]? =some x->bD.rep M w cs x
section
variable {α:Type} [bD α]{M M':bY}{w w':bq}{v:bt}{xs:List α}
def aS.ev(h:aS M w v xs)(k:Ev M w M' w'):aS M' w' v xs:=by
 obtain⟨css,h1,h2,h3⟩:=h;exact⟨css,h1.ev k,h2,λi cs x hc hx=>bD.ev (h3 i cs x hc hx) k⟩
def aS.aT(h:aS M w v xs)(k:bC w w'):aS M w' v xs:=h.ev (Ev.bA k)
def aS.nil(M:bY)(w:bq):aS (α:=α) M w () []:=⟨[],du.nil _ _ _,rfl,λi cs x h=>by simp at h⟩
def jt {css:List (List bt)}{size:Nat}(hs:∀(i:Nat)(cs:List bt),css[i]? =some cs->cs.length=size):∀(i:Nat)(cs:List bt)(j:Nat)(u:bt),css[i]? =some cs->cs[j]? =some u->css.flatten[i*size+j]? =some u:=by
 induction css with
 |nil=>intro i cs j u h;simp at h
 |cons a r ih=>
  intro i cs j u hi hj;have ha:a.length=size:=hs 0 a rfl;cases i with
  |zero=>
   simp at hi;subst hi;have zx:j<a.length:=(ag.1 hj).1;rw[List.flatten_cons,Nat.zero_mul,Nat.zero_add,aq zx];exact hj
  |succ i=>
   have ZN:r[i]? =some cs:=by simpa using hi
   have:=ih (λk c hk=>hs (k+1) c (by simpa using hk)) i cs j u ZN hj;rw[List.flatten_cons,au (by rw[ha,Nat.succ_mul];omega),ha];rw[show(i+1)*size+j-size=i*size+j from by rw[Nat.succ_mul];omega];exact this
def aS.bj(h:aS M w v xs):∃a cap,v=xL a xs.length cap/\xs.length<=cap/\cap<=9223372036854775807/\(0<xs.length->∃b off,a=some ⟨b,off,none⟩/\¬M b/\b<w.heap.size/\
 ∀(i:Nat)(x:α),xs[i]? =some x->∃cs,bD.rep M w cs x/\∀(j:Nat)(u:bt),cs[j]? =some u->cC w b (off+i*bD.size α+j) u):=by
 obtain⟨css,⟨hl,a,cap,hv,hc,hm,hx⟩,h2,h3⟩:=h;refine⟨a,cap,hv,hc,by unfold maxLen at hm;omega,λhn=> ?_⟩;have⟨b,off,ha,hF,hb,hcell⟩:=hx hn;have hlen:∀(i:Nat)(cs:List bt),css[i]? =some cs->cs.length=bD.size α:=λi cs hcs=>by
  have hi:i<xs.length:=by rw[<-h2];exact(ag.1 hcs).1
  exact bD.len (h3 i cs _ hcs (af hi))
 refine⟨b,off,ha,hF,hb,λi x hxi=> ?_⟩;have hi:i<css.length:=by rw[h2];exact(ag.1 hxi).1
 exact⟨css[i],h3 i _ x (af hi) hxi,λj u hu=>by rw[Nat.add_assoc];exact hcell _ u (jt hlen i _ j u (af hi) hu)⟩
end
structure cq where
 bg:Int
 of:Int
 deriving DecidableEq
inductive bE where
 |mk(bg n:Int)(s:bS)(l:List bE)
structure bJ where
 aX:bS
 type:cq
 indexed:Bool
structure bI where
 aX:bS
 aW:List bJ
inductive bG where
 |mk(bg n:Int)(s:bS)(kids:List bG)
structure bK where
 bg:Int
 field:bS
 aX:bS
 more:bS
 type:cq
 dO:bS
 cW:bS
structure bQ where
 bu:bI
 bo:List bK
structure cm where
 id:Int
 dz:Int
 dB:Int
 bR:List bE
structure bT where
 aX:bS
 id:Int
structure bU where
 bH:List bQ
 bN:List cm
 bB:List bT
 next:Int
def eL {M:bY}{w:bq}{α:Type} [bD α]{v:bt}{xs:List α}(h:aS M w v xs):v.oneCell'=true:=by
 obtain⟨css,⟨_,a,cap,rfl,_⟩,_⟩:=h;rfl
instance:bD bJ where
 size:=4
 rep:=λ_ _ cs x=>cs=[xS x.aX,xI x.type.bg,xI x.type.of,xB x.indexed]/\x.aX.size<=maxLen
 len:=λh=>by rw[h.1];rfl
 flat:=λh u hu=>by rw[h.1]at hu;simp at hu;rcases hu with rfl|rfl|rfl|rfl<;>rfl
 ev:=λh _=>h
instance:bD bK where
 size:=8
 rep:=λ_ _ cs x=>cs=[xI x.bg,xS x.field,xS x.aX,xS x.more,xI x.type.bg,xI x.type.of,xS x.dO,xS x.cW]/\x.field.size<=maxLen/\x.aX.size<=maxLen/\x.more.size<=maxLen/\x.dO.size<=maxLen/\x.cW.size<=maxLen
 len:=λh=>by rw[h.1];rfl
 flat:=λh u hu=>by rw[h.1]at hu;simp at hu;rcases hu with rfl|rfl|rfl|rfl|rfl|rfl|rfl|rfl<;>rfl
 ev:=λh _=>h
instance:bD bT where
 size:=2
 rep:=λ_ _ cs x=>cs=[xS x.aX,xI x.id]/\x.aX.size<=maxLen
 len:=λh=>by rw[h.1];rfl
 flat:=λh u hu=>by rw[h.1]at hu;simp at hu;rcases hu with rfl|rfl<;>rfl
 ev:=λh _=>h
instance:bD Int where
 size:=1
 rep:=λ_ _ cs x=>cs=[xI x]
 len:=λh=>by rw[h];rfl
 flat:=λh u hu=>by rw[h]at hu;simp at hu;subst hu;rfl
 ev:=λh _=>h
instance:bD bI where
 size:=2
 rep:=λM w cs x=>∃fv,cs=[xS x.aX,fv]/\aS M w fv x.aW/\x.aX.size<=maxLen
 len:=λ⟨_,h,_⟩=>by rw[h];rfl
 flat:=λ⟨_,h,h1,_⟩u hu=>by rw[h]at hu;simp at hu;rcases hu with rfl|rfl;rfl;exact eL h1
 ev:=λ⟨fv,h,h1,h2⟩k=>⟨fv,h,h1.ev k,h2⟩
instance:bD bQ where
 size:=3
 rep:=λM w cs x=>∃fv cv,cs=[xS x.bu.aX,fv,cv]/\aS M w fv x.bu.aW/\aS M w cv x.bo/\x.bu.aX.size<=maxLen
 len:=λ⟨_,_,h,_⟩=>by rw[h];rfl
 flat:=λ⟨_,_,h,h1,h2,_⟩u hu=>by rw[h]at hu;simp at hu;rcases hu with rfl|rfl|rfl;rfl;exact eL h1;exact eL h2
 ev:=λ⟨fv,cv,h,h1,h2,h3⟩k=>⟨fv,cv,h,h1.ev k,h2.ev k,h3⟩
mutual
inductive fZ(M:bY)(w:bq):List bt->bE->Prop
 |mk(k n:Int)(s:bS)(l:List bE)(a:bt)(css:List (List bt)):du (λi=>¬M i) w 4 a l.length css.flatten->s.size<=maxLen->np M w css l->fZ M w [xI k,xI n,xS s,a] (.mk k n s l)
inductive np(M:bY)(w:bq):List (List bt)->List bE->Prop
 |nil:np M w [] []
 |cons(cs:List bt)(v:bE)(css:List (List bt))(l:List bE):fZ M w cs v->np M w css l->np M w (cs::css) (v::l)
end
mutual
theorem fZ.zC {M M':bY}{w w':bq}{cs:List bt}{v:bE}(h:fZ M w cs v)(k:Ev M w M' w'):fZ M' w' cs v:=by
 match h with
 | .mk kd n s l a css h1 hs h2=>exact .mk kd n s l a css (h1.ev k) hs (h2.zC k)
theorem np.zC {M M':bY}{w w':bq}{css:List (List bt)}{l:List bE}(h:np M w css l)(k:Ev M w M' w'):np M' w' css l:=by
 match h with
 | .nil=>exact .nil
 | .cons cs v css l h1 h2=>exact .cons cs v css l (h1.zC k) (h2.zC k)
end
variable{F:bY}
def cells_one {w:bq}{size n:Nat}{v:bt}{xs:List bt}(h:du F w size v n xs):v.oneCell'=true:=by obtain⟨_,a,cap,rfl,_⟩:=h;rfl
instance:bD bE where
 size:=4
 rep:=fZ
 len:=λh=>by cases h;rfl
 flat:=λh u hu=>by
  cases h with
  |mk k n s l a css h1 hs h2=>simp at hu;rcases hu with rfl|rfl|rfl|rfl;rfl;rfl;rfl;exact cells_one h1
 ev:=λh k=>h.zC k
theorem np.iff {M:bY}{w:bq}:∀{css:List (List bt)}{l:List bE},np M w css l↔css.length=l.length/\∀(i:Nat)(cs:List bt)(x:bE),css[i]? =some cs->l[i]? =some x->fZ M w cs x
 |[],[]=>⟨λ_=>⟨rfl,λi cs x h=>by simp at h⟩,λ_=> .nil⟩
 |[],_::_=>⟨λh=>(by cases h),λh=>(by simp at h)⟩
 |_::_,[]=>⟨λh=>(by cases h),λh=>(by simp at h)⟩
 |cs::css,v::l=>by
  constructor
  .intro h;cases h with
   |cons _ _ _ _ h1 h2=>
    have⟨e,h3⟩:=(np.iff (css:=css) (l:=l)).1 h2;refine⟨by simp[e],λi c x hc hx=> ?_⟩;cases i with
    |zero=>simp at hc hx;subst hc hx;exact h1
    |succ i=>exact h3 i c x (by simpa using hc) (by simpa using hx)
  rintro⟨e,h⟩;exact .cons _ _ _ _ (h 0 cs v rfl rfl) ((np.iff (css:=css) (l:=l)).2 ⟨by simpa using e,λi c x hc hx=>h (i+1) c x (by simpa using hc) (by simpa using hx)⟩)
variable{l:List bE}{s:bS}{cs:List bt}
def fZ.iff {M:bY}{w:bq}{k n:Int}:fZ M w cs (.mk k n s l)↔∃a,cs=[xI k,xI n,xS s,a]/\aS M w a l/\s.size<=maxLen:=by
 constructor
 .intro h;cases h with
  |mk _ _ _ _ a css h1 hs h2=>
   have⟨e,h3⟩:=np.iff.1 h2;exact⟨a,rfl,⟨css,h1,e,h3⟩,hs⟩
 rintro⟨a,rfl,⟨css,h1,e,h3⟩,hs⟩;exact .mk k n s l a css h1 hs (np.iff.2 ⟨e,h3⟩)
mutual
inductive dF(M:bY)(w:bq):List bt->bG->Prop
 |mk(k n:Int)(s:bS)(l:List bG)(a:bt)(css:List (List bt)):du (λi=>¬M i) w 4 a l.length css.flatten->s.size<=maxLen->kq M w css l->dF M w [xI k,xI n,xS s,a] (.mk k n s l)
inductive kq(M:bY)(w:bq):List (List bt)->List bG->Prop
 |nil:kq M w [] []
 |cons(cs:List bt)(v:bG)(css:List (List bt))(l:List bG):dF M w cs v->kq M w css l->kq M w (cs::css) (v::l)
end
mutual
theorem dF.zC {M M':bY}{w w':bq}{cs:List bt}{v:bG}(h:dF M w cs v)(k:Ev M w M' w'):dF M' w' cs v:=by
 match h with
 | .mk kd n s l a css h1 hs h2=>exact .mk kd n s l a css (h1.ev k) hs (h2.zC k)
theorem kq.zC {M M':Nat->Prop}{w w':World}{css:List (List Value)}{l:List bG}(h:kq M w css l)(k:Ev M w M' w'):kq M' w' css l:=by
 match h with
 | .nil=>exact .nil
 | .cons cs v css l h1 h2=>exact .cons cs v css l (h1.zC k) (h2.zC k)
end
instance:bD bG where
 size:=4
 rep:=dF
 len:=λh=>by cases h;rfl
 flat:=λh u hu=>by
  cases h with
  |mk k n s l a css h1 hs h2=>simp at hu;rcases hu with rfl|rfl|rfl|rfl;rfl;rfl;rfl;exact cells_one h1
 ev:=λh k=>h.zC k
theorem kq.iff {M:bY}{w:bq}:∀{css:List (List bt)}{l:List bG},kq M w css l↔css.length=l.length/\∀(i:Nat)(cs:List bt)(x:bG),css[i]? =some cs->l[i]? =some x->dF M w cs x
 |[],[]=>⟨λ_=>⟨rfl,λi cs x h=>by simp at h⟩,λ_=> .nil⟩
 |[],_::_=>⟨λh=>(by cases h),λh=>(by simp at h)⟩
 |_::_,[]=>⟨λh=>(by cases h),λh=>(by simp at h)⟩
 |cs::css,v::l=>by
  constructor
  .intro h;cases h with
   |cons _ _ _ _ h1 h2=>
    have⟨e,h3⟩:=(kq.iff (css:=css) (l:=l)).1 h2;refine⟨by simp[e],λi c x hc hx=> ?_⟩;cases i with
    |zero=>simp at hc hx;subst hc hx;exact h1
    |succ i=>exact h3 i c x (by simpa using hc) (by simpa using hx)
  rintro⟨e,h⟩;exact .cons _ _ _ _ (h 0 cs v rfl rfl) ((kq.iff (css:=css) (l:=l)).2 ⟨by simpa using e,λi c x hc hx=>h (i+1) c x (by simpa using hc) (by simpa using hx)⟩)
def dF.iff {M:bY}{w:bq}{k n:Int}{l:List bG}:dF M w cs (.mk k n s l)↔∃a,cs=[xI k,xI n,xS s,a]/\aS M w a l/\s.size<=maxLen:=by
 constructor
 .intro h;cases h with
  |mk _ _ _ _ a css h1 hs h2=>
   have⟨e,h3⟩:=kq.iff.1 h2;exact⟨a,rfl,⟨css,h1,e,h3⟩,hs⟩
 rintro⟨a,rfl,⟨css,h1,e,h3⟩,hs⟩;exact .mk k n s l a css h1 hs (kq.iff.2 ⟨e,h3⟩)
instance:bD cm where
 size:=4
 rep:=λM w cs x=>∃vv,cs=[xI x.id,xI x.dz,xI x.dB,vv]/\aS M w vv x.bR
 len:=λ⟨_,h,_⟩=>by rw[h];rfl
 flat:=λ⟨_,h,h1⟩u hu=>by rw[h]at hu;simp at hu;rcases hu with rfl|rfl|rfl|rfl;rfl;rfl;rfl;exact eL h1
 ev:=λ⟨vv,h,h1⟩k=>⟨vv,h,h1.ev k⟩
def dq {α:Type} [bD α](M:bY)(w:bq)(v:bt)(x:α):Prop:=∃cs,v= .agg cs.toArray/\bD.rep M w cs x
def dq.ev {α:Type} [bD α]{M M':bY}{w w':bq}{v:bt}{x:α}(h:dq M w v x)(k:Ev M w M' w'):dq M' w' v x:=by
 obtain⟨cs,h1,h2⟩:=h;exact⟨cs,h1,bD.ev h2 k⟩
def dq.aT {α:Type} [bD α]{M:bY}{w w':bq}{v:bt}{x:α}(h:dq M w v x)(k:bC w w'):dq M w' v x:=h.ev (Ev.bA k)
def de(w:bq)(R:bt->bq->Prop)(e:Ending)(w':bq):Prop:=∃v,e=xR v/\R v w'/\bC w w'
abbrev xG(f:FuncId)(a:Array Value)(w:World)(R:Value->World->Prop):Prop:=Calls prog f a w (de w R)
def Bd(M:bY)(w:bq):Prop:=∀i,M i->i<w.heap.size
def Bd.aT {M:bY}{w w':bq}(h:Bd M w)(k:bC w w'):Bd M w':=λi hi=>aN (h i hi) k.size
def cz(v:bt)(M:bY):Nat->Prop:=λi=>M i\/v.ownBlock=some i
def bP {α:Type} [bD α](M:bY)(base:Nat)(e:TypeId)(w:bq)(v:bt)(xs:List α):Prop:=
 ∃css:List (List bt),w.ownsRow base e (bD.size α) v xs.length css.flatten/\css.length=xs.length/\∀(i:Nat)(cs:List bt)(x:α),css[i]? =some cs->xs[i]? =some x->bD.rep (cz v M) w cs x
variable{N:bY}
def Ev.eO {M:bY}(w:bq)(h:∀i,N i->M i):Ev M w N w:=⟨bh.refl M w,λi hi=> .inl (h i hi)⟩
section
variable {α:Type} [bD α]{M:bY}{base:Nat}{e:TypeId}{w w':bq}{v v':bt}{xs:List α}
def bP.nil(M:bY)(base:Nat)(e:TypeId)(w:bq):bP (α:=α) M base e w () []:=⟨[],World.ownsRow_nil w base e _,rfl,λi cs x h=>by simp at h⟩
def bP.made(M:bY)(cur:Array bt)(cap:Nat)(hb:base<=w)(hm:cap<=maxLen)(hs:cur.size=cap*bD.size α):bP (α:=α) M base e (w.alloc (.cells cur e)) (xL (w,0) 0 cap) []:=
 ⟨[],World.ownsRow_made w cur cap hb hm hs,rfl,λi cs x h=>by simp at h⟩
def zF {size n:Nat}(h:w.ownsRow base e size v n cs)(hb:bC w w'):w'.ownsRow base e size v n cs:=by
 refine⟨h.1,?_⟩;rcases h.2 with h0|⟨g,cap,cur,h1,h2,h3,h4⟩
 .exact .inl h0
 exact .inr ⟨g,cap,cur,h1,h2,(hb.block g (ab.1 h3).1).trans h3,h4⟩
def bP.aT(h:bP M base e w v xs)(hb:bC w w'):bP M base e w' v xs:=by
 obtain⟨css,h1,h2,h3⟩:=h;exact⟨css,zF h1 hb,h2,λi cs x hc hx=>bD.ev (h3 i cs x hc hx) (Ev.bA hb)⟩
def bP.alloc(h:bP M base e w v xs)(o:Obj):bP M base e (w.alloc o) v xs:=h.aT ((ay _ w).alloc cN o)
def bP.bj(h:bP M base e w v xs):∃a cap,v=xL a xs.length cap/\xs.length<=cap/\cap<=9223372036854775807:=by
 obtain⟨css,h1,_⟩:=h;have⟨a,c,h2,h3,h4⟩:=ic h1;exact⟨a,c,h2,h3,by unfold maxLen at h4;omega⟩
def bP.dC(h:bP M base e w v xs):∀k,v.ownBlock=some k->base<=k/\k<w.heap.size:=by
 obtain⟨css,h1,_⟩:=h;exact h1.lt
def bP.slice(h:bP M base e w v xs)(hM:∀i,M i->i<base):aS M w v xs:=by
 obtain⟨css,h1,h2,h3⟩:=h;refine⟨css,(du.BJ h1).mono λi hi _ Wj=> ?_,h2,λi cs x hc hx=>bD.ev (h3 i cs x hc hx) (Ev.eO w λi hi=> .inl hi)⟩;have:=(h1.lt i hi).1;have:=hM i Wj;omega
def Ev.grown(hg:w.grownBy w' v.ownBlock)(hv:v'.ownBlock=v.ownBlock\/v'.ownBlock=some w.heap.size):Ev (cz v M) w (cz v' M) w':=by
 refine⟨(bh.refl _ w).grown hg λg hg'=> .inl (.inr hg'),λi hi=> ?_⟩;rcases hi with hi|hi
 .exact .inl (.inl hi)
 rcases hv with hv|hv
 .exact .inl (.inr (hv▸hi))
 rw[hv]at hi;cases hi;exact .inr cN
def bP.snoc {css:List (List bt)}{x:α}(h2:css.length=xs.length)(h3:∀(i:Nat)(cs:List bt)(x:α),css[i]? =some cs->xs[i]? =some x->bD.rep (cz v M) w cs x)
 (hx:bD.rep (cz v M) w cs x)(ho:w'.ownsRow base e (bD.size α) v' (xs.length+1) (css.flatten++cs))(hg:w.grownBy w' v.ownBlock)(hv:v'.ownBlock=v.ownBlock\/v'.ownBlock=some w.heap.size):
 bP M base e w' v' (xs++[x]):=by
 refine⟨css++[cs],by simpa using ho,by simp[h2],λi c y hc hy=> ?_⟩;by_cases hi:i<css.length
 .rw[aq hi]at hc;rw[aq (by omega)]at hy;exact bD.ev (h3 i c y hc hy) (Ev.grown hg hv)
 rw[au (by omega)]at hc;rw[au (by omega)]at hy;rw[h2]at hc;by_cases h0:i-xs.length=0
 .rw[h0]at hc hy;simp at hc hy;subst hc hy;exact bD.ev hx (Ev.grown hg hv)
 rw[List.getElem?_eq_none (by simp;omega)]at hc;cases hc
def bP.app {css Nl:List (List bt)}{ys:List α}(h2:css.length=xs.length)(h3:∀(i:Nat)(cs:List bt)(x:α),css[i]? =some cs->xs[i]? =some x->bD.rep (cz v M) w cs x)
 (k2:Nl.length=ys.length)(k3:∀(i:Nat)(cs:List bt)(x:α),Nl[i]? =some cs->ys[i]? =some x->bD.rep (cz v M) w cs x)(ho:w'.ownsRow base e (bD.size α) v' (xs.length+ys.length) (css.flatten++Nl.flatten))(hg:w.grownBy w' v.ownBlock)(hv:v'.ownBlock=v.ownBlock\/v'.ownBlock=some w.heap.size):
 bP M base e w' v' (xs++ys):=by
 refine⟨css++Nl,by simpa using ho,by simp[h2,k2],λi c y hc hy=> ?_⟩;by_cases hi:i<css.length
 .rw[aq hi]at hc;rw[aq (by omega)]at hy;exact bD.ev (h3 i c y hc hy) (Ev.grown hg hv)
 rw[au (by omega)]at hc;rw[au (by omega)]at hy;rw[h2]at hc;exact bD.ev (k3 _ c y hc hy) (Ev.grown hg hv)
end
def eP(c:Int):Bool:=decide (97<=c/\c<=122)
def KY(c:Int)(w:bq)(h0:0<=c)(h1:c<=255):
 xC 194 #[.int .u8 c] w (j7 (xB (eP c)) w):=by
 by_cases h2:97<=c
 .by_cases h3:c<=122
  .go_enter func194,ntmps194;go_wp2;go_ret;exact⟨cL (by simp[eP,h2,h3]),rfl⟩
  go_enter func194,ntmps194;go_wp2;go_ret;exact⟨cL (by simp[eP,h2];omega),rfl⟩
 go_enter func194,ntmps194;go_wp2;go_ret;exact⟨cL (by simp[eP];omega),rfl⟩
def lU(b:Bool)(c:Int)(w:bq)(hb:eP c=b)(h0:0<=c)(h1:c<=255):
 xC 194 #[.int .u8 c] w (j7 b w):=by subst hb;exact KY c w h0 h1
def cG(c:Int):Bool:=eP c||decide (48<=c/\c<=57)||decide (c=95)
def bF(s:bS):Bool:=decide (1<=s.size)&&decide (s.size<=20)&&(match s.data.toList with|[]=>false|c::r=>eP c.toNat&&(c::r).all λc=>cG c.toNat)
def bO(t:cq):Bool:=if t.bg=5 then decide (1<=t.of/\t.of<=4)else decide (1<=t.bg/\t.bg<=4/\t.of=0)
def rh(t:cq)(w:bq):
 xC 195 #[.agg #[t.bg,t.of]] w (di (xB (bO t)) w):=by
 obtain⟨k,o⟩:=t;by_cases hk:k=5
 .subst hk;by_cases h1:1<=o
  .go_enter func195,ntmps195;go_wp2;go_ret;exact⟨cL (by simp[bO,h1]),cU⟩
  go_enter func195,ntmps195;go_wp2;go_ret;exact⟨cL (by simp[bO];omega),cU⟩
 have Yc:(k==5)=false:=by simpa using hk
 by_cases h1:1<=k
 .by_cases h2:k<=4
  .go_enter func195,ntmps195;go_wp2;go_ret;exact⟨cL (by by_cases ho:o=0<;>simp[bO,hk,h1,h2,ho]),cU⟩
  go_enter func195,ntmps195;go_wp2;go_ret;exact⟨cL (by simp[bO,hk];omega),cU⟩
 go_enter func195,ntmps195;go_wp2;go_ret;exact⟨cL (by simp[bO,hk];omega),cU⟩
def dY(s:bS)(k:Nat)(h:k<s.size):s.data.toList[k]? =some s[k]:=by
 rw[af (by simpa using h)];rfl
def KZ(s:bS)(k:Nat)(h:k<s.size):s.data.toList.take (k+1)=s.data.toList.take k++[s[k]]:=by
 rw[ao,dY s k h];rfl
def cH(s:bS):s.data.toList.length=s.size:=by rw[Array.length_toList];rfl
def zG(s:bS)(w:bq)(hs:s.size<=maxLen):
 xC 123 #[s] w (j7 (xB (bF s)) w):=by
 unfold maxLen at hs;by_cases h1:s.size<1
 .go_enter func123,ntmps123;go_wp2;go_ret;exact⟨cL (by simp[bF];omega),rfl⟩
 by_cases h2:20<s.size
 .go_enter func123,ntmps123;go_wp2;go_ret;exact⟨cL (by simp[bF];omega),rfl⟩
 obtain⟨c0,hc0⟩:∃c,s[0]=c:=⟨_,rfl⟩;have hb0:(c0.toNat:Int)<=255:=by have:=c0.toNat_lt;omega
 obtain⟨r,hr⟩:∃r,s.data.toList=c0::r:=by
  have h:=dY s 0 (by omega);rw[hc0]at h;cases hl:s.data.toList with
  |nil=>rw[hl]at h;simp at h
  |cons a r=>rw[hl]at h;simp at h;exact⟨r,by rw[h]⟩
 have HR:=aV hr;clear hr;cases Tk:eP c0.toNat
 .have HS:=aV Tk;clear Tk;go_enter func123,ntmps123;go_wp2_with fail;refine ey (lU false _ _ HS.o (by omega) hb0) ?_;go_wp2;go_ret;exact⟨cL (by simp[bF,HR.o,HS.o]),rfl⟩
 have HS:=aV Tk;clear Tk;go_enter func123,ntmps123;go_wp2_with fail;refine ey (lU true _ _ HS.o (by omega) hb0) ?_;go_wp2_with fail;clear hc0;go_loopg [3,20]s.size(λg _ iv wr=>∃k:Nat,k<=s.size/\g=s.size-k/\iv=xI k/\Hd ((s.data.toList.take k).all (λc=>cG c.toNat)=true)/\w=wr);exact⟨0,ax _,rfl,rfl,by exact(rfl:(s.data.toList.take 0).all (λc=>cG c.toNat)=true),rfl⟩;obtain⟨k,hk,rfl,rfl,HT,rfl⟩:=hrel;by_cases cE:k<s.size;rotate_left
 .go_wp2;go_ret;have h:=HT.o;rw[ak (by rw[cH];omega)]at h;refine⟨cL ?_,rfl⟩;simp only[bF,HR.o]at h⊢;simp[h,HS.o];omega
 have⟨c,hc⟩:=js (s[k]);have FL:(c.toNat:Int)<=255:=by have:=c.toNat_lt;omega
 have oQ:=aV (KZ s k cE);have Gg:=aV hc;have mC:=aV (dY s k cE);have hkz:(k:Int)<s.size:=by omega
 have fin:cG c.toNat=true->(s.data.toList.take (k+1)).all (λc=>cG c.toNat)=true:=λh=>by
  rw[oQ.o,List.all_append,HT.o,Gg.o];simp[h]
 have po:=aV fin;clear fin;cases Tk:eP c.toNat;rotate_left
 .have iy:=aV Tk;clear Tk;go_wp2_with fail;refine ey (lU true _ _ iy.o (by omega) FL) ?_;go_wp2;go_roundg(s.size-(k+1));exact⟨k+1,by omega,rfl,by go_num,po.o (by simp[cG,iy.o]),rfl⟩;omega
 have iy:=aV Tk;clear Tk;have NO:Hd (cG c.toNat=false->bF s=false):=by
  have h:cG c.toNat=false->bF s=false:=λhn=>by
   have hm:c∈s.data.toList:=ai (by rw[mC.o,Gg.o]);have ha:(s.data.toList.all λc=>cG c.toNat)=false:=by
    rw[List.all_eq_false];exact⟨c,hm,by simp[hn]⟩
   unfold bF;rw[HR.o]at ha⊢;simp only[ha,Bool.and_false]
  exact h
 by_cases hu:(c.toNat:Int)=95
 .have hub:((c.toNat:Int)!=95)=false:=by simpa using hu
  have hd1:¬(c.toNat:Int)<48:=by omega
  have hd2:57<(c.toNat:Int):=by omega
  have HU:=aV hu;clear hu;go_wp2_with fail;refine ey (lU false _ _ iy.o (by omega) FL) ?_;go_wp2;go_roundg(s.size-(k+1));exact⟨k+1,by omega,rfl,by go_num,po.o (by simp[cG,HU.o]),rfl⟩;omega
 have hub:((c.toNat:Int)!=95)=true:=by simpa using hu
 have HU:=aV hu;clear hu;by_cases hd1:(c.toNat:Int)<48
 .have HN:Hd (cG c.toNat=false):=by
   have h:cG c.toNat=false:=by
    have:=HU.o;simp only[cG,iy.o,Bool.false_or,Bool.or_eq_false_iff,decide_eq_false_iff_not];omega
   exact h
  go_wp2_with fail;refine ey (lU false _ _ iy.o (by omega) FL) ?_;go_wp2;go_ret;refine⟨cL ?_,rfl⟩;rw[NO.o];exact HN.o
 by_cases hd2:57<(c.toNat:Int)
 .have HN:Hd (cG c.toNat=false):=by
   have h:cG c.toNat=false:=by
    have:=HU.o;simp only[cG,iy.o,Bool.false_or,Bool.or_eq_false_iff,decide_eq_false_iff_not];omega
   exact h
  go_wp2_with fail;refine ey (lU false _ _ iy.o (by omega) FL) ?_;go_wp2;go_ret;refine⟨cL ?_,rfl⟩;rw[NO.o];exact HN.o
 have HN:Hd (cG c.toNat=true):=by
  have h:cG c.toNat=true:=by
   simp only[cG,iy.o,Bool.false_or,Bool.or_eq_true,decide_eq_true_eq];omega
  exact h
 go_wp2_with fail;refine ey (lU false _ _ iy.o (by omega) FL) ?_;go_wp2;go_roundg(s.size-(k+1));exact⟨k+1,by omega,rfl,by go_num,po.o (HN.o),rfl⟩;omega
def cT(f:bJ):Bool:=bF f.aX&&bO f.type&&(!f.indexed||decide (f.type.bg<=3))
def oh(b:Bool)(t:cq)(w:bq)(hb:bO t=b):
 xC 195 #[.agg #[t.bg,t.of]] w (di b w):=by subst hb;exact rh t w
def gU(b:Bool)(s:bS)(w:bq)(hb:bF s=b)(hs:s.size<=maxLen):
 xC 123 #[s] w (j7 b w):=by subst hb;exact zG s w hs
variable{o:Obj}{w W:bq}
def boxed(h:Below (w.alloc o).heap.size (w.alloc o) W):ed W w o:=(h.block w (by simp)).trans (az w o)
def ct(h:Below (w.alloc o).heap.size (w.alloc o) W):bC w W:=((ay _ w).alloc cN o).trans (h.mono (by simp))
variable{t:TypeId}{c0 c1:bt}{g:Nat}
def aZ(h:W.heap[g]? =some (xK #[c0,c1] t)):W.cell? (g,0)=some c0/\W.cell? (g,1)=some c1:=by simp[World.cell?,h]
variable{c2 c3:bt}
def aU(h:W.heap[g]? =some (xK #[c0,c1,c2,c3] t)):
 W.cell? (g,0)=some c0/\W.cell? (g,1)=some c1/\W.cell? (g,2)=some c2/\W.cell? (g,3)=some c3:=by simp[World.cell?,h]
def wQ(f:bJ)(w:bq)(hs:f.aX.size<=maxLen):
 xC 124 #[.agg #[f.aX,f.type.bg,f.type.of,xB f.indexed]] w (di (xB (cT f)) w):=by
 obtain⟨aX,⟨k,o⟩,ix⟩:=f;have NM:=aV hs;cases h1:bF aX
 .have H1:=aV h1;go_enter func124,ntmps124;go_wp2_with fail;refine ey (gU false _ _ H1.o NM.o) ?_;go_wp2;go_ret;exact⟨cL (by simp[cT,H1.o]),cU⟩
 cases h2:bO ⟨k,o⟩
 .have H1:=aV h1;have H2:=aV h2;go_enter func124,ntmps124;go_wp2_with fail;refine ey (gU true _ _ H1.o NM.o) ?_;go_wp2_with fail;refine dx (oh false ⟨k,o⟩ _ H2.o) λw1 hb1=> ?_;go_wp2;go_ret;exact⟨cL (by simp[cT,H1.o,H2.o]),ct hb1⟩
 have H1:=aV h1;have H2:=aV h2;cases ix
 .go_enter func124,ntmps124;go_wp2_with fail;refine ey (gU true _ _ H1.o NM.o) ?_;go_wp2_with fail;refine dx (oh true ⟨k,o⟩ _ H2.o) λw1 hb1=> ?_;have⟨q0,q1,q2,q3⟩:=aU (boxed hb1);have cu:=aV hb1;go_wp2;go_ret;exact⟨cL (by simp[cT,H1.o,H2.o]),ct cu.o⟩
 go_enter func124,ntmps124;go_wp2_with fail;refine ey (gU true _ _ H1.o NM.o) ?_;go_wp2_with fail;refine dx (oh true ⟨k,o⟩ _ H2.o) λw1 hb1=> ?_;have⟨q0,q1,q2,q3⟩:=aU (boxed hb1);have cu:=aV hb1;go_wp2;go_ret;exact⟨cL (by simp[cT,H1.o,H2.o]),ct cu.o⟩
def dh(a b:bS):Bool:=a.toList==b.toList
def De(f:bJ)(aX:bS)(p:Nat)(w:bq)(hp:cC w p 0 aX)(iJ:p<w):
 xC 182 #[.agg #[f.aX,f.type.bg,f.type.of,xB f.indexed],xP p] w (di (xB (dh f.aX aX)) w):=by
 obtain⟨fn,⟨k,o⟩,ix⟩:=f;have Wk:p≠w:=by omega
 delta xC;go_in;go_wp2;go_ret;exact⟨rfl,cU⟩
def idxOf {α:Type}(p:α->Bool)(xs:List α):Int:=match xs.findIdx? p with|some i=>i|none=> -1
variable{k:Nat}
def idxOf_hit {α:Type}{p:α->Bool}{xs:List α}{x:α}(h:∀y∈xs.take k,p y=false)(hx:xs[k]? =some x)(hp:p x=true):idxOf p xs=k:=by
 unfold idxOf;have:xs.findIdx? p=some k:=by
  rw[List.findIdx?_eq_some_iff_getElem];have hk:k<xs.length:=(ag.1 hx).1;refine⟨hk,by rw[(ag.1 hx).2];exact hp,λj hj=> ?_⟩;have:=h xs[j] (List.mem_take_iff_getElem.2 ⟨j,by omega,rfl⟩);simp[this]
 rw[this]
def om {α:Type}{p:α->Bool}{xs:List α}(h:∀y∈xs,p y=false):idxOf p xs= -1:=by
 unfold idxOf;rw[List.findIdx?_eq_none_iff.2 (λx hx=>by simp[h x hx])]
def wR(M:bY)(v:bt)(w:bq)(xs:List bJ)(aX:bS)(p:Nat)(h:aS M w v xs)(hp:cC w p 0 aX)(iJ:p<w):
 xC 181 #[v, .func (.func 182) #[] #[xP p]] w (di (xI (idxOf (λf=>dh f.aX aX) xs)) w):=by
 obtain⟨a,cY,rfl,dN,hm,hc⟩:=h.bj;have HC:=aV hc;have HP:=aV hp;generalize hn:xs.length=n at*;have HN:=aV hn;delta xC;go_in;go_wp2;go_loopg [5,8]n(λg _ iv wr=>∃k:Nat,k<=n/\g=n-k/\iv=xI k/\Hd (∀x∈xs.take k,dh x.aX aX=false)/\Hd (bC w wr));exact⟨0,ax _,rfl,rfl,by {have h:∀x∈xs.take 0,dh x.aX aX=false:=(by simp);exact h},by exact(ay _ w)⟩;obtain⟨k,hk,rfl,rfl,HT,HB⟩:=hrel;by_cases cE:k<n
 .obtain⟨b,off,rfl,hMb,hbl,hcell⟩:=HC.o (by omega);have⟨x,hx⟩:=fg xs k (by rw[HN.o];exact cE);have⟨cs,hrep,hcs⟩:=hcell k x hx;have hcl:∀(j:Nat)(u:bt),cs[j]? =some u->cC wr b (off+k*4+j) u:=λj u hu=>(HB.o.cell (p:=⟨b,off+k*4+j,none⟩) hbl).trans (hcs j u hu);have qo:cs=[xS x.aX,xI x.type.bg,xI x.type.of,xB x.indexed]:=hrep.1;subst qo;have g0:cC wr b (off+k*4) x.aX:=hcl 0 _ rfl;have g1:=hcl 1 _ rfl;have g2:=hcl 2 _ rfl;have g3:=hcl 3 _ rfl;have hcall:=De x aX p wr ((HB.o.cell (p:=⟨p,0,none⟩) iJ).trans HP.o) (aN iJ HB.o.size);have HX:=aV hx;cases hq:dh x.aX aX
  .rw[hq]at hcall;have cI:=aV hcall;have HQ:=aV hq;go_wp2_with fail;refine cI.o.mono ?_;rintro e w1⟨rfl,hb1⟩;have cu:Hd (bC w w1):=HB.o.trans (hb1.mono HB.o.size);go_wp2;go_roundg(n-(k+1));exact⟨k+1,by omega,rfl,by go_num,by {have h:∀y∈xs.take (k+1),dh y.aX aX=false:=λy hy=>by {rw[ao,HX.o]at hy;simp at hy;rcases hy with h|h;exact HT.o y h;subst h;exact HQ.o};exact h},cu⟩;omega
  rw[hq]at hcall;have cI:=aV hcall;have HQ:=aV hq;go_wp2_with fail;refine cI.o.mono ?_;rintro e w1⟨rfl,hb1⟩;have cu:Hd (bC w w1):=HB.o.trans (hb1.mono HB.o.size);go_wp2;go_ret;exact⟨jN (idxOf_hit (p:=λf=>dh f.aX aX) HT.o HX.o HQ.o).symm,cu.o⟩
 go_wp2;go_ret;have h:=HT.o;rw[ak (by rw[HN.o];omega)]at h;exact⟨jN (om (p:=λf:bJ=>dh f.aX aX) h).symm,HB.o⟩
variable{c:bI}{v:bt}{M:bY}
def Gv(h:dq M w v c):∃fv,v= .agg #[c.aX,fv]/\aS M w fv c.aW/\c.aX.size<=maxLen:=by
 obtain⟨cs,rfl,fv,rfl,h1,h2⟩:=h;exact⟨fv,rfl,h1,h2⟩
def fieldAt(c:bI)(aX:bS):Int:=idxOf (λf:bJ=>dh f.aX aX) c.aW
def rY {α:Type}(p:α->Bool)(xs:List α): -1<=idxOf p xs:=by unfold idxOf;split<;>omega
def wS {α:Type}(p:α->Bool)(xs:List α):idxOf p xs<xs.length\/idxOf p xs= -1:=by
 unfold idxOf;cases h:xs.findIdx? p with
 |none=>exact .inr rfl
 |some i=>exact .inl (by have:=(List.findIdx?_eq_some_iff_getElem.1 h).1;simp;omega)
def K3(M:Nat->Prop)(v:Value)(w:World)(c:bI)(aX:ByteArray)(h:dq M w v c):
 xC 109 #[v,aX] w (di (.tuple #[xI (if fieldAt c aX<0 then 0 else fieldAt c aX),xB (!decide (fieldAt c aX<0))]) w):=by
 obtain⟨fv,rfl,hs,_⟩:=Gv h;obtain⟨a,cap,rfl,_⟩:=hs.bj;have⟨u,hu⟩:=dd ((w.alloc (xK #[c.aX,xL a c.aW.length cap] 53)).alloc (xK #[aX] 9));have hbu:bC w u:=by rw[hu];exact cU.alloc (by simp) _
 have hpu:u.heap[w.heap.size+1]? =some (xK #[aX] 9):=by
  rw[hu];have:=az (w.alloc (xK #[c.aX,xL a c.aW.length cap] 53)) (xK #[aX] 9);simpa using this
 have hcall:=wR M _ u c.aW aX [w] (hs.aT hbu) (by simp[World.cell?,hpu]) ((ab.1 hpu).1);have e0:fieldAt c aX=idxOf (λf=>dh f.aX aX) c.aW:=rfl;rw[<-e0]at hcall;have cI:=aV hcall;have HBU:=aV hbu;rw[hu]at cI;have HU:=aV hu;clear hcall hbu hpu hu e0 hs;by_cases hn:fieldAt c aX<0
 .rw[if_pos hn,decide_eq_true hn];generalize fieldAt c aX=at_ at*;generalize c.aW.length=n at*;go_enter func109,ntmps109;go_wp2_with fail;refine cI.o.mono ?_;rintro e w1⟨rfl,hb1⟩;rw[<-HU.o]at hb1;have cu:Hd (bC w w1):=HBU.o.trans (hb1.mono HBU.o.size);clear hb1;go_wp2;go_ret2;exact⟨rfl,cu.o⟩
 rw[if_neg hn,decide_eq_false hn];generalize fieldAt c aX=at_ at*;generalize c.aW.length=n at*;go_enter func109,ntmps109;go_wp2_with fail;refine cI.o.mono ?_;rintro e w1⟨rfl,hb1⟩;rw[<-HU.o]at hb1;have cu:Hd (bC w w1):=HBU.o.trans (hb1.mono HBU.o.size);clear hb1;go_wp2;go_ret2;exact⟨rfl,cu.o⟩
def rZ(c:bI)(k:Nat):Prop:=∀(j:Nat)(f:bJ),j<k->c.aW[j]? =some f->cT f=true/\fieldAt c f.aX=j
def cj(c:bI):Bool:=bF c.aX&&decide (c.aW.length<=8)&&(List.range c.aW.length).all λk=>match c.aW[k]? with|some f=>cT f&&decide (fieldAt c f.aX=k)|none=>true
def cw(c:bI):cj c=true↔bF c.aX=true/\c.aW.length<=8/\rZ c c.aW.length:=by
 unfold cj rZ;simp only[aF,decide_eq_true_eq,List.all_eq_true,List.mem_range,and_assoc];refine and_congr Iff.rfl (and_congr Iff.rfl ⟨λh j f hj hf=> ?_,λh j hj=> ?_⟩)
 .have:=h j hj;rw[hf]at this;simpa using this
 cases hf:c.aW[j]? with
 |none=>rfl
 |some f=>simpa using h j f hj hf
def wT(h:bF c.aX=false):cj c=false:=by
 cases h2:cj c;rfl;have:=((cw c).1 h2).1;rw[h]at this;cases this
def wU(h:8<c.aW.length):cj c=false:=by
 cases h2:cj c;rfl;have:=((cw c).1 h2).2.1;omega
variable{f:bJ}
def pD(hf:c.aW[k]? =some f)(h:¬(cT f=true/\fieldAt c f.aX=k)):cj c=false:=by
 cases h2:cj c;rfl;exact absurd (((cw c).1 h2).2.2 k f (ag.1 hf).1 hf) h
def Gw(c:bI)(s:bS): -1<=fieldAt c s:=rY _ _
def wV(c:bI)(s:bS):fieldAt c s<c.aW.length:=by
 rcases wS (λf:bJ=>dh f.aX s) c.aW with h|h
 .exact h
 unfold fieldAt;rw[h];omega
def uV(hf:c.aW[k]? =some f):0<=fieldAt c f.aX:=by
 unfold fieldAt idxOf;cases h:c.aW.findIdx? (λg=>dh g.aX f.aX)with
 |some i=>simp
 |none=>
  have:=List.findIdx?_eq_none_iff.1 h f (ai hf);simp[dh]at this
def nr(M:bY)(fv:bt)(w:bq)(c:bI)(aX:bS)(at_:Int)(is:Bool)(h:aS M w fv c.aW)(hn:c.aX.size<=maxLen)(ha:(if fieldAt c aX<0 then 0 else fieldAt c aX)=at_)(hi:(!decide (fieldAt c aX<0))=is):
 xC 109 #[.agg #[c.aX,fv],aX] w (di (.tuple #[at_,is]) w):=by
 subst ha hi;exact K3 M _ w c aX ⟨_,rfl,fv,rfl,h,hn⟩
def mR(b:Bool)(f:bJ)(w:bq)(hs:f.aX.size<=maxLen)(hb:cT f=b):
 xC 124 #[.agg #[f.aX,f.type.bg,f.type.of,xB f.indexed]] w (di b w):=by subst hb;exact wQ f w hs
def iA(M:bY)(fv:bt)(w:bq)(c:bI)(hs:aS M w fv c.aW)(hnm:c.aX.size<=maxLen):
 xC 50 #[.agg #[c.aX,fv]] w (di (xB (cj c)) w):=by
 have HS:=aV hs;have tM:=aV hnm;obtain⟨a,cY,rfl,dN,hm,hc⟩:=hs.bj;have HC:=aV hc;generalize hn:c.aW.length=n at*;have HN:=aV hn;cases h1:bF c.aX
 .have H1:=aV h1;go_enter func50,ntmps50;go_wp2_with fail;refine ey (gU false _ _ H1.o tM.o) ?_;go_wp2;go_ret;exact⟨cL (wT H1.o).symm,cU⟩
 have H1:=aV h1;by_cases h8:8<n
 .go_enter func50,ntmps50;go_wp2_with fail;refine ey (gU true _ _ H1.o tM.o) ?_;go_wp2;go_ret;exact⟨cL (wU (by rw[HN.o];exact h8)).symm,cU⟩
 go_enter func50,ntmps50;go_wp2_with fail;refine ey (gU true _ _ H1.o tM.o) ?_;go_wp2;go_loopg [2,3,4,5,6,20]n(λg r _ _ _ _ iv wr=>∃k:Nat,k<=n/\g=n-k/\iv=xI k/\r=xB false/\Hd (rZ c k)/\Hd (bC w wr)/\ed wr w (xK #[c.aX,xL a n cY] 53));exact⟨0,ax _,rfl,rfl,rfl,(λj f h=>absurd h (Nat.not_lt_zero _)),by exact cU,az _ _⟩;obtain⟨k,hk,rfl,rfl,rfl,HT,HB,uM⟩:=hrel;have hsz:w.heap.size<wr:=(ab.1 uM).1;have⟨g0,g1⟩:=aZ uM;have Nn:=aV uM;by_cases cE:k<n;rotate_left
 .go_wp2;go_ret;refine⟨cL ?_,HB.o⟩;have QH:k=n:=by omega
  exact((cw c).2 ⟨H1.o,by rw[HN.o];omega,by rw[HN.o];have h:=HT.o;rw[QH]at h;exact h⟩).symm
 obtain⟨b,off,rfl,hMb,hbl,hcell⟩:=HC.o (by omega);have⟨x,hx⟩:=fg c.aW k (by rw[HN.o];exact cE);have⟨cs,hrep,hcs⟩:=hcell k x hx;have hcl:∀(j:Nat)(u:bt),cs[j]? =some u->cC wr b (off+k*4+j) u:=λj u hu=>(HB.o.cell (p:=⟨b,off+k*4+j,none⟩) hbl).trans (hcs j u hu);obtain⟨rfl,hxs⟩:=hrep;have q0:cC wr b (off+k*4) x.aX:=hcl 0 _ rfl;have q1:=hcl 1 _ rfl;have q2:=hcl 2 _ rfl;have q3:=hcl 3 _ rfl;have HX:=aV hx;have wH:=aV hxs;have wI:b≠w:=by omega
 have qf1:=Gw c x.aX;have qf2:=wV c x.aX;have qf3:=uV HX.o;have Yd:¬fieldAt c x.aX<0:=by omega
 have uN:Hd ((if fieldAt c x.aX<0 then 0 else fieldAt c x.aX)=fieldAt c x.aX):=if_neg Yd;have Um:=aV (show(!decide (fieldAt c x.aX<0))=true by rw[decide_eq_false Yd];rfl);cases hr:cT x
 .have HR:=aV hr;go_wp2_with fail;refine dx (mR false x _ wH.o HR.o) λw1 hb1=> ?_;have cu:=aV hb1;go_wp2;go_ret;exact⟨cL (pD HX.o (by rw[HR.o];simp)).symm,HB.o.trans ((ct cu.o).mono (by have:=HB.o.size;omega))⟩
 have HR:=aV hr;by_cases hq:fieldAt c x.aX=k
 .have HQ:=aV hq;go_wp2_with fail;refine dx (mR true x _ wH.o HR.o) λw1 hb1=> ?_;have s1:w.heap.size<w1:=by have:=hb1.size;simp at this;omega
  have⟨p0,p1,p2,p3⟩:=aU (boxed hb1);have⟨p4,p5⟩:=aZ ((hb1.block w (by simp;omega)).trans ((aB wr _ w (by omega)).trans Nn.o));have cu:Hd (bC w w1):=HB.o.trans ((ct hb1).mono (by have:=HB.o.size;omega));have dp:Hd (ed w1 w (xK #[c.aX,xL (b,off) n cY] 53)):=((hb1.block w (by simp;omega)).trans ((aB wr _ w (by omega)).trans Nn.o));have hcall:=nr M _ w1 c x.aX _ _ (HS.o.aT cu.o) tM.o uN.o Um.o;have cI:=aV hcall;go_wp2_with fail;refine cI.o.mono ?_;rintro e w2⟨rfl,cJ⟩;have bZ:=aV cJ;have hqb:((fieldAt c x.aX)!=(k:Int))=false:=by simpa using HQ.o
  go_wp2;go_roundg(n-(k+1));case measure=>omega
  case rel=>
   refine⟨k+1,by omega,rfl,by go_num,rfl,?_,?_,?_⟩
   .have h:rZ c (k+1):=λj f hj hf=>by
     by_cases hjk:j<k
     .exact HT.o j f hjk hf
     obtain rfl:j=k:=by omega
     rw[HX.o]at hf;cases hf;exact⟨HR.o,HQ.o⟩
    exact h
   .have h:bC w w2:=cu.o.trans (bZ.o.mono (by omega));exact h
   exact(bZ.o.block _ s1).trans dp.o
 have HQ:=aV hq;have hqb:((fieldAt c x.aX)!=(k:Int))=true:=by simpa using hq
 go_wp2_with fail;refine dx (mR true x _ wH.o HR.o) λw1 hb1=> ?_;have s1:w.heap.size<w1:=by have:=hb1.size;simp at this;omega
 have⟨p0,p1,p2,p3⟩:=aU (boxed hb1);have⟨p4,p5⟩:=aZ ((hb1.block w (by simp;omega)).trans ((aB wr _ w (by omega)).trans Nn.o));have cu:Hd (bC w w1):=HB.o.trans ((ct hb1).mono (by have:=HB.o.size;omega));have hcall:=nr M _ w1 c x.aX _ _ (HS.o.aT cu.o) tM.o uN.o Um.o;have cI:=aV hcall;go_wp2_with fail;refine cI.o.mono ?_;rintro e w2⟨rfl,cJ⟩;have bZ:=aV cJ;go_wp2;go_ret;exact⟨cL (pD HX.o (λh=>HQ.o h.2)).symm,cu.o.trans (bZ.o.mono (by omega))⟩
def Sb {c:UInt8}(hc:s.data.toList[k]? =some c)(hn:cG c.toNat=false):bF s=false:=by
 have hm:c∈s.data.toList:=ai hc;have ha:(s.data.toList.all λc=>cG c.toNat)=false:=by
  rw[List.all_eq_false];exact⟨c,hm,by simp[hn]⟩
 unfold bF;cases hl:s.data.toList with
 |nil=>simp
 |cons a r=>rw[hl]at ha;simp only[ha,Bool.and_false]
def N0 {c:UInt8}(hc:s.data.toList[0]? =some c)(hn:eP c.toNat=false):bF s=false:=by
 unfold bF;cases hl:s.data.toList with
 |nil=>simp
 |cons a r=>rw[hl]at hc;simp at hc;subst hc;simp[hn]
def N2(h1:1<=s.size)(h2:s.size<=20)(ha:s.data.toList.all (λc=>cG c.toNat)=true)(h0:∀c,s.data.toList[0]? =some c->eP c.toNat=true):bF s=true:=by
 unfold bF;cases hl:s.data.toList with
 |nil=>have:=cH s;rw[hl]at this;simp at this;omega
 |cons a r=>
  rw[hl]at ha;have:=h0 a (by rw[hl];rfl);simp only[ha,this,Bool.and_true,aF,decide_eq_true_eq];exact⟨h1,h2⟩
def tV(s:bS)(k:Nat):Prop:=(s.data.toList.take k).all (λc=>cG c.toNat)=true/\(0<k->∀c,s.data.toList[0]? =some c->eP c.toNat=true)
def tV.succ {c:UInt8}(h:tV s k)(hk:k<s.size)(hc:s.data.toList[k]? =some c)(hn:cG c.toNat=true)(h0:k=0->eP c.toNat=true):tV s (k+1):=by
 refine⟨?_,λ_ d hd=> ?_⟩
 .rw[ao,hc,List.all_append,h.1];simp[hn]
 by_cases NN:k=0
 .subst NN;rw[hc]at hd;cases hd;exact h0 rfl
 exact h.2 (by omega) d hd
def Df(s:bS)(w:bq)(hs:s.size<=maxLen):
 xC 305 #[s] w (j7 (xB (bF s)) w):=by
 unfold maxLen at hs;by_cases h1:s.size<1
 .go_enter func305,ntmps305;go_wp2;go_ret;exact⟨cL (by simp[bF];omega),rfl⟩
 by_cases h2:20<s.size
 .go_enter func305,ntmps305;go_wp2;go_ret;exact⟨cL (by simp[bF];omega),rfl⟩
 delta xC;go_in;go_wp2;go_loopg [2,3,4,5]s.size(λg r iv _ _ wr=>∃k:Nat,k<=s.size/\g=s.size-k/\iv=xI k/\r=xB false/\Hd (tV s k)/\w=wr);exact⟨0,ax _,rfl,rfl,rfl,by {have h:tV s 0:=⟨rfl,λh=>absurd h (Nat.lt_irrefl _)⟩;exact h},rfl⟩;obtain⟨k,hk,rfl,rfl,rfl,HT,rfl⟩:=hrel;by_cases cE:k<s.size;rotate_left
 .go_wp2;go_ret;have h:=HT.o;have hk:k=s.size:=by omega
  refine⟨cL (N2 (by omega) (by omega) ?_ (h.2 (by omega))).symm,rfl⟩;have h3:=h.1;rw[ak (by rw[cH];omega)]at h3;exact h3
 have⟨c,hc⟩:=js (s[k]);have FL:(c.toNat:Int)<=255:=by have:=c.toNat_lt;omega
 have mC:Hd (s.data.toList[k]? =some c):=(dY s k cE).trans (congrArg some hc);have hkz:(k:Int)<s.size:=by omega
 by_cases hl:97<=(c.toNat:Int)/\(c.toNat:Int)<=122
 .obtain⟨hl1,hl2⟩:=hl;have HS:=aV (show eP c.toNat=true by simp[eP];omega);have a1:48<=(c.toNat:Int):=by omega
  have a2:¬(c.toNat:Int)<=57:=by omega
  have a3:((c.toNat:Int)==95)=false:=by simp;omega
  go_wp2;go_roundg(s.size-(k+1));exact⟨k+1,by omega,rfl,by go_num,rfl,HT.o.succ cE mC.o (by simp[cG,HS.o]) (λ_=>HS.o),rfl⟩;omega
 have HS:=aV (show eP c.toNat=false by simp[eP];omega);have b1:(decide (97<=(c.toNat:Int))&&decide ((c.toNat:Int)<=122))=false:=by simp;omega
 by_cases h0:k=0
 .subst h0;have HR:=aV (N0 mC.o HS.o);by_cases q1:97<=(c.toNat:Int)
  .have q2:¬(c.toNat:Int)<=122:=by simp at b1;omega
   go_wp2_with fail;all_goals(go_ret;exact⟨cL HR.o.symm,rfl⟩)
  clear b1;go_wp2_with fail;all_goals(go_ret;exact⟨cL HR.o.symm,rfl⟩)
 have NN:((k:Int)==0)=false:=by simp;omega
 have K0:=aV h0;by_cases ho:(48<=(c.toNat:Int)/\(c.toNat:Int)<=57)\/(c.toNat:Int)=95
 .have HN:=aV (show cG c.toNat=true by simp only[cG,HS.o,Bool.false_or,Bool.or_eq_true,decide_eq_true_eq];omega);have po:Hd (tV s (k+1)):=HT.o.succ cE mC.o HN.o (λh=>absurd h K0.o);have q1:¬97<=(c.toNat:Int):=by omega
  by_cases h95:(c.toNat:Int)=95
  .have a1:48<=(c.toNat:Int):=by omega
   have a2:¬(c.toNat:Int)<=57:=by omega
   have a3:((c.toNat:Int)==95)=true:=by simpa using h95
   go_wp2;go_roundg(s.size-(k+1));exact⟨k+1,by omega,rfl,by go_num,rfl,po,rfl⟩;omega
  have a1:48<=(c.toNat:Int):=by omega
  have a2:(c.toNat:Int)<=57:=by omega
  go_wp2;go_roundg(s.size-(k+1));exact⟨k+1,by omega,rfl,by go_num,rfl,po,rfl⟩;omega
 have HN:=aV (show cG c.toNat=false by simp only[cG,HS.o,Bool.false_or,Bool.or_eq_false_iff,decide_eq_false_iff_not];omega);have HR:=aV (Sb mC.o HN.o);have a3:((c.toNat:Int)==95)=false:=by simp;omega
 by_cases q1:97<=(c.toNat:Int)
 .have q2:¬(c.toNat:Int)<=122:=by omega
  have a1:48<=(c.toNat:Int):=by omega
  have a2:¬(c.toNat:Int)<=57:=by omega
  go_wp2_with fail;all_goals(go_ret;exact⟨cL HR.o.symm,rfl⟩)
 by_cases a1:48<=(c.toNat:Int)
 .have a2:¬(c.toNat:Int)<=57:=by omega
  go_wp2_with fail;all_goals(go_ret;exact⟨cL HR.o.symm,rfl⟩)
 clear ho hl;go_wp2_with fail;all_goals(go_ret;exact⟨cL HR.o.symm,rfl⟩)
def jm(k:Int):Bool:=decide (1<=k/\k<=4)
def Gx(k:Int)(w:bq):xC 351 #[k] w (j7 (xB (jm k)) w):=by
 by_cases h1:1<=k
 .by_cases h2:k<=4
  .go_enter func351,ntmps351;go_wp2;go_ret;exact⟨cL (by simp[jm,h1,h2]),rfl⟩
  go_enter func351,ntmps351;go_wp2;go_ret;exact⟨cL (by simp[jm];omega),rfl⟩
 go_enter func351,ntmps351;go_wp2;go_ret;exact⟨cL (by simp[jm];omega),rfl⟩
def ku(b:Bool)(k:Int)(w:bq)(hb:jm k=b):xC 351 #[k] w (j7 b w):=by subst hb;exact Gx k w
def tW(t:cq)(w:bq):
 xC 306 #[.agg #[t.bg,t.of]] w (di (xB (bO t)) w):=by
 obtain⟨k,o⟩:=t;cases h1:jm k
 .have H1:=aV h1;clear h1;by_cases hk:k=5
  .have Yc:(k==5)=true:=by simpa using hk
   have HK:=aV hk;clear hk;cases h2:jm o
   .have H2:=aV h2;clear h2;go_enter func306,ntmps306;go_wp2_with(first|(go_at_call 351;((with_reducible refine(ku false k _ H1.o).mono ?_);rintro e w'⟨rfl,rfl⟩))|(go_at_call 351;((with_reducible refine(ku false o _ H2.o).mono ?_);rintro e w'⟨rfl,rfl⟩)));go_ret;refine⟨cL ?_,cU⟩;have h:=H2.o;have h3:=HK.o;subst h3;simp[bO,jm]at h⊢;exact h
   have H2:=aV h2;clear h2;go_enter func306,ntmps306;go_wp2_with(first|(go_at_call 351;((with_reducible refine(ku false k _ H1.o).mono ?_);rintro e w'⟨rfl,rfl⟩))|(go_at_call 351;((with_reducible refine(ku true o _ H2.o).mono ?_);rintro e w'⟨rfl,rfl⟩)));go_ret;refine⟨cL ?_,cU⟩;have h:=H2.o;have h3:=HK.o;subst h3;simp[bO,jm]at h⊢;exact h
  have Yc:(k==5)=false:=by simpa using hk
  have HK:=aV hk;clear hk;go_enter func306,ntmps306;go_wp2_with(go_at_call 351;((with_reducible refine(ku false k _ H1.o).mono ?_);rintro e w'⟨rfl,rfl⟩));go_ret;refine⟨cL ?_,cU⟩;have h:=H1.o;simp[bO,jm,HK.o]at h⊢;omega
 have H1:=aV h1;clear h1;have HK:=aV (show k≠5 by have:=H1.o;simp[jm]at this;omega);have Yc:(k==5)=false:=by simpa using HK.o
 by_cases ho:o=0
 .have ho5:(o==0)=true:=by simpa using ho
  have HO:=aV ho;clear ho;go_enter func306,ntmps306;go_wp2_with(go_at_call 351;((with_reducible refine(ku true k _ H1.o).mono ?_);rintro e w'⟨rfl,rfl⟩));go_ret;refine⟨cL ?_,cU⟩;have h:=H1.o;simp[bO,jm,HK.o,HO.o]at h⊢;exact h
 have ho5:(o==0)=false:=by simpa using ho
 have HO:=aV ho;clear ho;go_enter func306,ntmps306;go_wp2_with(go_at_call 351;((with_reducible refine(ku true k _ H1.o).mono ?_);rintro e w'⟨rfl,rfl⟩));go_ret;refine⟨cL ?_,cU⟩;simp[bO,HK.o,HO.o]
def BK {a b:Int}{c d:Bool}(h:a=b)(k:c=d):Ending.returned (.tuple #[a,c])=xR (.tuple #[b,d]):=by rw[h,k]
def BL(M:bY)(fv:bt)(w:bq)(c:bI)(aX:bS)(hs:aS M w fv c.aW)(at_:Int)(is:Bool)(HA:Hd ((if fieldAt c aX<0 then 0 else fieldAt c aX)=at_))(HI:Hd ((!decide (fieldAt c aX<0))=is)):
 xC 135 #[.agg #[c.aX,fv],aX] w (di (.tuple #[at_,is]) w):=by
 obtain⟨a,cY,rfl,dN,hm,hc⟩:=hs.bj;have HC:=aV hc;generalize hn:c.aW.length=n at*;have HN:=aV hn;delta xC;go_in;go_wp2;go_loopg [4,5,6]n(λg r0 r1 iv wr=>∃k:Nat,k<=n/\g=n-k/\iv=xI k/\r0=xI 0/\r1=xB false/\Hd (∀x∈c.aW.take k,dh x.aX aX=false)/\wr=w.alloc (xK #[c.aX,xL a n cY] 53));exact⟨0,ax _,rfl,rfl,rfl,rfl,by {have h:∀x∈c.aW.take 0,dh x.aX aX=false:=(by simp);exact h},rfl⟩;obtain⟨k,hk,rfl,rfl,rfl,rfl,HT,rfl⟩:=hrel;by_cases cE:k<n
 .obtain⟨b,off,rfl,hMb,hbl,hcell⟩:=HC.o (by omega);have⟨x,hx⟩:=fg c.aW k (by rw[HN.o];exact cE);obtain⟨cs,⟨rfl,hxs⟩,hcs⟩:=hcell k x hx;have q0:cC w b (off+k*4) x.aX:=hcs 0 _ rfl;have wI:b≠w:=by omega
  have HX:=aV hx;cases hq:dh x.aX aX
  .have hq':(x.aX.toList==aX.toList)=false:=hq;have HQ:=aV hq;go_wp2;go_roundg(n-(k+1));exact⟨k+1,by omega,rfl,by go_num,rfl,rfl,by {have h:∀y∈c.aW.take (k+1),dh y.aX aX=false:=λy hy=>by {rw[ao,HX.o]at hy;simp at hy;rcases hy with h|h;exact HT.o y h;subst h;exact HQ.o};exact h},rfl⟩;omega
  have hq':(x.aX.toList==aX.toList)=true:=hq;have HJ:Hd (fieldAt c aX=k):=idxOf_hit (p:=λf:bJ=>dh f.aX aX) HT.o HX.o hq;go_wp2;go_ret2;exact⟨BK (by rw[<-HA.o,HJ.o,if_neg (by omega)]) (by rw[<-HI.o,HJ.o,decide_eq_false (by omega)];rfl),cU⟩
 go_wp2;go_ret2;have h:=HT.o;rw[ak (by rw[HN.o];omega)]at h;have e0:fieldAt c aX= -1:=om (p:=λf:bJ=>dh f.aX aX) h;exact⟨BK (by rw[<-HA.o,e0];rfl) (by rw[<-HI.o,e0];rfl),cU⟩
def mF(M:bY)(fv:bt)(w:bq)(c:bI)(aX:bS)(at_:Int)(is:Bool)(h:aS M w fv c.aW)(ha:(if fieldAt c aX<0 then 0 else fieldAt c aX)=at_)(hi:(!decide (fieldAt c aX<0))=is):
 xC 135 #[.agg #[c.aX,fv],aX] w (di (.tuple #[at_,is]) w):=by
 exact BL M _ w c aX h at_ is ha hi
def iB(b:Bool)(s:bS)(w:bq)(hb:bF s=b)(hs:s.size<=maxLen):
 xC 305 #[s] w (j7 b w):=by subst hb;exact Df s w hs
def oU(b:Bool)(t:cq)(w:bq)(hb:bO t=b):
 xC 306 #[.agg #[t.bg,t.of]] w (di b w):=by subst hb;exact tW t w
variable{j:Nat}
def BM {α:Type}{p:α->Bool}{xs:List α}{y:α}(h:idxOf p xs=k)(hj:j<k)(hy:xs[j]? =some y):p y=false:=by
 unfold idxOf at h;cases hf:xs.findIdx? p with
 |none=>rw[hf]at h;simp at h
 |some i=>
  rw[hf]at h;have hi:i=k:=by simp at h;omega
  subst hi;have⟨_,_,h3⟩:=List.findIdx?_eq_some_iff_getElem.1 hf;have h4:=h3 j hj;rw[(ag.1 hy).2]at h4;simpa using h4
def lA(M:bY)(fv:bt)(w:bq)(c:bI)(hs:aS M w fv c.aW)(hnm:c.aX.size<=maxLen)(hr:cj c=true):
 xC 270 #[.agg #[c.aX,fv]] w (di true w):=by
 have⟨h1,h8,hok⟩:=(cw c).1 hr;obtain⟨a,cY,rfl,dN,hm,hc⟩:=hs.bj;have HC:=aV hc;have tM:=aV hnm;have H1:=aV h1;have Wl:=aV hok;generalize hn:c.aW.length=n at*;have HN:=aV hn;delta xC;go_in;go_wp2_with fail;refine ey (iB true _ _ H1.o tM.o) ?_;have KI:¬8<n:=by omega
 go_wp2;go_loopg [2,3,4,5]n(λg r iv _ _ wr=>∃k:Nat,k<=n/\g=n-k/\iv=xI k/\r=xB false/\Hd (bC w wr)/\ed wr w (xK #[c.aX,xL a n cY] 53));exact⟨0,ax _,rfl,rfl,rfl,by exact cU,az _ _⟩;obtain⟨k,hk,rfl,rfl,rfl,HB,uM⟩:=hrel;obtain⟨wo,rfl⟩:=dd (wr);have hsz:w.heap.size<wo:=(ab.1 uM).1;have⟨g0,g1⟩:=aZ uM;have Nn:=aV uM;by_cases cE:k<n;rotate_left
 .go_wp2;go_ret;exact⟨rfl,HB.o⟩
 obtain⟨b,off,rfl,hMb,hbl,hcell⟩:=HC.o (by omega);have⟨x,hx⟩:=fg c.aW k (by rw[HN.o];exact cE);have⟨cs,hrep,hcs⟩:=hcell k x hx;have hcl:∀(j:Nat)(u:bt),cs[j]? =some u->cC wo b (off+k*4+j) u:=λj u hu=>(HB.o.cell (p:=⟨b,off+k*4+j,none⟩) hbl).trans (hcs j u hu);obtain⟨rfl,hxs⟩:=hrep;have q0:cC wo b (off+k*4) x.aX:=hcl 0 _ rfl;have q1:=hcl 1 _ rfl;have q2:=hcl 2 _ rfl;have q3:=hcl 3 _ rfl;have wI:b≠w:=by omega
 have⟨hrf,hat⟩:=Wl.o k x (by omega) hx;have Wm:=hrf;unfold cT at Wm;simp only[aF]at Wm;obtain⟨⟨hx1,No⟩,hx3⟩:=Wm;have ZO:=aV hcell;have HX:=aV hx;have wH:=aV hxs;have uN:=aV hat;have gy:=aV hx1;have gz:=aV No;obtain⟨xn,⟨xk,xo⟩,xi⟩:=x;have Un:xi=false\/¬3<xk:=by simp at hx3;rcases hx3 with h|h;exact .inl h;exact .inr (by omega)
 go_wp2_with fail;refine ey (iB true _ _ gy.o wH.o) ?_;go_wp2_with fail;refine dx (oU true ⟨xk,xo⟩ _ gz.o) λw1 hb1=> ?_;have s1:w.heap.size<w1/\wo.heap.size<w1:=by have:=hb1.size;simp at this;omega
 obtain⟨s1,s2⟩:=s1;have qc7:Hd (ed w1 wo (xK #[xn,xk,xo,xi] 78)):=boxed hb1;have⟨p0,p1,p2,p3⟩:=aU qc7.o;have dp:Hd (ed w1 w (xK #[c.aX,xL (b,off) n cY] 53)):=((hb1.block w (by simp;omega)).trans ((aB wo _ w (by omega)).trans Nn.o));have⟨p4,p5⟩:=aZ dp.o;have cu:Hd (bC w w1):=HB.o.trans ((ct hb1).mono (by have:=HB.o.size;omega));rcases Un with rfl|Un;all_goals try cases xi
 all_goals
  go_wp2;go_loopg [2,5]k(λg r jv wr=>∃j:Nat,j<=k/\g=k-j/\jv=xI j/\r=xB false/\∃q,wr=w1.drewN q);exact⟨0,ax _,rfl,rfl,rfl,0,rfl⟩;obtain⟨j,hj,rfl,rfl,rfl,q,rfl⟩:=hrel;by_cases hjk:j<k
  .have⟨y,hy⟩:=fg c.aW j (by rw[HN.o];omega);obtain⟨cs,⟨rfl,_⟩,hcs⟩:=ZO.o j y hy;have y0:cC w1 b (off+j*4) y.aX:=(cu.o.cell (p:=⟨b,off+j*4,none⟩) hbl).trans (hcs 0 _ rfl);have hyq:(y.aX.toList==xn.toList)=false:=BM (p:=λf:bJ=>dh f.aX xn) uN.o hjk hy;have hjn:(j:Int)<n:=by omega
   go_wp2_with fail;go_quiet(fail);go_wp2;go_roundg(k-(j+1));exact⟨j+1,by omega,rfl,by go_num,rfl,_,rfl⟩;omega
  go_wp2;go_roundg(n-(k+1));exact⟨k+1,by omega,rfl,by go_num,rfl,by {have h:bC w (w1.drewN q):=cu.o.trans ⟨rfl,rfl,rfl,cN,λ_ _=>rfl⟩;exact h},dp.o⟩;omega
structure Tok where
 bg:Nat
 n:Nat
 s:List UInt8
 at_:Nat
 deriving DecidableEq
def oV(c:UInt8):Bool:=decide (48<=c)&&decide (c<=57)
def rj(c:UInt8):Bool:=decide (97<=c)&&decide (c<=122)
def er(c:UInt8):Bool:=rj c||oV c||c==95
def gu(c:UInt8):Bool:=c !=34&&c !=92
def rq(l:List UInt8):Bool:=decide (1<=l.length)&&decide (l.length<=20)&&(match l with|[]=>false|c::_=>rj c)&&l.all er
def kO(l:List UInt8):Bool:=decide (l.length<=60)&&l.all λc=>decide (32<=c)&&decide (c<127)
def r9:List UInt8->Bool
 |d::_=>oV d
 |[]=>false
def sd:List UInt8->Option ((Nat×Nat×List UInt8)×Nat)
 |[]=>none
 |c::r=>
  if oV c then(if r9 r then none else some ((1,c.toNat-48,[]),1))
  else if rj c then(if rq ((c::r).takeWhile er)then some ((3,0,(c::r).takeWhile er),((c::r).takeWhile er).length)else none)
  else if c=34 then(match r.drop (r.takeWhile gu).length with
   |34::_=>if kO (r.takeWhile gu)then some ((2,0,r.takeWhile gu),(r.takeWhile gu).length+2)else none
   |_=>none)
  else if [38,43,45,42,47,37,40,41,44,61].contains c then some ((4,0,[c]),1)
  else if c=62/\r.head?≠some 61 then some ((4,0,[c]),1)
  else none
def fN:Nat->List UInt8->Nat->Option (List Tok)
 |_,[],_=>some []
 |0,_::_,_=>none
 |k+1,c::r,i=>
  if c=32 then fN k r (i+1)
  else match sd (c::r)with
   |none=>none
   |some ((kd,n,s),size)=>if size=0 then none else(fN k ((c::r).drop size) (i+size)).map λts=>⟨kd,n,s,i⟩::ts
def dy(s:List UInt8):Nat:=
 if s=[42]\/s=[47]\/s=[37]then 4 else if s=[43]\/s=[45]then 3 else if s=[38]then 2 else if s=[61]\/s=[62]then 1 else 0
def eG(s:List UInt8):Nat:=
 if s=[108,101,110]\/s=[116,101,120,116]\/s=[110,117,109]then 1
 else if s=[108,101,102,116]\/s=[114,105,103,104,116]\/s=[102,114,111,109]\/s=[102,105,110,100]\/s=[109,105,110]\/s=[109,97,120]then 2
 else if s=[105,102]then 3 else 0
def bL(l:List UInt8):bS:=⟨l.toArray⟩
def eU(ts:List Tok)(s:List UInt8):Bool:=match ts with|t::_=>t.bg==4&&t.s==s|[]=>false
mutual
def ke:Nat->Nat->List Tok->Option (bG×List Tok)
 |0,_,_=>none
 |k+1,least,ts=>match kx k ts with
  |none=>none
  |some (e,r)=>oW k least e r
def oW:Nat->Nat->bG->List Tok->Option (bG×List Tok)
 |0,_,_,_=>none
 |k+1,least,e,ts=>match ts with
  |[]=>some (e,[])
  |t::r=>if t.bg=4/\least<=dy t.s then(match ke k (dy t.s+1) r with
    |none=>none
    |some (f,r')=>oW k least (.mk 4 0 (bL t.s) [e,f]) r')else some (e,t::r)
def kx:Nat->List Tok->Option (bG×List Tok)
 |0,_=>none
 |k+1,ts=>match ts with
  |[]=>none
  |t::r=>
   if t.bg=1 then some (.mk 1 t.n (bL []) [],r)
   else if t.bg=2 then some (.mk 2 0 (bL t.s) [],r)
   else if t.bg=3 then(if eG t.s>0/\eU r [40]=true then(match fS k (eG t.s) (r.drop 1)with
    |none=>none
    |some (l,r')=>some (.mk 6 0 (bL t.s) l,r'))else some (.mk 3 0 (bL t.s) [],r))
   else none
def fS:Nat->Nat->List Tok->Option (List bG×List Tok)
 |0,_,_=>none
 |k+1,n,ts=>match ke k 1 ts with
  |none=>none
  |some (e,r)=>if n=1 then(if eU r [41]then some ([e],r.drop 1)else none)
   else if n=0 then none
   else if eU r [44]then(match fS k (n-1) (r.drop 1)with
    |none=>none
    |some (l,r')=>some (e::l,r'))else none
end
def bG.bg:bG->Int| .mk k _ _ _=>k
def bG.str:bG->bS| .mk _ _ s _=>s
mutual
def fw:bG->Nat| .mk _ _ _ l=>eu l+1
def eu:List bG->Nat|[]=>0|e::r=>fw e+eu r
end
mutual
def lV:bG->Nat| .mk _ _ _ l=>wW l+1
def wW:List bG->Nat|[]=>0|e::r=>max (lV e) (wW r)
end
def wX(k n:Int)(s:List UInt8)(kids:Nat):Bool:=
 if k=1 then decide (0<=n)&&decide (n<=1000000000000000)&&s.isEmpty&&kids==0
 else decide (n=0)&&(if k=2 then kO s&&kids==0 else if k=3 then rq s&&kids==0 else if k=4 then decide (0<dy s)&&kids==2 else if k=6 then decide (0<eG s)&&kids==eG s else false)
mutual
def ju:bG->Bool| .mk k n s l=>wX k n s.data.toList l.length&&se l
def se:List bG->Bool|[]=>true|e::r=>ju e&&se r
end
def fj(l:List UInt8):Option bG:=match fN 200 l 0 with
 |none=>none
 |some ts=>match ke 60 1 ts with
  |some (e,[])=>if l.length<=200/\ju e=true/\lV e<=8/\fw e<=40 then some e else none
  |_=>none
def fE(s:List UInt8):bG:= .mk 3 0 (bL s) []
def nE(n:Int):bG:= .mk 1 n (bL []) []
def tE(s:List UInt8):bG:= .mk 2 0 (bL s) []
def JR(s:List UInt8)(a b:bG):bG:= .mk 4 0 (bL s) [a,b]
def nt(s:List UInt8)(l:List bG):bG:= .mk 6 0 (bL s) l
def tX(s:List UInt8):bG:=if s=[55]then nE 7 else if s=[34,97,32,98,34]then tE [97,32,98]else fE s
def pE(num txt:bG):List bG:=[nE 3,num,JR [45] (JR [42] num (nE 2)) (nE 1),nt [108,101,110] [txt],nt [105,102] [JR [62] num (nE 2),num,JR [45] (nE 0) num],
 nt [102,105,110,100] [tE [98],txt],JR [47] num num]
def nu(num txt:bG):List bG:=[tE [120],txt,JR [38] (JR [38] txt (tE [45])) txt,nt [116,101,120,116] [num],nt [108,101,102,116] [txt,nE 2],nt [102,114,111,109] [txt,nE 3],
 nt [105,102] [JR [61] num (nE 1),txt,tE [110,111]]]
def names9:List (List UInt8):=[[97],[98,50],[110,97,109,101],[110,101,120,116,95,111,110,101],[107,105,100,115],[120],[110,101,119,95,49],[109,111,114,101],[122,57],[110,101,120,116]]
def Va(num txt:List UInt8):List (List UInt8):=[[51],num,num++[32,42,32,50,32,45,32,49],[108,101,110,40]++txt++[41],
 [105,102,40]++num++[32,62,32,50,44,32]++num++[44,32,48,32,45,32]++num++[41],[102,105,110,100,40,34,98,34,44,32]++txt++[41],num++[32,47,32]++num]
def Gy(num txt:List UInt8):List (List UInt8):=[[34,120,34],txt,txt++[32,38,32,34,45,34,32,38,32]++txt,[116,101,120,116,40]++num++[41],
 [108,101,102,116,40]++txt++[44,32,50,41],[102,114,111,109,40]++txt++[44,32,51,41],[105,102,40]++num++[32,61,32,49,44,32]++txt++[44,32,34,110,111,34,41]]
mutual
def eqE:bG->bG->Bool| .mk k n s l, .mk k' n' s' l'=>decide (k=k')&&decide (n=n')&&(s.data.toList==s'.data.toList)&&K4 l l'
def K4:List bG->List bG->Bool|[],[]=>true|e::r,e'::r'=>eqE e e'&&K4 r r'|_,_=>false
end
mutual
theorem Al:∀{a b:bG},eqE a b=true->a=b
 | .mk k n s l, .mk k' n' s' l',h=>by
   simp only[eqE,aF,decide_eq_true_eq,beq_iff_eq]at h;obtain⟨⟨⟨rfl,rfl⟩,h3⟩,h4⟩:=h;have e1:s=s':=by cases s;cases s';simp at h3;simpa using h3
   have e2:=wY h4;rw[e1,e2]
theorem wY:∀{a b:List bG},K4 a b=true->a=b
 |[],[],_=>rfl
 |e::r,e'::r',h=>by
  simp only[K4,aF]at h;rw[Al h.1,wY h.2]
 |[],_::_,h=>by simp[K4]at h
 |_::_,[],h=>by simp[K4]at h
end
def Y0(s:List UInt8)(e:bG):Bool:=match fj s with|some f=>eqE f e|none=>false
def tY {s:List UInt8}{e:bG}(h:Y0 s e=true):fj s=some e:=by
 unfold Y0 at h;split at h
 .rename_i f hf;rw[hf,Al h]
 cases h
def N3:(([55]::names9).all λnum=>([34,97,32,98,34]::names9).all λtxt=>((Va num txt).zip (pE (tX num) (tX txt))).all λp=>Y0 p.1 p.2)=true:=by decide+kernel
def K6:(([55]::names9).all λnum=>([34,97,32,98,34]::names9).all λtxt=>((Gy num txt).zip (nu (tX num) (tX txt))).all λp=>Y0 p.1 p.2)=true:=by decide+kernel
def K7:(names9.all λs=>Y0 s (fE s))=true:=by decide+kernel
def K8(c:Int)(w:bq)(h0:0<=c)(h1:c<=255):
 xC 375 #[.int .u8 c] w (j7 (xB (decide (48<=c/\c<=57))) w):=by
 by_cases a1:48<=c
 .by_cases a2:c<=57
  .rw[decide_eq_true ⟨a1,a2⟩];go_enter func375,ntmps375;go_wp2;go_ret;exact⟨rfl,rfl⟩
  rw[decide_eq_false (λh=>a2 h.2)];go_enter func375,ntmps375;go_wp2;go_ret;exact⟨rfl,rfl⟩
 rw[decide_eq_false (λh=>a1 h.1)];go_enter func375,ntmps375;go_wp2;go_ret;exact⟨rfl,rfl⟩
def lW(b:Bool)(c:Int)(w:bq)(h0:0<=c)(h1:c<=255)(hb:decide (48<=c/\c<=57)=b):xC 375 #[.int .u8 c] w (j7 b w):=by subst hb;exact K8 c w h0 h1
def sf(b:Bool)(c:Int)(w:bq)(h0:0<=c)(h1:c<=255)(hb:cG c=b):xC 377 #[.int .u8 c] w (j7 b w):=by
 have hn:cG c=decide ((97<=c/\c<=122)\/(48<=c/\c<=57)\/c=95):=by
  unfold cG eP;rw[Bool.eq_iff_iff];simp;omega
 rw[hn]at hb;by_cases a1:97<=c
 .by_cases a2:c<=122
  .rw[decide_eq_true (.inl ⟨a1,a2⟩)]at hb;subst hb;go_enter func377,ntmps377;go_wp2;go_ret;exact⟨rfl,rfl⟩
  have a3:48<=c:=by omega
  have a4:¬c<=57:=by omega
  have a5:(c==95)=false:=by simp;omega
  rw[decide_eq_false (by omega)]at hb;subst hb;go_enter func377,ntmps377;go_wp2;go_ret;exact⟨rfl,rfl⟩
 by_cases a3:48<=c
 .by_cases a4:c<=57
  .rw[decide_eq_true (.inr (.inl ⟨a3,a4⟩))]at hb;subst hb;go_enter func377,ntmps377;go_wp2;go_ret;exact⟨rfl,rfl⟩
  by_cases a5:c=95
  .have a6:(c==95)=true:=by simpa using a5
   rw[decide_eq_true (.inr (.inr a5))]at hb;subst hb;go_enter func377,ntmps377;go_wp2;go_ret;exact⟨rfl,rfl⟩
  have a6:(c==95)=false:=by simpa using a5
  rw[decide_eq_false (by omega)]at hb;subst hb;go_enter func377,ntmps377;go_wp2;go_ret;exact⟨rfl,rfl⟩
 have a6:(c==95)=false:=by simp;omega
 rw[decide_eq_false (by omega)]at hb;subst hb;go_enter func377,ntmps377;go_wp2;go_ret;exact⟨rfl,rfl⟩
def eQ:List UInt8:=[38,43,45,42,47,37,40,41,44,61,62]
def oq(c:UInt8)(hc:c∈eQ)(w:bq):xC 378 #[xS ⟨#[c]⟩] w (j7 (xI (dy [c])) w):=by
 simp only[eQ,aO,List.not_mem_nil,or_false]at hc;rcases hc with rfl|rfl|rfl|rfl|rfl|rfl|rfl|rfl|rfl|rfl|rfl;all_goals
  delta xC;go_in;go_wp2;go_ret;exact⟨rfl,rfl⟩
def gD {l:List UInt8}(h:s.data.toList=l):s=⟨l.toArray⟩:=by cases s;simp at h;simp[<-h]
def ig {l:List UInt8}(h:¬s.data.toList=l):(s.toList==l)=false:=by rw[ByteArray.toList_eq];simpa using h
def N4(f:Nat)(hf:f=419\/f=415)(s:bS)(w:bq):xC f #[s] w (j7 (eG s.data.toList) w):=by
 by_cases hm:s.data.toList=[108,101,110]\/s.data.toList=[116,101,120,116]\/s.data.toList=[110,117,109]\/s.data.toList=[108,101,102,116]\/s.data.toList=[114,105,103,104,116]\/s.data.toList=[102,114,111,109]\/s.data.toList=[102,105,110,100]\/s.data.toList=[109,105,110]\/s.data.toList=[109,97,120]\/s.data.toList=[105,102]
 .rcases hf with rfl|rfl<;>rcases hm with h|h|h|h|h|h|h|h|h|h<;>(obtain rfl:=gD h;(first|(go_enter func419,ntmps419)|(go_enter func415,ntmps415));go_wp2;go_ret;exact⟨rfl,rfl⟩)
 simp only[not_or]at hm;obtain⟨h0,h1,h2,h3,h4,h5,h6,h7,h8,h9⟩:=hm;rw[show eG s.data.toList=0 by simp[eG,h0,h1,h2,h3,h4,h5,h6,h7,h8,h9]];replace h0:=ig h0;replace h1:=ig h1;replace h2:=ig h2;replace h3:=ig h3;replace h4:=ig h4;replace h5:=ig h5;replace h6:=ig h6;replace h7:=ig h7;replace h8:=ig h8;replace h9:=ig h9;rcases hf with rfl|rfl<;>((first|(go_enter func419,ntmps419)|(go_enter func415,ntmps415));go_wp2;go_ret;exact⟨rfl,rfl⟩)
def tZ(s:bS)(w:bq):xC 419 #[s] w (j7 (eG s.data.toList) w):=N4 _ (.inl rfl) s w
def Am(s:bS)(w:bq):xC 415 #[s] w (j7 (eG s.data.toList) w):=N4 _ (.inr rfl) s w
def dj {F:bY}(w:bq)(cs:Array bt)(t:TypeId)(size:Nat)(hs:cs.size=size)(hF:F w):du F (w.alloc (.cells cs t)) size (xL (w,0) 1 1) 1 cs.toList:=by
 refine⟨by simp[hs],some ⟨w,0,none⟩,1,rfl,cN,by unfold maxLen;omega,λ_=>⟨w,0,rfl,hF,by simp,λj u hu=> ?_⟩⟩;simp only[World.cell?,az,Nat.zero_add];simpa using hu
section
variable {P:Program}{α:Type} [bD α]
def oX {F:bY}(w:bq){o:Oper}{a:Act}{K:Act->bq->Prop}{Q:Exit->Act->bq->Prop}(s x:Operand)(t:TypeId)
 (ho:o.op= .call {callee:= .builtin .append,args:= #[s,x],argTypes:= #[t,t]})
 (base:Nat)(e:TypeId)(i:TypeInfo)(z:bt)(size bytes:Nat)(ht:P.underlying t=some (.slice e))(hi:P.info? e=some i)(hz:i.zero=some z)
 (hsize:i.size=size)(hby:i.bytes=bytes)(hzs:z.cells.size=size)(hsz:0<size)
 (v:bt)(n:Nat)(xs:List bt)(hs:a.eval s=v)(hown:w.ownsRow base e size v n xs)
 (sv:bt)(m:Nat)(news:List bt)(hx:a.eval x=sv)(hr:du F w size sv m news)(h1:∀u∈news,u.oneCell'=true)
 (h63:n+m<=maxLen)(hbytes:(n+m)*bytes<=140737488355328)(hbase:base<=w)
 (h:∀v' w',w'.ownsRow base e size v' (n+m) (xs++news)->w.grownBy w' v.ownBlock->(v'.ownBlock=v.ownBlock\/v'.ownBlock=some w.heap.size)->K (a.put o.dst v') w'):Oper.wp P o a w K Q:=by
 have⟨v',w',hrun,h2,h3,h4⟩:=iK (P:=P) w base t o.type e i z size bytes ht hi hz hsize hby hzs hsz v n xs hown sv m news hr h1 h63 hbytes hbase;unfold Oper.wp execOp;simp only[ho,resolve,invoke,builtin,Sem.run_bind,Sem.run_pure,Result.andThen_ok,List.map_toArray,List.map_cons,List.map_nil,hs,hx,hrun];exact h v' w' h2 h3 h4
end
section
variable {P:Program}{α:Type} [bD α]{o:Oper}{a:Act}{w:bq}{ops:Array Oper}{rest:List Oper}{K:Act->bq->Prop}{Q:Exit->Act->bq->Prop}{E:Prop}(hgd:o.guard=none)(s x:Operand)(t:TypeId)
 (ho:o.op= .call {callee:= .builtin .append,args:= #[s,x],argTypes:= #[t,t]})
 (M:bY)(base:Nat)(e:TypeId)(i:TypeInfo)(z:bt)(bytes:Nat)(ht:P.underlying t=some (.slice e))(hi:P.info? e=some i)(hz:i.zero=some z)
 (hsize:i.size=bD.size α)(hby:i.bytes=bytes)(hzs:z.cells.size=bD.size α)(hsz:0<bD.size α)
 (v:bt)(xs:List α)(hs:a.eval s=v)(hacc:bP M base e w v xs)
include hgd ho ht hi hz hsize hby hzs hsz hs hacc
section
variable(F:bY)(sv:bt)(cs:List bt)(y:α)(hx:a.eval x=sv)(hr:du F w (bD.size α) sv 1 cs)(hy:bD.rep (cz v M) w cs y)
 (h63:xs.length+1<=maxLen)(hbytes:(xs.length+1)*bytes<=140737488355328)(hbase:base<=w.heap.size)
include hx hr hy h63 hbytes hbase
def cA
 (h:∀a' c' w',bP M base e w' (xL a' (xs.length+1) c') (xs++[y])->Ev (cz v M) w (cz (xL a' (xs.length+1) c') M) w'->Below base w w'->wpList P ops Q rest (a.put o.dst (xL a' (xs.length+1) c')) w'):wpList P ops Q (o::rest) a w:=by
 obtain⟨css,h1,h2,h3⟩:=hacc;refine iV w hgd s x t ho base e i z (bD.size α) bytes ht hi hz hsize hby hzs hsz v xs.length css.flatten hs h1 sv 1 cs hx hr (bD.flat hy) h63 hbytes hbase λa' c' w' k1 k2 k3=> ?_;exact h a' c' w' (bP.snoc h2 h3 hy k1 k2 k3) (Ev.grown k2 k3) ((ay _ w).grown k2 hbase λk hk=>(h1.lt k hk).1)
def eA
 (h:∀a' c' w',bP M base e w' (xL a' (xs.length+1) c') (xs++[y])->Ev (cz v M) w (cz (xL a' (xs.length+1) c') M) w'->Below base w w'->K (a.put o.dst (xL a' (xs.length+1) c')) w'):
 if Region.wanted o (yielded ops a.tmps)=true then Oper.wp P o a w K Q else E:=by
 have hw:Region.wanted o (yielded ops a.tmps)=true:=by simp[Region.wanted,hgd]
 rw[if_pos hw];obtain⟨css,h1,h2,h3⟩:=hacc;refine oX w s x t ho base e i z (bD.size α) bytes ht hi hz hsize hby hzs hsz v xs.length css.flatten hs h1 sv 1 cs hx hr (bD.flat hy) h63 hbytes hbase λv' w' k1 k2 k3=> ?_;obtain⟨a',c',rfl,_,_⟩:=ic k1;exact h a' c' w' (bP.snoc h2 h3 hy k1 k2 k3) (Ev.grown k2 k3) ((ay _ w).grown k2 hbase λk hk=>(h1.lt k hk).1)
end
variable(sv:bt)(ys:List α)(hx:a.eval x=sv)(hr:aS (cz v M) w sv ys)
 (h63:xs.length+ys.length<=maxLen)(hbytes:(xs.length+ys.length)*bytes<=140737488355328)(hbase:base<=w.heap.size)
include hx hr h63 hbytes hbase
def dM
 (h:∀a' c' w',bP M base e w' (xL a' (xs.length+ys.length) c') (xs++ys)->Ev (cz v M) w (cz (xL a' (xs.length+ys.length) c') M) w'->Below base w w'->wpList P ops Q rest (a.put o.dst (xL a' (xs.length+ys.length) c')) w'):wpList P ops Q (o::rest) a w:=by
 obtain⟨css,h1,h2,h3⟩:=hacc;obtain⟨Nl,k1,k2,k3⟩:=hr;have FM:∀u∈Nl.flatten,u.oneCell'=true:=λu hu=>by
  have⟨cs,hcs,hu⟩:=List.mem_flatten.1 hu;have⟨i,hi⟩:=aP hcs;have wJ:i<ys.length:=by rw[<-k2];exact(ag.1 hi).1
  exact bD.flat (k3 i cs _ hi (af wJ)) u hu
 refine iV w hgd s x t ho base e i z (bD.size α) bytes ht hi hz hsize hby hzs hsz v xs.length css.flatten hs h1 sv ys.length Nl.flatten hx k1 FM h63 hbytes hbase λa' c' w' j1 j2 j3=> ?_;exact h a' c' w' (bP.app h2 h3 k2 k3 j1 j2 j3) (Ev.grown j2 j3) ((ay _ w).grown j2 hbase λk hk=>(h1.lt k hk).1)
def ub
 (h:∀a' c' w',bP M base e w' (xL a' (xs.length+ys.length) c') (xs++ys)->Ev (cz v M) w (cz (xL a' (xs.length+ys.length) c') M) w'->Below base w w'->K (a.put o.dst (xL a' (xs.length+ys.length) c')) w'):
 if Region.wanted o (yielded ops a.tmps)=true then Oper.wp P o a w K Q else E:=by
 have hw:Region.wanted o (yielded ops a.tmps)=true:=by simp[Region.wanted,hgd]
 rw[if_pos hw];obtain⟨css,h1,h2,h3⟩:=hacc;obtain⟨Nl,k1,k2,k3⟩:=hr;have FM:∀u∈Nl.flatten,u.oneCell'=true:=λu hu=>by
  have⟨cs,hcs,hu⟩:=List.mem_flatten.1 hu;have⟨i,hi⟩:=aP hcs;have wJ:i<ys.length:=by rw[<-k2];exact(ag.1 hi).1
  exact bD.flat (k3 i cs _ hi (af wJ)) u hu
 refine oX w s x t ho base e i z (bD.size α) bytes ht hi hz hsize hby hzs hsz v xs.length css.flatten hs h1 sv ys.length Nl.flatten hx k1 FM h63 hbytes hbase λv' w' j1 j2 j3=> ?_;obtain⟨a',c',rfl,_,_⟩:=ic j1;exact h a' c' w' (bP.app h2 h3 k2 k3 j1 j2 j3) (Ev.grown j2 j3) ((ay _ w).grown j2 hbase λk hk=>(h1.lt k hk).1)
end
def I6(x:Int):Prop:= -9223372036854775808<=x/\x<=9223372036854775807
structure ky where
 aX:Int
 bg:Int
 of:Int
 indexed:Bool
structure ud where
 aX:Int
 aW:List ky
structure gW where
 bg:Int
 field:Int
 aX:Int
 more:Int
 type:cq
 dO:Int
 cW:Int
structure iZ where
 dz:ud
 bo:List gW
structure kG where
 dz:Int
 dB:Int
 bR:List Int
 skip:Int
structure kP where
 aX:Int
 id:Int
instance:bD ky where
 size:=4
 rep:=λ_ _ cs x=>cs=[xI x.aX,xI x.bg,xI x.of,xB x.indexed]/\I6 x.aX/\I6 x.bg/\I6 x.of
 len:=λh=>by rw[h.1];rfl
 flat:=λh u hu=>by rw[h.1]at hu;simp at hu;rcases hu with rfl|rfl|rfl|rfl<;>rfl
 ev:=λh _=>h
instance:bD gW where
 size:=8
 rep:=λ_ _ cs x=>cs=[xI x.bg,xI x.field,xI x.aX,xI x.more,xI x.type.bg,xI x.type.of,xI x.dO,xI x.cW]/\I6 x.bg/\I6 x.field/\I6 x.aX/\I6 x.more/\I6 x.type.bg/\I6 x.type.of/\I6 x.dO/\I6 x.cW
 len:=λh=>by rw[h.1];rfl
 flat:=λh u hu=>by rw[h.1]at hu;simp at hu;rcases hu with rfl|rfl|rfl|rfl|rfl|rfl|rfl|rfl<;>rfl
 ev:=λh _=>h
instance:bD kP where
 size:=2
 rep:=λ_ _ cs x=>cs=[xI x.aX,xI x.id]/\I6 x.aX/\I6 x.id
 len:=λh=>by rw[h.1];rfl
 flat:=λh u hu=>by rw[h.1]at hu;simp at hu;rcases hu with rfl|rfl<;>rfl
 ev:=λh _=>h
instance:bD ud where
 size:=2
 rep:=λM w cs x=>∃fv,cs=[xI x.aX,fv]/\aS M w fv x.aW/\I6 x.aX
 len:=λ⟨_,h,_⟩=>by rw[h];rfl
 flat:=λ⟨_,h,h1,_⟩u hu=>by rw[h]at hu;simp at hu;rcases hu with rfl|rfl;rfl;exact eL h1
 ev:=λ⟨fv,h,h1,h2⟩k=>⟨fv,h,h1.ev k,h2⟩
instance:bD iZ where
 size:=3
 rep:=λM w cs x=>∃fv cv,cs=[xI x.dz.aX,fv,cv]/\aS M w fv x.dz.aW/\aS M w cv x.bo/\I6 x.dz.aX
 len:=λ⟨_,_,h,_⟩=>by rw[h];rfl
 flat:=λ⟨_,_,h,h1,h2,_⟩u hu=>by rw[h]at hu;simp at hu;rcases hu with rfl|rfl|rfl;rfl;exact eL h1;exact eL h2
 ev:=λ⟨fv,cv,h,h1,h2,h3⟩k=>⟨fv,cv,h,h1.ev k,h2.ev k,h3⟩
instance:bD kG where
 size:=4
 rep:=λM w cs x=>∃vv,cs=[xI x.dz,xI x.dB,vv,xI x.skip]/\aS M w vv x.bR/\I6 x.dz/\I6 x.dB/\I6 x.skip/\∀y∈x.bR,I6 y
 len:=λ⟨_,h,_⟩=>by rw[h];rfl
 flat:=λ⟨_,h,h1,_⟩u hu=>by rw[h]at hu;simp at hu;rcases hu with rfl|rfl|rfl|rfl;rfl;rfl;exact eL h1;rfl
 ev:=λ⟨vv,h,h1,h2⟩k=>⟨vv,h,h1.ev k,h2⟩
variable{b:Nat}
def cell_of_heap {cs:Array bt}{t:TypeId}{fr:Nat×Nat}(h:cX W b (.cells cs t fr)){i:Nat}{v:bt}(hv:cs[i]? =some v):cC W b i v:=by
 simp[World.cell?,h,hv]
def aY {cs:Array bt}{t:TypeId}(h:cX W b (.cells cs t (0,0)))(i:Nat):W.frozen? (b,i)=false:=by
 simp[World.frozen?,h]
variable{w':bq}
def Ev.setCell {M:bY}{w:bq}(h:Ev M w N w'){p:Addr}(hp:M p.block\/w<=p.block)(u:bt):Ev M w N (w'.setCell p u):=⟨h.only.setCell hp u,h.sub⟩
def Ev.drew {M:bY}{w:bq}(h:Ev M w N w'):Ev M w N w'.drew:=⟨h.only.drew,h.sub⟩
def Ev.alloc {M:bY}{w:bq}(h:Ev M w N w')(o:Obj):Ev M w N (w'.alloc o):=⟨h.only.alloc o,h.sub⟩
def bP.ue {α:Type} [bD α]{M:bY}{base:Nat}{e:TypeId}{w:bq}{v:bt}{xs:List α}(h:bP M base e w v xs){p:Addr}(hp:M p.block)(hb:p.block<base)(u:bt):bP M base e (w.setCell p u) v xs:=by
 obtain⟨css,h1,h2,h3⟩:=h;exact⟨css,ownsRow_setCell_below h1 hb u,h2,λi cs x hc hx=>bD.ev (h3 i cs x hc hx) ((Ev.refl _ w).setCell (.inl (.inl hp)) u)⟩
variable{o0:Obj}
def sj {w:bq}(hW:W=w.alloc o0):ed W w o0/\W.heap.size=[w]/\bC w W:=by
 subst hW;exact⟨az w o0,by simp,cU⟩
variable{o1:Obj}
def kQ {w:bq}(hW:W=(w.alloc o0).alloc o1):ed W w o0/\cX W [w] o1/\W.heap.size=↑w+2/\bC w W:=by
 subst hW;have⟨h0,hz,hb⟩:=sj (w:=w) (o0:=o0) rfl;exact⟨(aB _ _ _ (by omega)).trans h0,by rw[<-hz];exact az _ _,by rw[World.size_alloc,hz],hb.alloc hb.size _⟩
variable{o2:Obj}
def Dh {w:bq}(hW:W=((w.alloc o0).alloc o1).alloc o2):ed W w o0/\cX W [w] o1/\cX W (↑w+2) o2/\W.heap.size=↑w+3/\bC w W:=by
 subst hW;have⟨h0,h1,hz,hb⟩:=kQ (w:=w) (o0:=o0) (o1:=o1) rfl;exact⟨(aB _ _ _ (by omega)).trans h0,(aB _ _ _ (by omega)).trans h1,by rw[<-hz];exact az _ _,by rw[World.size_alloc,hz],hb.alloc hb.size _⟩
variable{o3:Obj}
def T4 {w:bq}(hW:W=(((w.alloc o0).alloc o1).alloc o2).alloc o3):ed W w o0/\cX W [w] o1/\cX W (↑w+2) o2/\cX W (↑w+3) o3/\W.heap.size=↑w+4/\bC w W:=by
 subst hW;have⟨h0,h1,h2,hz,hb⟩:=Dh (w:=w) (o0:=o0) (o1:=o1) (o2:=o2) rfl;exact⟨(aB _ _ _ (by omega)).trans h0,(aB _ _ _ (by omega)).trans h1,(aB _ _ _ (by omega)).trans h2,by rw[<-hz];exact az _ _,by rw[World.size_alloc,hz],hb.alloc hb.size _⟩
def bW(c:Int)(n:Nat):Nat:=((if c<0 then-(c+1)else c)%n).toNat
def dJ(c:Int)(n:Nat)(h:0<n):bW c n<n:=by
 unfold bW;have h1:=Int.emod_lt_of_pos (if c<0 then-(c+1)else c) (b:=n) (by omega);have h2:=Int.emod_nonneg (if c<0 then-(c+1)else c) (b:=n) (by omega);omega
def gi(c:Int)(n:Int)(w:bq)(hc:I6 c)(hn:1<=n)(hn2:n<=1000000):
 xC 134 #[c,n] w (j7 (bW c n.toNat) w):=by
 obtain⟨hc1,hc2⟩:=hc;have e0:((bW c n.toNat:Nat):Int)=(if c<0 then-(c+1)else c)%n:=by
  unfold bW;rw[Int.toNat_of_nonneg (a:=n) (by omega)];exact Int.toNat_of_nonneg (Int.emod_nonneg _ (by omega))
 by_cases h:c<0
 .rw[if_pos h]at e0;have E:=aV e0;clear e0;go_enter func134,ntmps134;go_wp2;go_ret;refine⟨jN ?_,rfl⟩;rw[E.o,<-Int.neg_tmod,Int.tmod_eq_emod_of_nonneg (by omega)]
 rw[if_neg h]at e0;have E:=aV e0;clear e0;go_enter func134,ntmps134;go_wp2;go_ret;exact⟨jN E.o.symm,rfl⟩
def jw(c:Int)(n:Int)(w:bq)(hc:I6 c)(hn:1<=n)(hn2:n<=1000000):
 xC 202 #[c,n] w (j7 (bW c n.toNat) w):=by
 obtain⟨hc1,hc2⟩:=hc;have e0:((bW c n.toNat:Nat):Int)=(if c<0 then-(c+1)else c)%n:=by
  unfold bW;rw[Int.toNat_of_nonneg (a:=n) (by omega)];exact Int.toNat_of_nonneg (Int.emod_nonneg _ (by omega))
 by_cases h:c<0
 .rw[if_pos h]at e0;have E:=aV e0;clear e0;go_enter func202,ntmps202;go_wp2;go_ret;refine⟨jN ?_,rfl⟩;rw[E.o,<-Int.neg_tmod,Int.tmod_eq_emod_of_nonneg (by omega)]
 rw[if_neg h]at e0;have E:=aV e0;clear e0;go_enter func202,ntmps202;go_wp2;go_ret;exact⟨jN E.o.symm,rfl⟩
def lX(c:Int)(n:Int)(w:bq)(hc:I6 c)(hn:1<=n)(hn2:n<=1000000):
 xC 20 #[c,n] w (j7 (bW c n.toNat) w):=by
 obtain⟨hc1,hc2⟩:=hc;have e0:((bW c n.toNat:Nat):Int)=(if c<0 then-(c+1)else c)%n:=by
  unfold bW;rw[Int.toNat_of_nonneg (a:=n) (by omega)];exact Int.toNat_of_nonneg (Int.emod_nonneg _ (by omega))
 by_cases h:c<0
 .rw[if_pos h]at e0;have E:=aV e0;clear e0;go_enter func20,ntmps20;go_wp2;go_ret;refine⟨jN ?_,rfl⟩;rw[E.o,<-Int.neg_tmod,Int.tmod_eq_emod_of_nonneg (by omega)]
 rw[if_neg h]at e0;have E:=aV e0;clear e0;go_enter func20,ntmps20;go_wp2;go_ret;exact⟨jN E.o.symm,rfl⟩
def mS:List bS:=[⟨#[97]⟩,⟨#[98,50]⟩,⟨#[110,97,109,101]⟩,⟨#[110,101,120,116,95,111,110,101]⟩,⟨#[107,105,100,115]⟩,⟨#[120]⟩]
def mH:List bS:=[⟨#[110,111,100,101]⟩,⟨#[105,116,101,109]⟩,⟨#[117,115,101,114]⟩,⟨#[112,97,103,101,95,49]⟩,⟨#[108,101,97,102]⟩,⟨#[113]⟩]
def T6(k:Nat):bS:=mS.getD k ()
def Oe(k:Nat):bS:=mH.getD k ()
def Vd(h:k<6):(#[xS ⟨#[97]⟩,xS ⟨#[98,50]⟩,xS ⟨#[110,97,109,101]⟩,xS ⟨#[110,101,120,116,95,111,110,101]⟩,xS ⟨#[107,105,100,115]⟩,xS ⟨#[120]⟩]:Array bt)[k]? =some (xS (T6 k)):=by
 rcases k with _|_|_|_|_|_|k<;>first|rfl|omega
def Sj(h:k<6):(#[xS ⟨#[110,111,100,101]⟩,xS ⟨#[105,116,101,109]⟩,xS ⟨#[117,115,101,114]⟩,xS ⟨#[112,97,103,101,95,49]⟩,xS ⟨#[108,101,97,102]⟩,xS ⟨#[113]⟩]:Array bt)[k]? =some (xS (Oe k)):=by
 rcases k with _|_|_|_|_|_|k<;>first|rfl|omega
def Sk(h:k<6):T6 k∈mS:=by
 rcases k with _|_|_|_|_|_|k<;>first|(simp[T6,mS];done)|omega
def Of(h:k<6):Oe k∈mH:=by
 rcases k with _|_|_|_|_|_|k<;>first|(simp[Oe,mH];done)|omega
def sx:∀s∈mS,bF s=true/\s.size<=20:=by decide
def ja:∀s∈mH,bF s=true/\s.size<=20:=by decide
def dD(h:s.size<=20):s.size<=maxLen:=by unfold maxLen;omega
def jO(c:bI):Prop:=cj c=true/\c.aW.length<=6/\(∀f∈c.aW,f.aX∈mS)/\c.aX∈mH
def iL(fs:List bJ):Prop:=(∀f∈fs,f.aX∈mS/\cT f=true)/\∀(j:Nat)(f:bJ),fs[j]? =some f->idxOf (λg:bJ=>dh g.aX f.aX) fs=j
def uX {α:Type}{p:α->Bool}{xs ys:List α}(h:idxOf p xs=j):idxOf p (xs++ys)=j:=by
 unfold idxOf at*;cases hf:xs.findIdx? p with
 |none=>rw[hf]at h;simp at h
 |some i=>rw[hf]at h;rw[List.findIdx?_append,hf];simpa using h
def iL.snoc {fs:List bJ}(h:iL fs)(hn:f.aX∈mS)(hr:cT f=true)(hm:idxOf (λg:bJ=>dh g.aX f.aX) fs= -1):iL (fs++[f]):=by
 refine⟨λg hg=> ?_,λj g hg=> ?_⟩
 .rcases aI.1 hg with h1|h1
  .exact h.1 g h1
  simp at h1;subst h1;exact⟨hn,hr⟩
 by_cases hj:j<fs.length
 .rw[aq hj]at hg;exact uX (h.2 j g hg)
 rw[au (by omega)]at hg;have h0:j-fs.length=0:=by
  cases hq:j-fs.length with
  |zero=>rfl
  |succ q=>rw[hq]at hg;simp at hg
 rw[h0]at hg;simp at hg;subst hg;unfold idxOf at hm⊢;cases hf:fs.findIdx? (λg=>dh g.aX f.aX)with
 |some i=>rw[hf]at hm;simp at hm
 |none=>
  rw[List.findIdx?_append,hf];have:dh f.aX f.aX=true:=by simp[dh]
  simp[this];omega
variable{nm:bS}
def iL.dz {fs:List bJ}(h:iL fs)(hl:fs.length<=6)(hn:nm∈mH):jO ⟨nm,fs⟩:=
 ⟨(cw _).2 ⟨(ja nm hn).1,aH hl (by omega),λj f _ hf=>⟨(h.1 f (ai hf)).2,h.2 j f hf⟩⟩,hl,λf hf=>(h.1 f hf).1,hn⟩
def sy(r:ky):bJ:=⟨T6 (bW r.aX 6),⟨1+(bW r.bg 5:Int),if bW r.bg 5=4 then 1+(bW r.of 4:Int)else 0⟩,r.indexed&&decide (1+(bW r.bg 5:Int)<=3)⟩
def xw(r:ky):cT (sy r)=true/\(sy r).aX∈mS:=by
 have h1:=Sk (dJ r.aX 6 (by omega));have h2:=dJ r.bg 5 (by omega);have h3:=dJ r.of 4 (by omega);refine⟨?_,h1⟩;have e1:=(sx _ h1).1;unfold cT sy;simp only[e1,Bool.true_and,aF];constructor
 .unfold bO;by_cases h4:bW r.bg 5=4
  .simp[h4];omega
  simp only[h4,if_false];rw[if_neg (by omega)];simp;omega
 cases r.indexed<;>simp
def jx:(Tryz.prog.info? 78).map (λi=>(i.zero,i.size,i.bytes))=some (some (.agg #["",xI 0,xI 0,false]),4,40):=by kernel_rfl
def Dp(M:bY)(fv:bt)(w:bq)(fs:List bJ)(nm aX:bS)(hs:aS M w fv fs)(h:idxOf (λg:bJ=>dh g.aX aX) fs<0):
 xC 135 #[.agg #[nm,fv],aX] w (di (.tuple #[xI 0,false]) w):=
 mF M fv w ⟨nm,fs⟩ aX 0 false hs (if_pos h) (by have h':fieldAt ⟨nm,fs⟩ aX<0:=h;rw[decide_eq_true h'];rfl)
def BP(M:bY)(fv:bt)(w:bq)(fs:List bJ)(nm aX:bS)(hs:aS M w fv fs)(h:¬idxOf (λg:bJ=>dh g.aX aX) fs<0):
 xC 135 #[.agg #[nm,fv],aX] w (di (.tuple #[xI (idxOf (λg:bJ=>dh g.aX aX) fs),true]) w):=
 mF M fv w ⟨nm,fs⟩ aX _ true hs (if_neg h) (by have h':¬fieldAt ⟨nm,fs⟩ aX<0:=h;rw[decide_eq_false h'];rfl)
def JY(x:List UInt8):Prop:=(∃c,x=[c]/\32<=c/\c<127)\/x=[195,169]
def jI(l:List UInt8):Prop:=∃ss:List (List UInt8),l=ss.flatten/\∀x∈ss,JY x
def il(s:bS):Prop:=s.size<=60/\jI s.data.toList
def mz:bS:=⟨#[]⟩
def mA(k br:Int)(v:bE):Prop:=
 (k=1/\∃n,v= .mk 1 n mz []/\-1000000000000000<=n/\n<=1000000000000000)\/(k=2/\∃s,v= .mk 2 0 s []/\il s)\/
 ((k=3\/k=4)/\(v= .mk 0 0 mz []\/∃n,v= .mk k n mz []/\1<=n/\n<=br))
def eF(t:cq)(br:Int)(v:bE):Prop:=
 (t.bg=5/\∃l,v= .mk 5 0 mz l/\l.length<=12/\∀x∈l,mA t.of br x)\/(t.bg≠5/\mA t.bg br v)
def Ve:List bS:=[(),⟨#[97]⟩,⟨#[98,99]⟩,⟨#[195,169,116,195,169]⟩,⟨#[97,32,98]⟩,⟨#[122,122,32,116,111,112]⟩,⟨#[48]⟩,⟨#[45,55]⟩]
def Y2(k:Nat):bS:=Ve.getD k mz
def Vf(h:k<8):(#["",xS ⟨#[97]⟩,xS ⟨#[98,99]⟩,xS ⟨#[195,169,116,195,169]⟩,xS ⟨#[97,32,98]⟩,xS ⟨#[122,122,32,116,111,112]⟩,xS ⟨#[48]⟩,xS ⟨#[45,55]⟩]:Array bt)[k]? =some (xS (Y2 k)):=by
 rcases k with _|_|_|_|_|_|_|_|k<;>first|rfl|omega
def GL(x:List UInt8):Bool:=(match x with|[c]=>decide (32<=c)&&decide (c<127)|_=>false)||x==[195,169]
def Og {x:List UInt8}(h:GL x=true):JY x:=by
 unfold GL at h;simp only[Bool.or_eq_true,beq_iff_eq]at h;rcases h with h|h
 .split at h
  .simp at h;exact .inl ⟨_,rfl,h.1,h.2⟩
  cases h
 exact .inr h
def jP(ss:List (List UInt8))(h:ss.all GL=true){l:List UInt8}(hl:l=ss.flatten):jI l:=⟨ss,hl,λx hx=>Og (List.all_eq_true.1 h x hx)⟩
def Oh(h:k<8):il (Y2 k):=by
 rcases k with _|_|_|_|_|_|_|_|k
 .exact⟨by decide,jP [] (by decide) (by decide)⟩
 .exact⟨by decide,jP [[97]] (by decide) (by decide)⟩
 .exact⟨by decide,jP [[98],[99]] (by decide) (by decide)⟩
 .exact⟨by decide,jP [[195,169],[116],[195,169]] (by decide) (by decide)⟩
 .exact⟨by decide,jP [[97],[32],[98]] (by decide) (by decide)⟩
 .exact⟨by decide,jP [[122],[122],[32],[116],[111],[112]] (by decide) (by decide)⟩
 .exact⟨by decide,jP [[48]] (by decide) (by decide)⟩
 .exact⟨by decide,jP [[45],[55]] (by decide) (by decide)⟩
 omega
def iM:mz.size<=maxLen:=by unfold maxLen;decide
def pH(k n:Int)(s:bS)(hs:s.size<=maxLen):dq M w (.agg #[k,n,s,()]) (bE.mk k n s []):=
 ⟨_,rfl,fZ.iff.2 ⟨_,rfl,aS.nil _ _,hs⟩⟩
def iD:(Tryz.prog.info? 50).map (λi=>(i.zero,i.size,i.bytes))=some (some (.agg jl),4,56):=by kernel_rfl
def Ap(M:bY)(w:bq)(k of n br:Int)(hk1:1<=k)(hk2:k<=4)(hn:I6 n)(qJ:br<=1000):
 xG 139 #[.agg #[k,of],n,br] w λv w'=>∃x,mA k br x/\dq M w' v x:=by
 have HI:=aV hn;clear hn;have Yg:=dJ n 8 (by omega);have qgd:=dJ n 41 (by omega);have Z9:k=1\/k=2\/(k=3\/k=4):=by omega
 rcases Z9 with rfl|rfl|hk
 .go_enter func139,ntmps139;go_wp2_with fail;refine ey (gi _ _ _ HI.o (by omega) (by omega)) ?_;go_wp2_with fail;refine ah (v:= .agg #[xI 1,xI ((bW n 41:Int)-20),"",()]) (by simp[results,results139,go_sem]) rfl ⟨_,rfl,⟨.mk 1 ((bW n 41:Int)-20) mz [], .inl ⟨rfl,_,rfl,by omega,by omega⟩,pH _ _ _ iM⟩,?_⟩;exact(cU.alloc (by simp) _).alloc (by simp;omega) _
 .go_enter func139,ntmps139;go_wp2_with fail;refine ey (gi _ _ _ HI.o (by omega) (by omega)) ?_;obtain⟨W,hW⟩:∃W:bq,W=((w.alloc (xK #[xI 2,of] 55)).alloc (xK jl 50)).alloc
   (xK #["",xS ⟨#[97]⟩,xS ⟨#[98,99]⟩,xS ⟨#[195,169,116,195,169]⟩,xS ⟨#[97,32,98]⟩,xS ⟨#[122,122,32,116,111,112]⟩,xS ⟨#[48]⟩,xS ⟨#[45,55]⟩] 9):=⟨_,rfl⟩;rw[<-hW];have⟨b0,b1,b2,hz,hb⟩:=Dh hW;clear hW;have hcn:cC W [w,w] (bW n 8) (xS (Y2 (bW n 8))):=cell_of_heap b2 (Vf Yg);have⟨q0,q1,q2,q3⟩:=aU b1;have⟨f0,f1,f2,f3⟩:=iS b1;have HZ:=aV hz;clear hz;have HB:=aV hb;clear hb;clear b0 b1 b2;go_wp2_with fail;refine ah (v:= .agg #[xI 2,xI 0,xS (Y2 (bW n 8)),()]) (by simp[results,results139,go_sem,q0,q1,q2,q3]) rfl ⟨_,rfl,⟨.mk 2 0 (Y2 (bW n 8)) [], .inr (.inl ⟨rfl,_,rfl,Oh Yg⟩),pH _ _ _ (by have:=(Oh Yg).1;unfold maxLen;omega)⟩,?_⟩;exact(((HB.o.setCell (by simp) _).setCell (by simp) _).setCell (by simp) _).setCell (by simp) _
 have e1:(k==1)=false:=by simp;omega
 have e2:(k==2)=false:=by simp;omega
 have HK:=aV hk;have NIL:Hd (mA k br (.mk 0 0 mz [])):= .inr (.inr ⟨hk, .inl rfl⟩);have WB:(k==3)=true\/((k==3)=false/\(k==4)=true):=by rcases hk with h|h;exact .inl (by simp;omega);exact .inr ⟨by simp;omega,by simp;omega⟩
 clear hk;by_cases qfv:br<1
 .rcases WB with e3|⟨e3,e4⟩;all_goals
   go_enter func139,ntmps139;go_wp2_with fail;refine ah (v:= .agg jl) (by simp[results,results139,go_sem]) rfl ⟨_,rfl,⟨.mk 0 0 mz [],NIL.o,pH _ _ _ iM⟩,?_⟩;exact(cU.alloc (by simp) _).alloc (by simp;omega) _
 by_cases h4:bW n 5=4
 .have h4':((bW n 5:Int)==4)=true:=by simp;omega
  clear h4;rcases WB with e3|⟨e3,e4⟩;all_goals
   go_enter func139,ntmps139;go_wp2_with fail;refine ey (gi _ _ _ HI.o (by omega) (by omega)) ?_;go_wp2_with fail;refine ah (v:= .agg jl) (by simp[results,results139,go_sem]) rfl ⟨_,rfl,⟨.mk 0 0 mz [],NIL.o,pH _ _ _ iM⟩,?_⟩;exact(cU.alloc (by simp) _).alloc (by simp;omega) _
 have h4':((bW n 5:Int)==4)=false:=by simp;omega
 have hpm:=dJ n br.toNat (by omega);have REF:Hd (mA k br (.mk k (1+(bW n br.toNat:Int)) mz [])):= .inr (.inr ⟨HK.o, .inr ⟨_,rfl,by omega,by omega⟩⟩);clear h4;rcases WB with e3|⟨e3,e4⟩;all_goals
  go_enter func139,ntmps139;go_wp2_with fail;refine ey (gi _ _ _ HI.o (by omega) (by omega)) ?_;go_wp2_with fail;have z3:IntKind.i64.wrap (1+(bW n br.toNat:Int))=1+(bW n br.toNat:Int):=aw _ (by omega);go_region_held3(λw'=>w'.cell? (w,0)=some (xI k))
   (first|go_keep)
   (first|(go_at_call 134;refine ey (gi _ _ _ HI.o (by omega) (by omega)) ?_));all_goals
   go_wp2_with fail;refine ah (v:= .agg #[k,xI (1+(bW n br.toNat:Int)),"",()]) (by simp[results,results139,go_sem]) rfl ⟨_,rfl,⟨_,REF.o,pH _ _ _ iM⟩,?_⟩;exact((cU.alloc (by simp) _).alloc (by simp;omega) _).drew
def Bx(w:bq)(os:List Obj)(wx:bq):Prop:=bC w wx/\w.heap.size+os.length<=wx/\∀(i:Nat)(o:Obj),os[i]? =some o->cX wx (↑w+i) o
section
variable {w wx w':bq}{os:List Obj}
def Bx.nil(w:bq):Bx w [] w:=⟨eH,by simp,λi o h=>by simp at h⟩
def Bx.at_(h:Bx w os wx)(i:Nat)(hi:os[i]? =some o):cX wx (↑w+i) o:=h.2.2 i o hi
def Bx.cP(h:Bx w os wx)(hi:os[0]? =some o):ed wx w o:=h.2.2 0 o hi
def Bx.cZ(h:Bx w os wx)(hi:os[1]? =some o):cX wx [w] o:=h.2.2 1 o hi
def Bx.im(h:Bx w os wx)(hi:os[2]? =some o):cX wx [w,w] o:=h.2.2 2 o hi
def Bx.Au(h:Bx w os wx)(hi:os[3]? =some o):cX wx [w,w,w] o:=h.2.2 3 o hi
def Bx.X7(h:Bx w os wx)(hi:os[4]? =some o):cX wx (w.heap.size+1+1+1+1) o:=h.2.2 4 o hi
def Bx.cM(h:Bx w os wx):w.heap.size+os.length<=wx:=h.2.1
variable{B:Nat}
def Bx.ej(h:Bx w os wx)(k:Below B wx w')(hB:w.heap.size+os.length<=B):Bx w os w':=by
 obtain⟨h1,h2,h3⟩:=h;refine⟨h1.trans (k.mono (by omega)),by have:=k.size;omega,λi o hi=> ?_⟩;have hl:=(ag.1 hi).1;exact(k.block _ (by omega)).trans (h3 i o hi)
def Bx.aT(h:Bx w os wx)(k:bC wx w'):Bx w os w':=h.ej k h.2.1
def Bx.alloc(h:Bx w os wx)(o:Obj):Bx w os (wx.alloc o):=h.aT (eH.alloc cN o)
def Bx.drew(h:Bx w os wx):Bx w os wx.drew:=⟨h.1.drew,h.2⟩
def Bx.drewN(h:Bx w os wx)(n:Nat):Bx w os (wx.drewN n):=⟨⟨h.1.os,h.1.tape,h.1.output,h.1.size,h.1.block⟩,h.2⟩
def Bx.snoc(h:Bx w os wx)(hs:wx.heap.size=↑w+os.length)(o:Obj):Bx w (os++[o]) (wx.alloc o):=by
 obtain⟨h1,h2,h3⟩:=h;refine⟨h1.alloc h1.size o,by simp;omega,λi p hi=> ?_⟩;by_cases hl:i<os.length
 .rw[aq hl]at hi;exact(aB wx o _ (by omega)).trans (h3 i p hi)
 rw[au (by omega)]at hi;have h0:i-os.length=0:=by
  cases hq:i-os.length with
  |zero=>rfl
  |succ q=>rw[hq]at hi;simp at hi
 rw[h0]at hi;simp at hi;subst hi;rw[show w.heap.size+i=wx from by omega];exact az wx o
def Bx.fm(w:bq)(o0:Obj):Bx w [o0] (w.alloc o0):=(Bx.nil w).snoc (by simp) o0
def Bx.ei(w:bq)(o0 o1:Obj):Bx w [o0,o1] ((w.alloc o0).alloc o1):=(Bx.fm w o0).snoc (by simp) o1
def Bx.iN(w:bq)(o0 o1 o2:Obj):Bx w [o0,o1,o2] (((w.alloc o0).alloc o1).alloc o2):=(Bx.ei w o0 o1).snoc (by simp) o2
def Bx.Lk(w:bq)(o0 o1 o2 o3:Obj):Bx w [o0,o1,o2,o3] ((((w.alloc o0).alloc o1).alloc o2).alloc o3):=(Bx.iN w o0 o1 o2).snoc (by simp) o3
def Bx.Ou(w:bq)(o0 o1 o2 o3 o4:Obj):Bx w [o0,o1,o2,o3,o4] (((((w.alloc o0).alloc o1).alloc o2).alloc o3).alloc o4):=(Bx.Lk w o0 o1 o2 o3).snoc (by simp) o4
def Bx.set(h:Bx w os wx)(i j:Nat){cs:Array bt}(hi:os[i]? =some (.cells cs t (0,0)))(v:bt):Bx w (os.set i (.cells (cs.setIfInBounds j v) t (0,0))) (wx.setCell (w.heap.size+i,j) v):=by
 obtain⟨h1,h2,h3⟩:=h;refine⟨h1.setCell (by simp) v,by simpa [World.setCell]using h2,λk o hk=> ?_⟩;have hl:=(ag.1 hi).1;by_cases e:k=i
 .subst e;rw[List.getElem?_set_self hl]at hk;cases hk;have:=aA wx (↑w+k) j cs t v (h3 k _ hi);simpa using this
 rw[List.getElem?_set_ne (λh=>e h.symm)]at hk;exact(aj _ _ _ _ (by simp;omega)).trans (h3 k o hk)
end
def Aw:jI []:=⟨[],rfl,λx h=>by cases h⟩
def uw {a b:List UInt8}(h:jI a)(k:jI b):jI (a++b):=by
 obtain⟨x,rfl,h1⟩:=h;obtain⟨y,rfl,h2⟩:=k;exact⟨x++y,by simp,λz hz=>(aI.1 hz).elim (h1 z) (h2 z)⟩
def Ax {x:List UInt8}(h:JY x):jI x:=⟨[x],by simp,λz hz=>by simp at hz;subst hz;exact h⟩
def OC {l:List UInt8}(h:jI l)(hl:l≠[]):∃x r,l=x++r/\JY x/\jI r:=by
 obtain⟨ss,rfl,h1⟩:=h;cases ss with
 |nil=>exact absurd rfl hl
 |cons x r=>exact⟨x,r.flatten,rfl,h1 x List.mem_cons_self,r,rfl,λz hz=>h1 z (List.mem_cons_of_mem _ hz)⟩
def pO(l:List UInt8)(h:∀c∈l,32<=c/\c<127):jI l:=by
 induction l with
 |nil=>exact Aw
 |cons c r ih=>
  have:=uw (Ax (.inl ⟨c,rfl,h c List.mem_cons_self⟩)) (ih λd hd=>h d (List.mem_cons_of_mem _ hd));simpa using this
def qP(s:bS)(p:Nat):Prop:=p<=s.size/\jI (s.data.toList.take p)/\jI (s.data.toList.drop p)
def ux(h:jI s.data.toList):qP s 0:=⟨ax _,by simpa using Aw,by simpa using h⟩
variable{p:Nat}
def nC {l:List UInt8}{c:UInt8}(h:s.data.toList.drop p=l)(hk:l[k]? =some c):p+k<s.size/\s.get! (p+k)=c:=by
 subst h;rw[List.getElem?_drop]at hk;have⟨h1,h2⟩:=ag.1 hk;have h3:p+k<s.size:=by rw[<-cH];exact h1
 refine⟨h3,?_⟩;simp[ByteArray.get!,getElem!_pos,h3];rw[<-h2];exact(Array.getElem_toList _)
def qP.step(h:qP s p)(hp:p<s.size):∃r k:Nat,Utf8.decode s p=(r,k)/\((k=1/\32<=r/\r<127)\/(k=2/\r=233))/\qP s (p+k):=by
 obtain⟨h1,h2,h3⟩:=h;have hne:s.data.toList.drop p≠[]:=by
  intro e;have:=congrArg List.length e;rw[List.length_drop,cH]at this;simp at this;omega
 have⟨x,r,e,hx,hr⟩:=OC h3 hne;have hlen:(s.data.toList.drop p).length=s.size-p:=by rw[List.length_drop,cH]
 have hAt:qP s (p+x.length):=by
  refine⟨?_,?_,?_⟩
  .have:=congrArg List.length e;rw[hlen,aJ]at this;omega
  .rw[List.take_add,e,List.take_left']
   .exact uw h2 (Ax hx)
   rfl
  rw[<-List.drop_drop,e,List.drop_left']
  .exact hr
  rfl
 rcases hx with⟨c,rfl,hc1,hc2⟩|rfl
 .have⟨b1,b2⟩:=nC (k:=0) e rfl;have Q6:c.toNat<127:=by have:=UInt8.lt_iff_toNat_lt.1 hc2;simpa using this
  have hc4:32<=c.toNat:=by have:=UInt8.le_iff_toNat_le.1 hc1;simpa using this
  refine⟨c.toNat,1,?_, .inl ⟨rfl,hc4,Q6⟩,hAt⟩;simp only[Utf8.decode,b2];rw[if_pos (by omega)]
 have⟨b1,b2⟩:=nC (k:=0) e rfl;have⟨b3,b4⟩:=nC (k:=1) e rfl;refine⟨233,2,?_, .inr ⟨rfl,rfl⟩,hAt⟩;simp only[Utf8.decode,b2,b4];simp[b3]
def qP.take(h:qP s p):jI (s.data.toList.take p):=h.2.1
def qP.drop(h:qP s p):jI (s.data.toList.drop p):=h.2.2
def orM(M:bY)(B:Nat):Nat->Prop:=λi=>M i\/i=B
def eM {α:Type} [bD α](M:bY)(B:Nat)(t:TypeId)(w:bq)(n:Nat)(xs:List α):Prop:=
 ∃(cur:Array bt)(css:List (List bt)),cX w B (.cells cur t (0,0))/\cur.size=n*bD.size α/\xs.length<=n/\css.length=xs.length/\css.flatten=cur.toList.take (xs.length*bD.size α)/\
  ∀(i:Nat)(cs:List bt)(x:α),css[i]? =some cs->xs[i]? =some x->bD.rep (orM M B) w cs x
section
variable {α:Type} [bD α]{M:bY}{B:Nat}{t:TypeId}{w w':bq}{n:Nat}{xs:List α}
def eM.made(cur:Array bt)(h:cX w B (.cells cur t (0,0)))(hs:cur.size=n*bD.size α):eM (α:=α) M B t w n []:=
 ⟨cur,[],h,hs,ax _,rfl,by simp,λi cs x h=>by simp at h⟩
def eM.lt(h:eM M B t w n xs):B<w:=by obtain⟨cur,css,h1,_⟩:=h;exact(ab.1 h1).1
def eM.aT(h:eM M B t w n xs)(hb:bC w w'):eM M B t w' n xs:=by
 obtain⟨cur,css,h1,h2,h3,h4,h5,h6⟩:=h;exact⟨cur,css,(hb.block B (ab.1 h1).1).trans h1,h2,h3,h4,h5,λi cs x hc hx=>bD.ev (h6 i cs x hc hx) (Ev.bA hb)⟩
def eM.cell(h:eM M B t w n xs)(hj:j<n*bD.size α):∃v,cC w B j v/\w.frozen? (B,j)=false:=by
 obtain⟨cur,css,h1,h2,_⟩:=h;exact⟨cur[j]'(by omega),cell_of_heap h1 (by simp[h2,hj]),aY h1 j⟩
def eM.slice(h:eM M B t w n xs)(hn:xs.length=n)(hB:¬M B)(hm:n<=maxLen):aS M w (xL (B,0) n n) xs:=by
 obtain⟨cur,css,h1,h2,h3,h4,h5,h6⟩:=h;subst hn;refine⟨css,⟨?_,some ⟨B,0,none⟩,xs.length,rfl,cN,hm,λ_=>⟨B,0,rfl,hB,(ab.1 h1).1,λj u hu=> ?_⟩⟩,h4,λi cs x hc hx=>bD.ev (h6 i cs x hc hx) (Ev.eO w λi hi=> .inl hi)⟩
 .rw[h5,aK];simp[h2]
 rw[h5]at hu;have hu2:=mE hu;rw[Nat.zero_add];exact cell_of_heap h1 (by simpa using hu2)
end
def Y7 {l:List bt}{o:Nat}{a b c d:bt}(h:o+4<=l.length):((((l.set o a).set (o+1) b).set (o+2) c).set (o+3) d).take (o+4)=l.take o++[a,b,c,d]:=by
 apply List.ext_getElem?;intro i;rw[List.getElem?_take,List.getElem?_append];have hl:(l.take o).length=o:=by simp;omega
 rw[hl];by_cases h1:i<o
 .rw[if_pos (by omega),if_pos h1];rw[List.getElem?_set_ne (by omega),List.getElem?_set_ne (by omega),List.getElem?_set_ne (by omega),List.getElem?_set_ne (by omega),List.getElem?_take,if_pos h1]
 rw[if_neg h1];by_cases h2:i<o+4
 .rw[if_pos h2];have:i=o\/i=o+1\/i=o+2\/i=o+3:=by omega
  rcases this with rfl|rfl|rfl|rfl
  .rw[List.getElem?_set_ne (by omega),List.getElem?_set_ne (by omega),List.getElem?_set_ne (by omega),List.getElem?_set_self (by omega)];simp
  .rw[List.getElem?_set_ne (by omega),List.getElem?_set_ne (by omega),List.getElem?_set_self (by simp;omega)];simp
  .rw[List.getElem?_set_ne (by omega),List.getElem?_set_self (by simp;omega)];simp
  rw[List.getElem?_set_self (by simp;omega)];simp
 rw[if_neg h2];rw[List.getElem?_eq_none (by simp;omega)]
variable{cur:Array bt}{K:Nat}
def fG {o:Nat}{t:TypeId}(h:cX W K (.cells cur t (0,0)))(a b c d:bt):
 ((((W.setCell (K,o) a).setCell (K,o+1) b).setCell (K,o+2) c).setCell (K,o+3) d).heap[K]? =some (.cells ((((cur.setIfInBounds o a).setIfInBounds (o+1) b).setIfInBounds (o+2) c).setIfInBounds (o+3) d) t (0,0)):=
 aA _ K (o+3) _ _ d (aA _ K (o+2) _ _ c (aA _ K (o+1) _ _ b (aA _ K o _ _ a h)))
def eM.lD {α:Type} [bD α](h4:bD.size α=4){M:bY}{B:Nat}{t:TypeId}{w:bq}{n:Nat}{xs:List α}(h:eM M B t w n xs)(hk:xs.length=k)(hn:k<n){x:α}{a b c d:bt}(hx:bD.rep (orM M B) w [a,b,c,d] x):
 eM M B t ((((w.setCell (B,k*4) a).setCell (B,k*4+1) b).setCell (B,k*4+2) c).setCell (B,k*4+3) d) n (xs++[x]):=by
 obtain⟨cur,css,h1,h2,h3,h5,h6,h7⟩:=h;subst hk;rw[h4]at h2 h6;have E:Ev (orM M B) w (orM M B) ((((w.setCell (B,xs.length*4) a).setCell (B,xs.length*4+1) b).setCell (B,xs.length*4+2) c).setCell (B,xs.length*4+3) d):=
  ((((Ev.refl _ w).setCell (.inl (.inr rfl)) a).setCell (.inl (.inr rfl)) b).setCell (.inl (.inr rfl)) c).setCell (.inl (.inr rfl)) d;refine⟨_,css++[[a,b,c,d]],fG h1 a b c d,by rw[h4];simp[h2],by simp;omega,by simp[h5],?_,λi cs y hc hy=> ?_⟩
 .rw[h4];simp only[List.flatten_append,List.flatten_cons,List.flatten_nil,List.append_nil,aJ,aC,aD,h6,Array.toList_setIfInBounds];rw[show(xs.length+(0+1))*4=xs.length*4+4 from by omega,Y7 (by simp[h2];omega)]
 by_cases hi:i<css.length
 .rw[aq hi]at hc;rw[aq (by omega)]at hy;exact bD.ev (h7 i cs y hc hy) E
 rw[au (by omega)]at hc;rw[au (by omega)]at hy;rw[h5]at hc;have h0:i-xs.length=0:=by
  cases hq:i-xs.length with
  |zero=>rfl
  |succ q=>rw[hq]at hc;simp at hc
 rw[h0]at hc hy;simp at hc hy;subst hc hy;exact bD.ev hx E
def ry {css:List (List bt)}{size:Nat}:(∀(i:Nat)(cs:List bt),css[i]? =some cs->cs.length=size)->∀k,(css.take k).flatten=css.flatten.take (k*size)/\(css.drop k).flatten=css.flatten.drop (k*size):=by
 induction css with
 |nil=>intro _ k;simp
 |cons a r ih=>
  intro hs k;have ha:a.length=size:=hs 0 a rfl;cases k with
  |zero=>simp
  |succ k=>
   have⟨h1,h2⟩:=ih (λi c hc=>hs (i+1) c (by simpa using hc)) k;have e:(k+1)*size=a.length+k*size:=by rw[Nat.succ_mul,ha];omega
   constructor
   .rw[List.take_succ_cons,List.flatten_cons,List.flatten_cons,h1,e,List.take_length_add_append]
   rw[List.drop_succ_cons,List.flatten_cons,h2,e,List.drop_length_add_append]
def aS.lens {α:Type} [bD α]{xs:List α}{css:List (List bt)}(h2:css.length=xs.length)(h3:∀(i:Nat)(cs:List bt)(x:α),css[i]? =some cs->xs[i]? =some x->bD.rep M w cs x):
 ∀(i:Nat)(cs:List bt),css[i]? =some cs->cs.length=bD.size α:=λi cs hcs=>by
 have hi:i<xs.length:=by rw[<-h2];exact(ag.1 hcs).1
 exact bD.len (h3 i cs _ hcs (af hi))
variable{cap:Nat}{a:fM}
def aS.upto {α:Type} [bD α]{n:Nat}{xs:List α}(h:aS M w (xL a n cap) xs)(hn:xs.length=n)(hk:k<=n):aS M w (xL a k cap) (xs.take k):=by
 subst hn;obtain⟨css,h1,h2,h3⟩:=h;refine⟨css.take k,?_,by simp[h2],λi cs x hc hx=> ?_⟩
 .rw[(ry (aS.lens h2 h3) k).1,aK,Nat.min_eq_left hk];exact du.upto h1 rfl hk
 rw[List.getElem?_take]at hc hx;split at hc
 .rename_i hi;rw[if_pos hi]at hx;exact h3 i cs x hc hx
 cases hc
def aS.from_ {α:Type} [bD α]{n:Nat}{xs:List α}(h:aS M w (xL a n cap) xs)(hn:xs.length=n)(hk:k<=n):
 aS M w (xL (if cap=k then a else a.map (·.add (k*bD.size α))) (n-k) (cap-k)) (xs.drop k):=by
 subst hn;obtain⟨css,h1,h2,h3⟩:=h;refine⟨css.drop k,?_,by simp[h2],λi cs x hc hx=> ?_⟩
 .rw[(ry (aS.lens h2 h3) k).2,List.length_drop];exact du.from_ h1 rfl hk
 rw[List.getElem?_drop]at hc hx;exact h3 _ cs x hc hx
def Fa {l:List bt}{o:Nat}(h:o<l.length):(l.set o v).take (o+1)=l.take o++[v]:=by
 rw[ao,List.getElem?_set_self h,List.take_set_of_le cN];rfl
theorem mY(K:Nat)(t:TypeId):∀(vs:List bt)(o:Nat)(W:bq)(cur:Array bt),cX W K (.cells cur t (0,0))->o+vs.length<=cur.size->
 ∃cur':Array bt,(W.setCells K o vs).heap[K]? =some (.cells cur' t (0,0))/\cur'.size=cur.size/\cur'.toList.take (o+vs.length)=cur.toList.take o++vs
 |[],o,W,cur,h,_=>⟨cur,h,rfl,by simp⟩
 |v::r,o,W,cur,h,hl=>by
  simp only[aC]at hl;have⟨cur',h1,h2,h3⟩:=mY K t r (o+1) _ _ (aA W K o cur t v h) (by simp;omega);refine⟨cur',h1,by simpa using h2,?_⟩;rw[aC,show o+(r.length+1)=o+1+r.length from by omega,h3,Array.toList_setIfInBounds,Fa (by simp;omega)];simp
theorem vE(M:bY)(K:Nat)(hK:M K):∀(vs:List bt)(o:Nat)(w W:bq),Ev M w M W->Ev M w M (W.setCells K o vs)
 |[],_,_,_,h=>h
 |v::r,o,w,W,h=>vE M K hK r (o+1) w _ (h.setCell (.inl hK) v)
variable{B:Nat}
def eM.ZD {α:Type} [bD α]{n:Nat}{xs:List α}(h:eM M B t w n xs)(hk:xs.length=k)(hn:k<n){x:α}{vs:List bt}(hx:bD.rep (orM M B) w vs x):
 eM M B t (w.setCells B (k*bD.size α) vs) n (xs++[x]):=by
 obtain⟨cur,css,h1,h2,h3,h5,h6,h7⟩:=h;subst hk;have hvs:=bD.len hx;have hmul:xs.length*bD.size α+bD.size α<=n*bD.size α:=by
  have:=Nat.mul_le_mul_right (bD.size α) hn;rwa [Nat.succ_mul]at this
 have E:=vE (orM M B) B (.inr rfl) vs (xs.length*bD.size α) w w (Ev.refl _ w);have⟨cur',g1,g2,g3⟩:=mY B t vs (xs.length*bD.size α) w cur h1 (by rw[h2,hvs];exact hmul);refine⟨cur',css++[vs],g1,g2.trans h2,by simp;omega,by simp[h5],?_,λi cs y hc hy=> ?_⟩
 .rw[List.flatten_append,aJ,List.length_singleton,Nat.succ_mul,<-hvs];rw[hvs]at g3⊢;rw[g3,h6];simp
 by_cases hi:i<css.length
 .rw[aq hi]at hc;rw[aq (by omega)]at hy;exact bD.ev (h7 i cs y hc hy) E
 rw[au (by omega)]at hc;rw[au (by omega)]at hy;rw[h5]at hc;have h0:i-xs.length=0:=by
  cases hq:i-xs.length with
  |zero=>rfl
  |succ q=>rw[hq]at hc;simp at hc
 rw[h0]at hc hy;simp at hc hy;subst hc hy;exact bD.ev hx E
def Jm(c:Int)(n:Int)(w:bq)(hc:I6 c)(hn:1<=n)(hn2:n<=1000000):
 xC 6 #[c,n] w (j7 (bW c n.toNat) w):=by
 obtain⟨hc1,hc2⟩:=hc;have e0:((bW c n.toNat:Nat):Int)=(if c<0 then-(c+1)else c)%n:=by
  unfold bW;rw[Int.toNat_of_nonneg (a:=n) (by omega)];exact Int.toNat_of_nonneg (Int.emod_nonneg _ (by omega))
 by_cases h:c<0
 .rw[if_pos h]at e0;have E:=aV e0;clear e0;go_enter func6,ntmps6;go_wp2;go_ret;refine⟨jN ?_,rfl⟩;rw[E.o,<-Int.neg_tmod,Int.tmod_eq_emod_of_nonneg (by omega)]
 rw[if_neg h]at e0;have E:=aV e0;clear e0;go_enter func6,ntmps6;go_wp2;go_ret;exact⟨jN E.o.symm,rfl⟩
end Go.Proofs.YtpjdjlnknfmfkaaGreatDoor
