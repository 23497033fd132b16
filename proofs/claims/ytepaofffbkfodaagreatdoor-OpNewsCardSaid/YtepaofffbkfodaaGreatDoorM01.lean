/- A part of the proof; no condition. -/
import Derived.WalkSpells
import Derived.WalkLawsBesides
import Derived.Lib.Hide
import Derived.BigQuiet
import Derived.Test.YtepaofffbkfodaaGreatDoorProg
import Derived.Deep.DeepCutAuto
import Derived.Deep.CutBlock
import Derived.Deep.RegionHeld3
set_option linter.all false
set_option maxHeartbeats 8000000
set_option maxRecDepth 100000
namespace Go.Proofs.YtepaofffbkfodaaGreatDoor
open Tryz
open Go.RowKit
def hD{p:Prop}(h:p):Hid p:=Lib.hid h
theorem Qaa{α:Type _}{i:Nat}{b:α}{xs:Array α}:xs[i]? =some b↔∃h:i<xs.size,xs[i]=b:=Array.getElem?_eq_some_iff
theorem Qab(n:Nat):n<=n:=Nat.le_refl n
theorem Qac{α:Type _}{l:List α}{i:Nat}(h:i<l.length):l[i]? =some l[i]:=List.getElem?_eq_getElem h
theorem Qad{α:Type _}{i:Nat}{a:α}{l:List α}:l[i]? =some a↔∃h:i<l.length,l[i]=a:=List.getElem?_eq_some_iff
theorem Qae{P:Program}{fn:Func}{R:Ending->World->Prop}{a:Act}{w:World}{v:Value}(h:Sem.run P (results fn a.tmps) w=Result.ok v w)(k:a.defers=[])(r:R (Ending.returned v) w):bodyPost P fn R Exit.ret a w:=bodyPost_ret h k r
theorem Qaf{α:Type _}{l:List α}{i:Nat}{a:α}(h:l[i]? =some a):a∈l:=List.mem_of_getElem? h
theorem Qag(w:World)(a:Addr)(k:Nat)(v:Value)(h:k≠a.block):(w.setCell a v).heap[k]? =w.heap[k]? :=heap_setCell_other w a k v h
theorem Qah{α:Type _}{i:Nat}{l:List α}(h:l.length<=i):List.take i l=l:=List.take_of_length_le h
theorem Qba(n:Nat):(0:Int)<=n:=Int.natCast_nonneg n
theorem Qbb{α:Type _}{l:List α}{i:Nat}:List.take (i+1) l=List.take i l++l[i]?.toList:=List.take_add_one
theorem Qbc{α:Type _}{l₁ l₂:List α}{i:Nat}(h:i<l₁.length):(l₁++l₂)[i]? =l₁[i]? :=List.getElem?_append_left h
theorem Qbd{α:Type _}{l₁ l₂:List α}{i:Nat}(h:l₁.length<=i):(l₁++l₂)[i]? =l₂[i-l₁.length]? :=List.getElem?_append_right h
theorem Qbe(n:Int)(h: -9223372036854775808<=n/\n<=9223372036854775807):IntKind.i64.wrap n=n:=IntWalk.i64_in n h
theorem Qbf(n:Nat):0<=n:=Nat.zero_le n
theorem Qbg(n:Nat)(w:World):Below n w w:=Below.refl n w
theorem Qbh(w:World)(o:Obj):(w.alloc o).heap[w.heap.size]? =some o:=heap_alloc_new w o
theorem Qca(w:World)(g i:Nat)(cs:Array Value)(t:TypeId)(v:Value)(h:w.heap[g]? =some (.cells cs t (0,0))):(w.setCell ⟨g,i,none⟩ v).heap[g]? =some (.cells (cs.setIfInBounds i v) t (0,0)):=heap_setCell_same w g i cs t v h
theorem Qcb(w:World)(o:Obj)(k:Nat)(h:k<w.heap.size):(w.alloc o).heap[k]? =w.heap[k]? :=Below.heap_alloc w o k h
theorem Qcc{α:Type _}{a:α}{l:List α}:(a::l).length=l.length+1:=List.length_cons
theorem Qcd{α:Type _}:([]:List α).length=0:=List.length_nil
theorem Qce(a b:Bool):((a&&b)=true)=(a=true/\b=true):=Bool.and_eq_true a b
theorem Qcf{α:Type _}(a b:α):(some a=some b)=(a=b):=Option.some.injEq a b
theorem Qcg{a b c:Nat}:a<=b->b<=c->a<=c:=Nat.le_trans
theorem Qch{α:Type _}{a:α}{s t:List α}:a∈s++t↔a∈s\/a∈t:=List.mem_append
theorem Qda{α:Type _}{s t:List α}:(s++t).length=s.length+t.length:=List.length_append
theorem Qdb{α:Type _}{i:Nat}{l:List α}:(List.take i l).length=min i l.length:=List.length_take
theorem Qdc{α β:Type _}{l:List α}(f:α->β):(List.map f l).length=l.length:=List.length_map f
theorem Qdd{α:Type _}{l:List α}:l.length=0->l=[]:=List.eq_nil_of_length_eq_zero
theorem Qde{n m k:Nat}:n<m->m<=k->n<k:=Nat.lt_of_lt_of_le
theorem Qdf{α:Type _}{a b:α}{l:List α}:a∈b::l↔a=b\/a∈l:=List.mem_cons
theorem Qdg{α:Type _}{a:α}{l:List α}(h:a∈l):∃i:Nat,l[i]? =some a:=List.getElem?_of_mem h
theorem Qdh{α β:Type _}{b:β}{f:α->β}{l:List α}:b∈l.map f↔∃a,a∈l/\f a=b:=List.mem_map
theorem Qea{α:Type _}{a b:α}:a∈[b]↔a=b:=List.mem_singleton
def iX {k:IntKind}{a b:Int}(h:a=b):Ending.returned (.int k a)= .returned (.int k b):=by rw[h]
def bK {a b:Bool}(h:a=b):Ending.returned (.bool a)= .returned (.bool b):=by rw[h]
def lN {α:Type}{l:List α}{n j:Nat}{u:α}(h:(l.take n)[j]? =some u):l[j]? =some u:=by
 rw[List.getElem?_take]at h;split at h
 .exact h
 .cases h
structure ao(S:Nat->Prop)(w w':World):Prop where
 os:w'.os=w.os
 tape:w'.tape=w.tape
 output:w'.output=w.output
 size:w.heap.size<=w'.heap.size
 block:∀k,k<w.heap.size->¬S k->w'.heap[k]? =w.heap[k]?
section
variable {S T:Nat->Prop}{w w' w'':World}
theorem ao.refl(S:Nat->Prop)(w:World):ao S w w:=⟨rfl,rfl,rfl,Qab _,λ_ _ _=>rfl⟩
theorem ao.trans(h:ao S w w')(k:ao S w' w''):ao S w w'':=
 ⟨k.os.trans h.os,k.tape.trans h.tape,k.output.trans h.output,Qcg h.size k.size,λi hi hS=>(k.block i (Qde hi h.size) hS).trans (h.block i hi hS)⟩
theorem ao.cV(h:ao S w w')(k:ao T w' w'')(hT:∀i,T i->i<w.heap.size->S i):ao S w w'':=
 ⟨k.os.trans h.os,k.tape.trans h.tape,k.output.trans h.output,Qcg h.size k.size,λi hi hS=>(k.block i (Qde hi h.size) (λhh=>hS (hT i hh hi))).trans (h.block i hi hS)⟩
theorem ao.mono(h:ao S w w')(hST:∀i,S i->T i):ao T w w':=⟨h.os,h.tape,h.output,h.size,λi hi hT=>h.block i hi (λhs=>hT (hST i hs))⟩
theorem ao.drewN(h:ao S w w')(n:Nat):ao S w (w'.drewN n):=⟨h.os,h.tape,h.output,h.size,h.block⟩
theorem ao.drew(h:ao S w w'):ao S w w'.drew:=⟨h.os,h.tape,h.output,h.size,h.block⟩
theorem ao.alloc(h:ao S w w')(o:Obj):ao S w (w'.alloc o):=
 ⟨h.os,h.tape,h.output,Qcg h.size (by simp),λi hi hS=>(Qcb w' o i (Qde hi h.size)).trans (h.block i hi hS)⟩
theorem ao.setCell(h:ao S w w'){p:Addr}(hp:S p.block\/w.heap.size<=p.block)(u:Value):ao S w (w'.setCell p u):=
 ⟨h.os,h.tape,h.output,by simpa [World.setCell]using h.size,λi hi hS=>(Below.heap_setCell w' p u i (by rintro rfl;rcases hp with hp|hp;exact hS hp;omega)).trans (h.block i hi hS)⟩
theorem ao.az(h:Below w.heap.size w w'):ao S w w':=⟨h.os,h.tape,h.output,h.size,λi hi _=>h.block i hi⟩
theorem ao.ae(h:ao (λ_=>False) w w'):Below w.heap.size w w':=⟨h.os,h.tape,h.output,h.size,λi hi=>h.block i hi (λh=>h)⟩
theorem ao.grown {row:Option Nat}(h:ao S w w')(hg:w'.grownBy w'' row)(hr:∀g,row=some g->S g\/w.heap.size<=g):ao S w w'':=
 ⟨hg.os.trans h.os,hg.tape.trans h.tape,hg.output.trans h.output,Qcg h.size hg.size,λi hi hS=>(hg.block i (Qde hi h.size) (λe=>by rcases hr i e.symm with h1|h1;exact hS h1;omega)).trans (h.block i hi hS)⟩
theorem ao.cell(h:ao S w w'){p:Addr}(hp:p.block<w.heap.size)(hS:¬S p.block):w'.cell? p=w.cell? p:=World.cell?_of_block (w:=w) (h.block p.block hp hS)
theorem ao.frozen(h:ao S w w'){p:Addr}(hp:p.block<w.heap.size)(hS:¬S p.block):w'.frozen? p=w.frozen? p:=World.frozen?_of_block (w:=w) (h.block p.block hp hS)
end
def ct(F:Nat->Prop)(w:World)(size:Nat)(v:Value)(n:Nat)(xs:List Value):Prop:=
 xs.length=n*size/\∃a cap,v= .slice a n cap/\n<=cap/\cap<=maxLen/\(0<n->∃b off,a=some ⟨b,off,none⟩/\F b/\b<w.heap.size/\∀j u,xs[j]? =some u->w.cell? ⟨b,off+j,none⟩=some u)
section
variable {F G:Nat->Prop}{w w':World}{size n:Nat}{v:Value}{xs:List Value}
theorem ct.nil(F:Nat->Prop)(w:World)(size:Nat):ct F w size (.slice none 0 0) 0 []:=⟨by simp,none,0,rfl,Qab _,Qbf _,λh=>absurd h (by omega)⟩
theorem ct.Kk(h:ct F w size v n xs)(hs:w.heap.size<=w'.heap.size)(hk:∀i,F i->i<w.heap.size->w'.heap[i]? =w.heap[i]?):ct F w' size v n xs:=by
 obtain⟨hl,a,cap,hv,hc,hm,hx⟩:=h;refine⟨hl,a,cap,hv,hc,hm,λhn=> ?_⟩;obtain⟨b,off,ha,hF,hb,hcell⟩:=hx hn;exact⟨b,off,ha,hF,Qde hb hs,λj u hu=>(World.cell?_of_block (w:=w) (a:=⟨b,off+j,none⟩) (hk b hF hb)).trans (hcell j u hu)⟩
theorem ct.mono(h:ct F w size v n xs)(hFG:∀i,F i->i<w.heap.size->G i):ct G w size v n xs:=by
 obtain⟨hl,a,cap,hv,hc,hm,hx⟩:=h;refine⟨hl,a,cap,hv,hc,hm,λhn=> ?_⟩;obtain⟨b,off,ha,hF,hb,hcell⟩:=hx hn;exact⟨b,off,ha,hFG b hF hb,hb,hcell⟩
theorem ct.only {S:Nat->Prop}(h:ct F w size v n xs)(ho:ao S w w')(hd:∀i,F i->¬S i):ct F w' size v n xs:=
 h.Kk ho.size λi hi bH=>ho.block i bH (hd i hi)
theorem ct.ae(h:ct F w size v n xs)(hb:Below w.heap.size w w'):ct F w' size v n xs:=h.Kk hb.size λi _ bH=>hb.block i bH
theorem ct.alloc(h:ct F w size v n xs)(o:Obj):ct F (w.alloc o) size v n xs:=h.Kk (by simp) λi _ bH=>Qcb w o i bH
theorem ct.drewN(h:ct F w size v n xs)(k:Nat):ct F (w.drewN k) size v n xs:=h
theorem ct.drew(h:ct F w size v n xs):ct F w.drew size v n xs:=h
theorem ct.upto(h:ct F w size v n xs){a:Option Addr}{cap k:Nat}(hv:v= .slice a n cap)(hk:k<=n):ct F w size (.slice a k cap) k (xs.take (k*size)):=by
 obtain⟨hl,a',cap',hv',hc,hm,hx⟩:=h;obtain⟨rfl,_,rfl⟩:a=a'/\n=n/\cap=cap':=by rw[hv]at hv';simpa using hv'
 refine⟨by rw[Qdb,hl];exact Nat.min_eq_left (Nat.mul_le_mul_right _ hk),a,cap,rfl,by omega,hm,λhn=> ?_⟩;obtain⟨b,off,ha,hF,hb,hcell⟩:=hx (by omega);exact⟨b,off,ha,hF,hb,λj u hu=>hcell j u (lN hu)⟩
theorem ct.from_(h:ct F w size v n xs){a:Option Addr}{cap k:Nat}(hv:v= .slice a n cap)(hk:k<=n):
 ct F w size (.slice (if cap=k then a else a.map (·.add (k*size))) (n-k) (cap-k)) (n-k) (xs.drop (k*size)):=by
 obtain⟨hl,a',cap',hv',hc,hm,hx⟩:=h;obtain⟨rfl,_,rfl⟩:a=a'/\n=n/\cap=cap':=by rw[hv]at hv';simpa using hv'
 refine⟨by rw[List.length_drop,hl,Nat.sub_mul],_,_,rfl,by omega,by omega,λhn=> ?_⟩;obtain⟨b,off,rfl,hF,hb,hcell⟩:=hx (by omega);rw[if_neg (by omega)];refine⟨b,off+k*size,?_,hF,hb,λj u hu=> ?_⟩
 .simp only[Option.map,Addr.add];split<;>simp_all
 .rw[Nat.add_assoc];exact hcell _ u (by rw[<-hu,List.getElem?_drop])
theorem ct.FQ {base:Nat}{e:TypeId}(h:w.ownsRow base e size v n xs):ct (λi=>v.ownBlock=some i) w size v n xs:=by
 refine⟨h.1,?_⟩;rcases h.2 with⟨rfl,rfl⟩|⟨g,cap,cur,rfl,hb,hh,Zc,MD,hcs,htk⟩
 .exact⟨none,0,rfl,Qab _,Qbf _,λh=>absurd h (by omega)⟩
 .refine⟨_,cap,rfl,Zc,MD,λhn=>⟨g,0,rfl,rfl,(Qaa.1 hh).1,λj u hu=> ?_⟩⟩;rw[Nat.zero_add];have hj:j<xs.length:=(Qad.1 hu).1;simp only[World.cell?,hh];simp;rw[<-htk]at hu;have h2:=lN hu;simpa using h2
end
def IntsR(F:Nat->Prop)(w:World)(v:Value)(xs:List Int):Prop:=ct F w 1 v xs.length (xs.map (Value.int .i64))
section
variable {F G:Nat->Prop}{w w':World}{v:Value}{xs:List Int}
theorem IntsR.aq(h:IntsR F w v xs):∃a cap,v= .slice a xs.length cap/\xs.length<=cap/\cap<=9223372036854775807/\(0<xs.length->∃b off,a=some ⟨b,off,none⟩/\F b/\b<w.heap.size/\∀j x,xs[j]? =some x->w.cell? ⟨b,off+j,none⟩=some (.int .i64 x)):=by
 obtain⟨hl,a,cap,hv,hc,hm,hx⟩:=h;refine⟨a,cap,hv,hc,by unfold maxLen at hm;omega,λhn=> ?_⟩;obtain⟨b,off,ha,hF,hb,hcell⟩:=hx hn;exact⟨b,off,ha,hF,hb,λj x hj=>hcell j _ (by rw[List.getElem?_map,hj];rfl)⟩
theorem IntsR.Kk(h:IntsR F w v xs)(hs:w.heap.size<=w'.heap.size)(hk:∀i,F i->i<w.heap.size->w'.heap[i]? =w.heap[i]?):IntsR F w' v xs:=ct.Kk h hs hk
theorem IntsR.mono(h:IntsR F w v xs)(hFG:∀i,F i->i<w.heap.size->G i):IntsR G w v xs:=ct.mono h hFG
theorem IntsR.only {S:Nat->Prop}(h:IntsR F w v xs)(ho:ao S w w')(hd:∀i,F i->¬S i):IntsR F w' v xs:=ct.only h ho hd
theorem IntsR.ae(h:IntsR F w v xs)(hb:Below w.heap.size w w'):IntsR F w' v xs:=ct.ae h hb
theorem IntsR.alloc(h:IntsR F w v xs)(o:Obj):IntsR F (w.alloc o) v xs:=ct.alloc h o
theorem IntsR.drewN(h:IntsR F w v xs)(k:Nat):IntsR F (w.drewN k) v xs:=h
theorem IntsR.nil(F:Nat->Prop)(w:World):IntsR F w (.slice none 0 0) []:=ct.nil F w 1
theorem IntsR.upto(h:IntsR F w v xs){a:Option Addr}{n cap k:Nat}(hv:v= .slice a n cap)(hk:k<=xs.length):IntsR F w (.slice a k cap) (xs.take k):=by
 have hn:n=xs.length:=by obtain⟨_,_,_,e,_⟩:=h;rw[hv]at e;simp at e;exact e.2.1
 subst hn;have h1:=ct.upto h hv hk;unfold IntsR;rw[Qdb,Nat.min_eq_left hk,List.map_take];simpa using h1
theorem IntsR.from_(h:IntsR F w v xs){a:Option Addr}{n cap k:Nat}(hv:v= .slice a n cap)(hk:k<=xs.length):IntsR F w (.slice (if cap=k then a else a.map (·.add k)) (n-k) (cap-k)) (xs.drop k):=by
 have hn:n=xs.length:=by obtain⟨_,_,_,e,_⟩:=h;rw[hv]at e;simp at e;exact e.2.1
 subst hn;have h1:=ct.from_ h hv hk;unfold IntsR;rw[List.length_drop,List.map_drop];simpa using h1
theorem IntsR.cells {n:Nat}(h:IntsR F w v xs)(hn:xs.length=n):ct F w 1 v n (xs.map (Value.int .i64)):=by subst hn;exact h
theorem IntsR.FQ {base:Nat}{e:TypeId}{n:Nat}(h:w.ownsRow base e 1 v n (xs.map (Value.int .i64))):IntsR (λi=>v.ownBlock=some i) w v xs:=by
 have hn:xs.length=n:=by simpa using h.1
 subst hn;exact ct.FQ h
end
section
variable {P:Program}(w:World)
def qM(base:Nat)(t ty e:TypeId)(i:TypeInfo)(size:Nat)(ht:P.underlying t=some (.slice e))(hi:P.info? e=some i)
 (v:Value)(n:Nat)(xs:List Value)(hown:w.ownsRow base e size v n xs)(c:Nat):(Builtin.append_ #[t,t] ty #[v, .slice none 0 c]).run P w= .ok v w:=by
 rcases hown.2 with⟨rfl,rfl⟩|⟨g,cap,cur,rfl,_,_,Zc,_⟩
 .simp[Builtin.append_,run_underlying ht,sizeOf,typeInfo,hi,Builtin.lenOf,Builtin.firstCells]
 .simp[Builtin.append_,run_underlying ht,sizeOf,typeInfo,hi,Builtin.lenOf,Builtin.firstCells,Zc,storeCells]
def gG {F:Nat->Prop}(base:Nat)(t ty e:TypeId)(i:TypeInfo)(z:Value)(size bytes:Nat)(ht:P.underlying t=some (.slice e))(hi:P.info? e=some i)(hz:i.zero=some z)
 (hsize:i.size=size)(hby:i.bytes=bytes)(hzs:z.cells.size=size)(hsz:0<size)
 (v:Value)(n:Nat)(xs:List Value)(hown:w.ownsRow base e size v n xs)
 (s:Value)(m:Nat)(news:List Value)(hr:ct F w size s m news)(h1:∀u∈news,u.oneCell'=true)
 (h63:n+m<=maxLen)(hbytes:(n+m)*bytes<=140737488355328)(hbase:base<=w.heap.size):
 ∃v' w',(Builtin.append_ #[t,t] ty #[v,s]).run P w= .ok v' w'/\w'.ownsRow base e size v' (n+m) (xs++news)/\w.grownBy w' v.ownBlock/\
  (v'.ownBlock=v.ownBlock\/v'.ownBlock=some w.heap.size):=by
 obtain⟨hl,A,cap,rfl,hmc,MD,hx⟩:=hr;rcases Nat.eq_zero_or_pos m with h0|h0
 .subst h0;have hn:news=[]:=Qdd (by simpa using hl);subst hn;rcases A with _|ad
  .exact⟨v,w,qM w base t ty e i size ht hi v n xs hown cap,by simpa using hown,World.grownBy.refl w _, .inl rfl⟩
  .obtain⟨v',w',hrun,h2,h3,_,h5⟩:=run_append_own_at (P:=P) w base t ty e i z size bytes ht hi hz hsize hby hzs hsz v n xs hown ad 0 cap [] (by simp) (by simp) (by simp) h63 hbytes hbase;exact⟨v',w',hrun,h2,h3,h5⟩
 .obtain⟨b,off,rfl,_,_,hcell⟩:=hx h0;obtain⟨v',w',hrun,h2,h3,_,h5⟩:=run_append_own_at (P:=P) w base t ty e i z size bytes ht hi hz hsize hby hzs hsz v n xs hown ⟨b,off,none⟩ m cap news hl (λj u hu=>by
   have:=hcell j u hu;unfold Addr.add;split
   .rename_i h;subst h;simpa using this
   .exact this) h1 h63 hbytes hbase;exact⟨v',w',hrun,h2,h3,h5⟩
def ql {F:Nat->Prop}{ops:Array Oper}{rest:List Oper}{o:Oper}{a:Act}{Q:Exit->Act->World->Prop}(hgd:o.guard=none)(s x:Operand)(t:TypeId)
 (ho:o.op= .call {callee:= .builtin .append,args:= #[s,x],argTypes:= #[t,t]})
 (base:Nat)(e:TypeId)(i:TypeInfo)(z:Value)(size bytes:Nat)(ht:P.underlying t=some (.slice e))(hi:P.info? e=some i)(hz:i.zero=some z)
 (hsize:i.size=size)(hby:i.bytes=bytes)(hzs:z.cells.size=size)(hsz:0<size)
 (v:Value)(n:Nat)(xs:List Value)(hs:a.eval s=v)(hown:w.ownsRow base e size v n xs)
 (sv:Value)(m:Nat)(news:List Value)(hx:a.eval x=sv)(hr:ct F w size sv m news)(h1:∀u∈news,u.oneCell'=true)
 (h63:n+m<=maxLen)(hbytes:(n+m)*bytes<=140737488355328)(hbase:base<=w.heap.size)
 (h:∀v' w',w'.ownsRow base e size v' (n+m) (xs++news)->w.grownBy w' v.ownBlock->(v'.ownBlock=v.ownBlock\/v'.ownBlock=some w.heap.size)->wpList P ops Q rest (a.put o.dst v') w'):wpList P ops Q (o::rest) a w:=
 wpList_plain hgd λ_ hK=>by
  obtain⟨v',w',hrun,h2,h3,h4⟩:=gG (P:=P) w base t o.type e i z size bytes ht hi hz hsize hby hzs hsz v n xs hown sv m news hr h1 h63 hbytes hbase;unfold Oper.wp execOp;simp only[ho,resolve,invoke,builtin,Sem.run_bind,Sem.run_pure,Result.andThen_ok,List.map_toArray,List.map_cons,List.map_nil,hs,hx,hrun];exact hK _ _ (h v' w' h2 h3 h4)
def fe {w:World}{base:Nat}{e:TypeId}{size n:Nat}{v:Value}{xs:List Value}(h:w.ownsRow base e size v n xs):∃a c,v= .slice a n c/\n<=c/\c<=maxLen:=by
 rcases h.2 with⟨rfl,rfl⟩|⟨g,cap,cur,rfl,_,_,h1,h2,_⟩
 .exact⟨none,0,rfl,Qab _,Qbf _⟩
 .exact⟨_,_,rfl,h1,h2⟩
def gY {F:Nat->Prop}{ops:Array Oper}{rest:List Oper}{o:Oper}{a:Act}{Q:Exit->Act->World->Prop}(hgd:o.guard=none)(s x:Operand)(t:TypeId)
 (ho:o.op= .call {callee:= .builtin .append,args:= #[s,x],argTypes:= #[t,t]})
 (base:Nat)(e:TypeId)(i:TypeInfo)(z:Value)(size bytes:Nat)(ht:P.underlying t=some (.slice e))(hi:P.info? e=some i)(hz:i.zero=some z)
 (hsize:i.size=size)(hby:i.bytes=bytes)(hzs:z.cells.size=size)(hsz:0<size)
 (v:Value)(n:Nat)(xs:List Value)(hs:a.eval s=v)(hown:w.ownsRow base e size v n xs)
 (sv:Value)(m:Nat)(news:List Value)(hx:a.eval x=sv)(hr:ct F w size sv m news)(h1:∀u∈news,u.oneCell'=true)
 (h63:n+m<=maxLen)(hbytes:(n+m)*bytes<=140737488355328)(hbase:base<=w.heap.size)
 (h:∀a' c' w',w'.ownsRow base e size (.slice a' (n+m) c') (n+m) (xs++news)->w.grownBy w' v.ownBlock->((Value.slice a' (n+m) c').ownBlock=v.ownBlock\/(Value.slice a' (n+m) c').ownBlock=some w.heap.size)->wpList P ops Q rest (a.put o.dst (.slice a' (n+m) c')) w'):wpList P ops Q (o::rest) a w:=
 ql w hgd s x t ho base e i z size bytes ht hi hz hsize hby hzs hsz v n xs hs hown sv m news hx hr h1 h63 hbytes hbase λv' w' h2 h3 h4=>by
  obtain⟨a',c',rfl,_,_⟩:=fe h2;exact h a' c' w' h2 h3 h4
end
abbrev aC(w W:World):Prop:=Below w.heap.size w W
abbrev xC:=Calls prog
@[simp]abbrev bJ(w:World)(b o:Nat)(v:Value):Prop:=w.cell? ⟨b,o,none⟩=some v
@[simp]abbrev bW(w:World)(b:Nat)(o:Obj):Prop:=w.heap[b]? =some o
abbrev xF:Nat->Prop:=λ_=>False
abbrev xI(n:Int):Value:=.int .i64 n
abbrev xS(s:ByteArray):Value:=.string s
abbrev xL(a:Option Addr)(n c:Nat):Value:=.slice a n c
abbrev xB(b:Bool):Value:=.bool b
abbrev xP(b:Nat):Value:=.pointer (some ⟨b,0,none⟩)
abbrev xR(v:Value):Ending:=.returned v
abbrev ax:=World
abbrev aY:=ByteArray
abbrev aA:=Value
abbrev aV:=Nat->Prop
abbrev fx:=Option Addr
@[simp]abbrev ou(w u:World)(o:Nat)(v:Value):Prop:=w.cell? ⟨u.heap.size,o,none⟩=some v
@[simp]abbrev yY(w u:World)(o:Nat)(v:Value):Prop:=w.cell? ⟨u.heap.size+1,o,none⟩=some v
@[simp]abbrev dk(w u:World)(o:Obj):Prop:=w.heap[u.heap.size]? =some o
def dw {P:Program}{f:FuncId}{a:Array Value}{w u:World}{x:Ending}{R:Ending->World->Prop}(h:Calls P f a w λe w'=>e=x/\u=w')(k:R x u):Calls P f a w R:=h.mono (by rintro e w'⟨rfl,rfl⟩;exact k)
def cC {P:Program}{f:FuncId}{a:Array Value}{w:World}{x:Ending}{S:World->Prop}{R:Ending->World->Prop}(h:Calls P f a w λe w'=>e=x/\S w')(k:∀w',S w'->R x w'):Calls P f a w R:=h.mono (by rintro e w'⟨rfl,g⟩;exact k w' g)
def bY {α:Type _}(a:α):∃b,b=a:=⟨a,rfl⟩
def jN {α:Type _}(a:α):∃b,a=b:=⟨a,rfl⟩
abbrev xZ(w:World):Nat:=w.heap.size
abbrev xK(c:Array Value)(t:TypeId):Obj:=.cells c t (0,0)
abbrev xSc(w:World)(b o:Nat)(v:Value):World:=w.setCell ⟨b,o,none⟩ v
abbrev cu(v:Value)(w:World):Ending->World->Prop:=λe w'=>e= .returned v/\Below w.heap.size w w'
abbrev jt(v:Value)(w:World):Ending->World->Prop:=λe w'=>e= .returned v/\w=w'
def Hd(p:Prop):Prop:=p
theorem Hd.o {p:Prop}(h:Hd p):p:=h
def ag {p:Prop}(h:p):Hd p:=h
def gQ {w:World}{Q:World->Prop}(h:∀W,Below w.heap.size w W->Q W):Hd (∀W,Below w.heap.size w W->Q W):=h
def bU {w:World}{o:Obj}:Below w.heap.size w (w.alloc o):=(Qbg _ _).alloc (Qab _) _
def dS {n:Nat}{w:World}:Below n w w:=Qbg _ _
def bT {n:Nat}:n<=n:=Qab _
def eG {α:Type _}(l:List α)(i:Nat)(h:i<l.length):∃x,l[i]? =some x:=⟨_,Qac h⟩
def iY {a b:Option Addr}{n m c d:Nat}(h:Value.slice a n c=.slice b m d):a=b/\c=d:=by simp only[Value.slice.injEq]at h;exact⟨h.1,h.2.2⟩
def mu {W:World}{b:Nat}{cs:Array Value}{t:TypeId}(h:W.heap[b]? =some (.cells cs t (0,0))):W.frozen? ⟨b,0,none⟩=false/\W.frozen? ⟨b,1,none⟩=false:=⟨by simp[World.frozen?,h],by simp[World.frozen?,h]⟩
def hZ {W:World}{b:Nat}{cs:Array Value}{t:TypeId}(h:W.heap[b]? =some (.cells cs t (0,0))):W.frozen? ⟨b,0,none⟩=false/\W.frozen? ⟨b,1,none⟩=false/\W.frozen? ⟨b,2,none⟩=false/\W.frozen? ⟨b,3,none⟩=false:=⟨by simp[World.frozen?,h],by simp[World.frozen?,h],by simp[World.frozen?,h],by simp[World.frozen?,h]⟩
def xf8 {W:World}{b:Nat}{cs:Array Value}{t:TypeId}(h:W.heap[b]? =some (.cells cs t (0,0))):W.frozen? ⟨b,0,none⟩=false/\W.frozen? ⟨b,1,none⟩=false/\W.frozen? ⟨b,2,none⟩=false/\W.frozen? ⟨b,3,none⟩=false/\W.frozen? ⟨b,4,none⟩=false/\W.frozen? ⟨b,5,none⟩=false/\W.frozen? ⟨b,6,none⟩=false/\W.frozen? ⟨b,7,none⟩=false:=⟨by simp[World.frozen?,h],by simp[World.frozen?,h],by simp[World.frozen?,h],by simp[World.frozen?,h],by simp[World.frozen?,h],by simp[World.frozen?,h],by simp[World.frozen?,h],by simp[World.frozen?,h]⟩
abbrev iE:Array Value:=#[.int .i64 0, .int .i64 0, .string ⟨#[]⟩, .slice none 0 0]
instance xca(b o:Nat):CoeDep (Nat×Nat) (b,o) Addr:=⟨⟨b,o,none⟩⟩
instance xcb(b o:Nat):CoeDep (Nat×Nat) (b,o) (Option Addr):=⟨some ⟨b,o,none⟩⟩
instance xcc(b:World)(o:Nat):CoeDep (World×Nat) (b,o) Addr:=⟨⟨b.heap.size,o,none⟩⟩
instance xcd(b:World)(o:Nat):CoeDep (List World×Nat) ([b],o) Addr:=⟨⟨b.heap.size+1,o,none⟩⟩
instance xce(b:World)(o:Nat):CoeDep (List World×Nat) ([b,b],o) Addr:=⟨⟨b.heap.size+1+1,o,none⟩⟩
instance xcf(b:World)(o:Nat):CoeDep (List World×Nat) ([b,b,b],o) Addr:=⟨⟨b.heap.size+1+1+1,o,none⟩⟩
instance xcg(b:World):CoeDep World b Nat:=⟨b.heap.size⟩
instance xch(b:World):CoeDep (List World) [b] Nat:=⟨b.heap.size+1⟩
instance xci(b:World):CoeDep (List World) [b,b] Nat:=⟨b.heap.size+1+1⟩
instance xcj(b:World):CoeDep (List World) [b,b,b] Nat:=⟨b.heap.size+1+1+1⟩
instance xck:CoeDep Unit () Value:=⟨.slice none 0 0⟩
instance xcl:CoeDep Unit () ByteArray:=⟨⟨#[]⟩⟩
instance xcm:CoeDep String "" Value:=⟨.string ⟨#[]⟩⟩
instance xcn(n:Int):CoeDep Int n Value:=⟨.int .i64 n⟩
instance xco(n:ByteArray):CoeDep ByteArray n Value:=⟨.string n⟩
instance xcp(n:Bool):CoeDep Bool n Value:=⟨.bool n⟩
instance xcq(n:Nat):CoeDep Nat n Value:=⟨.int .i64 n⟩
instance xcr(b:World)(o:Nat):CoeDep (World×Nat) (b,o) (Option Addr):=⟨some ⟨b.heap.size,o,none⟩⟩
instance Ri(b:World)(o:Nat):CoeDep (List World×Nat) ([b],o) (Option Addr):=⟨some ⟨b.heap.size+1,o,none⟩⟩
structure Ev(M:aV)(w:ax)(M':aV)(w':ax):Prop where
 only:ao M w w'
 sub:∀i,M' i->M i\/w.heap.size<=i
theorem Ev.refl(M:aV)(w:ax):Ev M w M w:=⟨ao.refl M w,λ_ h=> .inl h⟩
theorem Ev.trans {M M' M'':aV}{w w' w'':ax}(h:Ev M w M' w')(k:Ev M' w' M'' w''):Ev M w M'' w'':=
 ⟨h.only.cV k.only λi hi bH=>(h.sub i hi).elim (λh=>h) (λh=>by omega),
  λi hi=>(k.sub i hi).elim (h.sub i) λh1=> .inr (Qcg h.only.size h1)⟩
theorem Ev.az {M:aV}{w w':ax}(h:aC w w'):Ev M w M w':=⟨ao.az h,λ_ h=> .inl h⟩
theorem Ev.drewN(M:aV)(w:ax)(n:Nat):Ev M w M (w.drewN n):=⟨(ao.refl M w).drewN n,λ_ h=> .inl h⟩
theorem ct.ev {M M':aV}{w w':ax}{size n:Nat}{v:aA}{xs:List aA}(h:ct (λi=>¬M i) w size v n xs)(k:Ev M w M' w'):ct (λi=>¬M' i) w' size v n xs:=
 (ct.only (F:=λi=>¬M i/\i<w) (h.mono λi hi hl=>⟨hi,hl⟩) k.only (λi hi=>hi.1)).mono λi hi _ h1=>(k.sub i h1).elim hi.1 λh2=>by omega
class aD(α:Type)where
 size:Nat
 rep:(Nat->Prop)->ax->List aA->α->Prop
 len:∀{M w cs x},rep M w cs x->cs.length=size
 flat:∀{M w cs x},rep M w cs x->∀u∈cs,u.oneCell'=true
 ev:∀{M M' w w' cs x},rep M w cs x->Ev M w M' w'->rep M' w' cs x
def ab {α:Type} [aD α](M:aV)(w:ax)(v:aA)(xs:List α):Prop:=
 ∃css:List (List aA),ct (λi=>¬M i) w (aD.size α) v xs.length css.flatten/\css.length=xs.length/\∀(i:Nat)(cs:List aA)(x:α),css[i]? =some cs->xs[i]? =some x->aD.rep M w cs x
section
variable {α:Type} [aD α]{M M':aV}{w w':ax}{v:aA}{xs:List α}
theorem ab.ev(h:ab M w v xs)(k:Ev M w M' w'):ab M' w' v xs:=by
 obtain⟨css,h1,h2,h3⟩:=h;exact⟨css,h1.ev k,h2,λi cs x hc hx=>aD.ev (h3 i cs x hc hx) k⟩
theorem ab.ae(h:ab M w v xs)(k:aC w w'):ab M w' v xs:=h.ev (Ev.az k)
theorem ab.nil(M:aV)(w:ax):ab (α:=α) M w () []:=⟨[],ct.nil _ _ _,rfl,λi cs x h=>by simp at h⟩
def iF {css:List (List aA)}{size:Nat}(hs:∀(i:Nat)(cs:List aA),css[i]? =some cs->cs.length=size):∀(i:Nat)(cs:List aA)(j:Nat)(u:aA),css[i]? =some cs->cs[j]? =some u->css.flatten[i*size+j]? =some u:=by
 induction css with
 |nil=>intro i cs j u h;simp at h
 |cons a r ih=>
  intro i cs j u hi hj;have ha:a.length=size:=hs 0 a rfl;cases i with
  |zero=>
   simp at hi;subst hi;have Ck:j<a.length:=(Qad.1 hj).1;rw[List.flatten_cons,Nat.zero_mul,Nat.zero_add,Qbc Ck];exact hj
  |succ i=>
   have Zd:r[i]? =some cs:=by simpa using hi
   have:=ih (λk c hk=>hs (k+1) c (by simpa using hk)) i cs j u Zd hj;rw[List.flatten_cons,Qbd (by rw[ha,Nat.succ_mul];omega),ha];rw[show(i+1)*size+j-size=i*size+j from by rw[Nat.succ_mul];omega];exact this
theorem ab.aq(h:ab M w v xs):∃a cap,v=xL a xs.length cap/\xs.length<=cap/\cap<=9223372036854775807/\(0<xs.length->∃b off,a=some ⟨b,off,none⟩/\¬M b/\b<w.heap.size/\
 ∀(i:Nat)(x:α),xs[i]? =some x->∃cs,aD.rep M w cs x/\∀(j:Nat)(u:aA),cs[j]? =some u->bJ w b (off+i*aD.size α+j) u):=by
 obtain⟨css,⟨hl,a,cap,hv,hc,hm,hx⟩,h2,h3⟩:=h;refine⟨a,cap,hv,hc,by unfold maxLen at hm;omega,λhn=> ?_⟩;have⟨b,off,ha,hF,hb,hcell⟩:=hx hn;have hlen:∀(i:Nat)(cs:List aA),css[i]? =some cs->cs.length=aD.size α:=λi cs hcs=>by
  have hi:i<xs.length:=by rw[<-h2];exact(Qad.1 hcs).1
  exact aD.len (h3 i cs _ hcs (Qac hi))
 refine⟨b,off,ha,hF,hb,λi x hxi=> ?_⟩;have hi:i<css.length:=by rw[h2];exact(Qad.1 hxi).1
 exact⟨css[i],h3 i _ x (Qac hi) hxi,λj u hu=>by rw[Nat.add_assoc];exact hcell _ u (iF hlen i _ j u (Qac hi) hu)⟩
end
structure br where
 an:Int
 of:Int
 deriving DecidableEq
inductive aJ where
 |mk(an n:Int)(s:aY)(l:List aJ)
structure aH where
 ai:aY
 type:br
 indexed:Bool
structure aI where
 ai:aY
 ah:List aH
inductive aG where
 |mk(an n:Int)(s:aY)(kids:List aG)
structure aN where
 an:Int
 field:aY
 ai:aY
 more:aY
 type:br
 cX:aY
 bZ:aY
structure aQ where
 au:aI
 aw:List aN
structure bF where
 id:Int
 cL:Int
 cQ:Int
 aZ:List aJ
structure bj where
 ai:aY
 id:Int
structure aW where
 aK:List aQ
 aP:List bF
 aF:List bj
 next:Int
def eT {M:aV}{w:ax}{α:Type} [aD α]{v:aA}{xs:List α}(h:ab M w v xs):v.oneCell'=true:=by
 obtain⟨css,⟨_,a,cap,rfl,_⟩,_⟩:=h;rfl
instance:aD aH where
 size:=4
 rep:=λ_ _ cs x=>cs=[xS x.ai,xI x.type.an,xI x.type.of,xB x.indexed]/\x.ai.size<=maxLen
 len:=λh=>by rw[h.1];rfl
 flat:=λh u hu=>by rw[h.1]at hu;simp at hu;rcases hu with rfl|rfl|rfl|rfl<;>rfl
 ev:=λh _=>h
instance:aD aN where
 size:=8
 rep:=λ_ _ cs x=>cs=[xI x.an,xS x.field,xS x.ai,xS x.more,xI x.type.an,xI x.type.of,xS x.cX,xS x.bZ]/\x.field.size<=maxLen/\x.ai.size<=maxLen/\x.more.size<=maxLen/\x.cX.size<=maxLen/\x.bZ.size<=maxLen
 len:=λh=>by rw[h.1];rfl
 flat:=λh u hu=>by rw[h.1]at hu;simp at hu;rcases hu with rfl|rfl|rfl|rfl|rfl|rfl|rfl|rfl<;>rfl
 ev:=λh _=>h
instance:aD bj where
 size:=2
 rep:=λ_ _ cs x=>cs=[xS x.ai,xI x.id]/\x.ai.size<=maxLen
 len:=λh=>by rw[h.1];rfl
 flat:=λh u hu=>by rw[h.1]at hu;simp at hu;rcases hu with rfl|rfl<;>rfl
 ev:=λh _=>h
instance:aD Int where
 size:=1
 rep:=λ_ _ cs x=>cs=[xI x]
 len:=λh=>by rw[h];rfl
 flat:=λh u hu=>by rw[h]at hu;simp at hu;subst hu;rfl
 ev:=λh _=>h
instance:aD aI where
 size:=2
 rep:=λM w cs x=>∃fv,cs=[xS x.ai,fv]/\ab M w fv x.ah/\x.ai.size<=maxLen
 len:=λ⟨_,h,_⟩=>by rw[h];rfl
 flat:=λ⟨_,h,h1,_⟩u hu=>by rw[h]at hu;simp at hu;rcases hu with rfl|rfl;rfl;exact eT h1
 ev:=λ⟨fv,h,h1,h2⟩k=>⟨fv,h,h1.ev k,h2⟩
instance:aD aQ where
 size:=3
 rep:=λM w cs x=>∃fv cv,cs=[xS x.au.ai,fv,cv]/\ab M w fv x.au.ah/\ab M w cv x.aw/\x.au.ai.size<=maxLen
 len:=λ⟨_,_,h,_⟩=>by rw[h];rfl
 flat:=λ⟨_,_,h,h1,h2,_⟩u hu=>by rw[h]at hu;simp at hu;rcases hu with rfl|rfl|rfl;rfl;exact eT h1;exact eT h2
 ev:=λ⟨fv,cv,h,h1,h2,h3⟩k=>⟨fv,cv,h,h1.ev k,h2.ev k,h3⟩
mutual
inductive eU(M:aV)(w:ax):List aA->aJ->Prop
 |mk(k n:Int)(s:aY)(l:List aJ)(a:aA)(css:List (List aA)):ct (λi=>¬M i) w 4 a l.length css.flatten->s.size<=maxLen->mB M w css l->eU M w [xI k,xI n,xS s,a] (.mk k n s l)
inductive mB(M:aV)(w:ax):List (List aA)->List aJ->Prop
 |nil:mB M w [] []
 |cons(cs:List aA)(v:aJ)(css:List (List aA))(l:List aJ):eU M w cs v->mB M w css l->mB M w (cs::css) (v::l)
end
mutual
theorem eU.yZ {M M':aV}{w w':ax}{cs:List aA}{v:aJ}(h:eU M w cs v)(k:Ev M w M' w'):eU M' w' cs v:=by
 match h with
 | .mk kd n s l a css h1 hs h2=>exact .mk kd n s l a css (h1.ev k) hs (h2.yZ k)
theorem mB.yZ {M M':aV}{w w':ax}{css:List (List aA)}{l:List aJ}(h:mB M w css l)(k:Ev M w M' w'):mB M' w' css l:=by
 match h with
 | .nil=>exact .nil
 | .cons cs v css l h1 h2=>exact .cons cs v css l (h1.yZ k) (h2.yZ k)
end
variable{F:aV}
def cells_one {w:ax}{size n:Nat}{v:aA}{xs:List aA}(h:ct F w size v n xs):v.oneCell'=true:=by obtain⟨_,a,cap,rfl,_⟩:=h;rfl
instance:aD aJ where
 size:=4
 rep:=eU
 len:=λh=>by cases h;rfl
 flat:=λh u hu=>by
  cases h with
  |mk k n s l a css h1 hs h2=>simp at hu;rcases hu with rfl|rfl|rfl|rfl;rfl;rfl;rfl;exact cells_one h1
 ev:=λh k=>h.yZ k
theorem mB.iff {M:aV}{w:ax}:∀{css:List (List aA)}{l:List aJ},mB M w css l↔css.length=l.length/\∀(i:Nat)(cs:List aA)(x:aJ),css[i]? =some cs->l[i]? =some x->eU M w cs x
 |[],[]=>⟨λ_=>⟨rfl,λi cs x h=>by simp at h⟩,λ_=> .nil⟩
 |[],_::_=>⟨λh=>(by cases h),λh=>(by simp at h)⟩
 |_::_,[]=>⟨λh=>(by cases h),λh=>(by simp at h)⟩
 |cs::css,v::l=>by
  constructor
  .intro h;cases h with
   |cons _ _ _ _ h1 h2=>
    have⟨e,h3⟩:=(mB.iff (css:=css) (l:=l)).1 h2;refine⟨by simp[e],λi c x hc hx=> ?_⟩;cases i with
    |zero=>simp at hc hx;subst hc hx;exact h1
    |succ i=>exact h3 i c x (by simpa using hc) (by simpa using hx)
  .rintro⟨e,h⟩;exact .cons _ _ _ _ (h 0 cs v rfl rfl) ((mB.iff (css:=css) (l:=l)).2 ⟨by simpa using e,λi c x hc hx=>h (i+1) c x (by simpa using hc) (by simpa using hx)⟩)
variable{l:List aJ}{s:aY}{cs:List aA}
theorem eU.iff {M:aV}{w:ax}{k n:Int}:eU M w cs (.mk k n s l)↔∃a,cs=[xI k,xI n,xS s,a]/\ab M w a l/\s.size<=maxLen:=by
 constructor
 .intro h;cases h with
  |mk _ _ _ _ a css h1 hs h2=>
   have⟨e,h3⟩:=mB.iff.1 h2;exact⟨a,rfl,⟨css,h1,e,h3⟩,hs⟩
 .rintro⟨a,rfl,⟨css,h1,e,h3⟩,hs⟩;exact .mk k n s l a css h1 hs (mB.iff.2 ⟨e,h3⟩)
mutual
inductive cO(M:aV)(w:ax):List aA->aG->Prop
 |mk(k n:Int)(s:aY)(l:List aG)(a:aA)(css:List (List aA)):ct (λi=>¬M i) w 4 a l.length css.flatten->s.size<=maxLen->jA M w css l->cO M w [xI k,xI n,xS s,a] (.mk k n s l)
inductive jA(M:aV)(w:ax):List (List aA)->List aG->Prop
 |nil:jA M w [] []
 |cons(cs:List aA)(v:aG)(css:List (List aA))(l:List aG):cO M w cs v->jA M w css l->jA M w (cs::css) (v::l)
end
mutual
theorem cO.yZ {M M':aV}{w w':ax}{cs:List aA}{v:aG}(h:cO M w cs v)(k:Ev M w M' w'):cO M' w' cs v:=by
 match h with
 | .mk kd n s l a css h1 hs h2=>exact .mk kd n s l a css (h1.ev k) hs (h2.yZ k)
theorem jA.yZ {M M':Nat->Prop}{w w':World}{css:List (List Value)}{l:List aG}(h:jA M w css l)(k:Ev M w M' w'):jA M' w' css l:=by
 match h with
 | .nil=>exact .nil
 | .cons cs v css l h1 h2=>exact .cons cs v css l (h1.yZ k) (h2.yZ k)
end
instance:aD aG where
 size:=4
 rep:=cO
 len:=λh=>by cases h;rfl
 flat:=λh u hu=>by
  cases h with
  |mk k n s l a css h1 hs h2=>simp at hu;rcases hu with rfl|rfl|rfl|rfl;rfl;rfl;rfl;exact cells_one h1
 ev:=λh k=>h.yZ k
theorem jA.iff {M:aV}{w:ax}:∀{css:List (List aA)}{l:List aG},jA M w css l↔css.length=l.length/\∀(i:Nat)(cs:List aA)(x:aG),css[i]? =some cs->l[i]? =some x->cO M w cs x
 |[],[]=>⟨λ_=>⟨rfl,λi cs x h=>by simp at h⟩,λ_=> .nil⟩
 |[],_::_=>⟨λh=>(by cases h),λh=>(by simp at h)⟩
 |_::_,[]=>⟨λh=>(by cases h),λh=>(by simp at h)⟩
 |cs::css,v::l=>by
  constructor
  .intro h;cases h with
   |cons _ _ _ _ h1 h2=>
    have⟨e,h3⟩:=(jA.iff (css:=css) (l:=l)).1 h2;refine⟨by simp[e],λi c x hc hx=> ?_⟩;cases i with
    |zero=>simp at hc hx;subst hc hx;exact h1
    |succ i=>exact h3 i c x (by simpa using hc) (by simpa using hx)
  .rintro⟨e,h⟩;exact .cons _ _ _ _ (h 0 cs v rfl rfl) ((jA.iff (css:=css) (l:=l)).2 ⟨by simpa using e,λi c x hc hx=>h (i+1) c x (by simpa using hc) (by simpa using hx)⟩)
theorem cO.iff {M:aV}{w:ax}{k n:Int}{l:List aG}:cO M w cs (.mk k n s l)↔∃a,cs=[xI k,xI n,xS s,a]/\ab M w a l/\s.size<=maxLen:=by
 constructor
 .intro h;cases h with
  |mk _ _ _ _ a css h1 hs h2=>
   have⟨e,h3⟩:=jA.iff.1 h2;exact⟨a,rfl,⟨css,h1,e,h3⟩,hs⟩
 .rintro⟨a,rfl,⟨css,h1,e,h3⟩,hs⟩;exact .mk k n s l a css h1 hs (jA.iff.2 ⟨e,h3⟩)
instance:aD bF where
 size:=4
 rep:=λM w cs x=>∃vv,cs=[xI x.id,xI x.cL,xI x.cQ,vv]/\ab M w vv x.aZ
 len:=λ⟨_,h,_⟩=>by rw[h];rfl
 flat:=λ⟨_,h,h1⟩u hu=>by rw[h]at hu;simp at hu;rcases hu with rfl|rfl|rfl|rfl;rfl;rfl;rfl;exact eT h1
 ev:=λ⟨vv,h,h1⟩k=>⟨vv,h,h1.ev k⟩
def cB {α:Type} [aD α](M:aV)(w:ax)(v:aA)(x:α):Prop:=∃cs,v= .agg cs.toArray/\aD.rep M w cs x
theorem cB.ev {α:Type} [aD α]{M M':aV}{w w':ax}{v:aA}{x:α}(h:cB M w v x)(k:Ev M w M' w'):cB M' w' v x:=by
 obtain⟨cs,h1,h2⟩:=h;exact⟨cs,h1,aD.ev h2 k⟩
theorem cB.ae {α:Type} [aD α]{M:aV}{w w':ax}{v:aA}{x:α}(h:cB M w v x)(k:aC w w'):cB M w' v x:=h.ev (Ev.az k)
def cm(w:ax)(R:aA->ax->Prop)(e:Ending)(w':ax):Prop:=∃v,e=xR v/\R v w'/\aC w w'
abbrev xG(f:FuncId)(a:Array Value)(w:World)(R:Value->World->Prop):Prop:=Calls prog f a w (cm w R)
def Bd(M:aV)(w:ax):Prop:=∀i,M i->i<w.heap.size
theorem Bd.ae {M:aV}{w w':ax}(h:Bd M w)(k:aC w w'):Bd M w':=λi hi=>Qde (h i hi) k.size
def bu(v:aA)(M:aV):Nat->Prop:=λi=>M i\/v.ownBlock=some i
def aS {α:Type} [aD α](M:aV)(base:Nat)(e:TypeId)(w:ax)(v:aA)(xs:List α):Prop:=
 ∃css:List (List aA),w.ownsRow base e (aD.size α) v xs.length css.flatten/\css.length=xs.length/\∀(i:Nat)(cs:List aA)(x:α),css[i]? =some cs->xs[i]? =some x->aD.rep (bu v M) w cs x
variable{N:aV}
theorem Ev.dL {M:aV}(w:ax)(h:∀i,N i->M i):Ev M w N w:=⟨ao.refl M w,λi hi=> .inl (h i hi)⟩
section
variable {α:Type} [aD α]{M:aV}{base:Nat}{e:TypeId}{w w':ax}{v v':aA}{xs:List α}
theorem aS.nil(M:aV)(base:Nat)(e:TypeId)(w:ax):aS (α:=α) M base e w () []:=⟨[],World.ownsRow_nil w base e _,rfl,λi cs x h=>by simp at h⟩
theorem aS.made(M:aV)(cur:Array aA)(cap:Nat)(hb:base<=w)(hm:cap<=maxLen)(hs:cur.size=cap*aD.size α):aS (α:=α) M base e (w.alloc (.cells cur e)) (xL (w,0) 0 cap) []:=
 ⟨[],World.ownsRow_made w cur cap hb hm hs,rfl,λi cs x h=>by simp at h⟩
def y9 {size n:Nat}(h:w.ownsRow base e size v n cs)(hb:aC w w'):w'.ownsRow base e size v n cs:=by
 refine⟨h.1,?_⟩;rcases h.2 with h0|⟨g,cap,cur,h1,h2,h3,h4⟩
 .exact .inl h0
 .exact .inr ⟨g,cap,cur,h1,h2,(hb.block g (Qaa.1 h3).1).trans h3,h4⟩
theorem aS.ae(h:aS M base e w v xs)(hb:aC w w'):aS M base e w' v xs:=by
 obtain⟨css,h1,h2,h3⟩:=h;exact⟨css,y9 h1 hb,h2,λi cs x hc hx=>aD.ev (h3 i cs x hc hx) (Ev.az hb)⟩
theorem aS.alloc(h:aS M base e w v xs)(o:Obj):aS M base e (w.alloc o) v xs:=h.ae ((Qbg _ w).alloc bT o)
theorem aS.aq(h:aS M base e w v xs):∃a cap,v=xL a xs.length cap/\xs.length<=cap/\cap<=9223372036854775807:=by
 obtain⟨css,h1,_⟩:=h;have⟨a,c,h2,h3,h4⟩:=fe h1;exact⟨a,c,h2,h3,by unfold maxLen at h4;omega⟩
theorem aS.cG(h:aS M base e w v xs):∀k,v.ownBlock=some k->base<=k/\k<w.heap.size:=by
 obtain⟨css,h1,_⟩:=h;exact h1.lt
theorem aS.slice(h:aS M base e w v xs)(hM:∀i,M i->i<base):ab M w v xs:=by
 obtain⟨css,h1,h2,h3⟩:=h;refine⟨css,(ct.FQ h1).mono λi hi _ Ze=> ?_,h2,λi cs x hc hx=>aD.ev (h3 i cs x hc hx) (Ev.dL w λi hi=> .inl hi)⟩;have:=(h1.lt i hi).1;have:=hM i Ze;omega
theorem Ev.grown(hg:w.grownBy w' v.ownBlock)(hv:v'.ownBlock=v.ownBlock\/v'.ownBlock=some w.heap.size):Ev (bu v M) w (bu v' M) w':=by
 refine⟨(ao.refl _ w).grown hg λg hg'=> .inl (.inr hg'),λi hi=> ?_⟩;rcases hi with hi|hi
 .exact .inl (.inl hi)
 .rcases hv with hv|hv
  .exact .inl (.inr (hv▸hi))
  .rw[hv]at hi;cases hi;exact .inr bT
theorem aS.snoc {css:List (List aA)}{x:α}(h2:css.length=xs.length)(h3:∀(i:Nat)(cs:List aA)(x:α),css[i]? =some cs->xs[i]? =some x->aD.rep (bu v M) w cs x)
 (hx:aD.rep (bu v M) w cs x)(ho:w'.ownsRow base e (aD.size α) v' (xs.length+1) (css.flatten++cs))(hg:w.grownBy w' v.ownBlock)(hv:v'.ownBlock=v.ownBlock\/v'.ownBlock=some w.heap.size):
 aS M base e w' v' (xs++[x]):=by
 refine⟨css++[cs],by simpa using ho,by simp[h2],λi c y hc hy=> ?_⟩;by_cases hi:i<css.length
 .rw[Qbc hi]at hc;rw[Qbc (by omega)]at hy;exact aD.ev (h3 i c y hc hy) (Ev.grown hg hv)
 .rw[Qbd (by omega)]at hc;rw[Qbd (by omega)]at hy;rw[h2]at hc;by_cases h0:i-xs.length=0
  .rw[h0]at hc hy;simp at hc hy;subst hc hy;exact aD.ev hx (Ev.grown hg hv)
  .rw[List.getElem?_eq_none (by simp;omega)]at hc;cases hc
theorem aS.app {css ME:List (List aA)}{ys:List α}(h2:css.length=xs.length)(h3:∀(i:Nat)(cs:List aA)(x:α),css[i]? =some cs->xs[i]? =some x->aD.rep (bu v M) w cs x)
 (k2:ME.length=ys.length)(k3:∀(i:Nat)(cs:List aA)(x:α),ME[i]? =some cs->ys[i]? =some x->aD.rep (bu v M) w cs x)(ho:w'.ownsRow base e (aD.size α) v' (xs.length+ys.length) (css.flatten++ME.flatten))(hg:w.grownBy w' v.ownBlock)(hv:v'.ownBlock=v.ownBlock\/v'.ownBlock=some w.heap.size):
 aS M base e w' v' (xs++ys):=by
 refine⟨css++ME,by simpa using ho,by simp[h2,k2],λi c y hc hy=> ?_⟩;by_cases hi:i<css.length
 .rw[Qbc hi]at hc;rw[Qbc (by omega)]at hy;exact aD.ev (h3 i c y hc hy) (Ev.grown hg hv)
 .rw[Qbd (by omega)]at hc;rw[Qbd (by omega)]at hy;rw[h2]at hc;exact aD.ev (k3 _ c y hc hy) (Ev.grown hg hv)
end
def eE(c:Int):Bool:=decide (97<=c/\c<=122)
def Kl(c:Int)(w:ax)(h0:0<=c)(h1:c<=255):
 xC 167 #[.int .u8 c] w (jt (xB (eE c)) w):=by
 by_cases h2:97<=c
 .by_cases h3:c<=122
  .go_enter func167,ntmps167;go_wp2;go_ret;exact⟨bK (by simp[eE,h2,h3]),rfl⟩
  .go_enter func167,ntmps167;go_wp2;go_ret;exact⟨bK (by simp[eE,h2];omega),rfl⟩
 .go_enter func167,ntmps167;go_wp2;go_ret;exact⟨bK (by simp[eE];omega),rfl⟩
def kV(b:Bool)(c:Int)(w:ax)(hb:eE c=b)(h0:0<=c)(h1:c<=255):
 xC 167 #[.int .u8 c] w (jt b w):=by subst hb;exact Kl c w h0 h1
def bN(c:Int):Bool:=eE c||decide (48<=c/\c<=57)||decide (c=95)
def aM(s:aY):Bool:=decide (1<=s.size)&&decide (s.size<=20)&&(match s.data.toList with|[]=>false|c::r=>eE c.toNat&&(c::r).all λc=>bN c.toNat)
def aR(t:br):Bool:=if t.an=5 then decide (1<=t.of/\t.of<=4)else decide (1<=t.an/\t.an<=4/\t.of=0)
def qw(t:br)(w:ax):
 xC 168 #[.agg #[t.an,t.of]] w (cu (xB (aR t)) w):=by
 obtain⟨k,o⟩:=t;by_cases hk:k=5
 .subst hk;by_cases h1:1<=o
  .go_enter func168,ntmps168;go_wp2;go_ret;exact⟨bK (by simp[aR,h1]),bU⟩
  .go_enter func168,ntmps168;go_wp2;go_ret;exact⟨bK (by simp[aR];omega),bU⟩
 .have Xq:(k==5)=false:=by simpa using hk
  by_cases h1:1<=k
  .by_cases h2:k<=4
   .go_enter func168,ntmps168;go_wp2;go_ret;exact⟨bK (by by_cases ho:o=0<;>simp[aR,hk,h1,h2,ho]),bU⟩
   .go_enter func168,ntmps168;go_wp2;go_ret;exact⟨bK (by simp[aR,hk];omega),bU⟩
  .go_enter func168,ntmps168;go_wp2;go_ret;exact⟨bK (by simp[aR,hk];omega),bU⟩
def dz(s:aY)(k:Nat)(h:k<s.size):s.data.toList[k]? =some s[k]:=by
 rw[Qac (by simpa using h)];rfl
def Km(s:aY)(k:Nat)(h:k<s.size):s.data.toList.take (k+1)=s.data.toList.take k++[s[k]]:=by
 rw[Qbb,dz s k h];rfl
def bG(s:aY):s.data.toList.length=s.size:=by rw[Array.length_toList];rfl
def zb(s:aY)(w:ax)(hs:s.size<=maxLen):
 xC 105 #[s] w (jt (xB (aM s)) w):=by
 unfold maxLen at hs;by_cases h1:s.size<1
 .go_enter func105,ntmps105;go_wp2;go_ret;exact⟨bK (by simp[aM];omega),rfl⟩
 .by_cases h2:20<s.size
  .go_enter func105,ntmps105;go_wp2;go_ret;exact⟨bK (by simp[aM];omega),rfl⟩
  .obtain⟨c0,hc0⟩:∃c,s[0]=c:=⟨_,rfl⟩;have hb0:(c0.toNat:Int)<=255:=by have:=c0.toNat_lt;omega
   obtain⟨r,hr⟩:∃r,s.data.toList=c0::r:=by
    have h:=dz s 0 (by omega);rw[hc0]at h;cases hl:s.data.toList with
    |nil=>rw[hl]at h;simp at h
    |cons a r=>rw[hl]at h;simp at h;exact⟨r,by rw[h]⟩
   have HR:=ag hr;clear hr;cases St:eE c0.toNat
   .have HS:=ag St;clear St;go_enter func105,ntmps105;go_wp2_with fail;refine dw (kV false _ _ HS.o (by omega) hb0) ?_;go_wp2;go_ret;exact⟨bK (by simp[aM,HR.o,HS.o]),rfl⟩
   .have HS:=ag St;clear St;go_enter func105,ntmps105;go_wp2_with fail;refine dw (kV true _ _ HS.o (by omega) hb0) ?_;go_wp2_with fail;clear hc0;go_loopg [3,20]s.size(λg _ iv wr=>∃k:Nat,k<=s.size/\g=s.size-k/\iv=xI k/\Hd ((s.data.toList.take k).all (λc=>bN c.toNat)=true)/\w=wr);case atStart=>exact⟨0,Qbf _,rfl,rfl,by exact(rfl:(s.data.toList.take 0).all (λc=>bN c.toNat)=true),rfl⟩
    case round=>
     obtain⟨k,hk,rfl,rfl,HT,rfl⟩:=hrel;by_cases bH:k<s.size
     .have⟨c,hc⟩:=jN (s[k]);have Fc:(c.toNat:Int)<=255:=by have:=c.toNat_lt;omega
      have nN:=ag (Km s k bH);have CC:=ag hc;have lM:=ag (dz s k bH);have hkz:(k:Int)<s.size:=by omega
      have fin:bN c.toNat=true->(s.data.toList.take (k+1)).all (λc=>bN c.toNat)=true:=λh=>by
       rw[nN.o,List.all_append,HT.o,CC.o];simp[h]
      have pJ:=ag fin;clear fin;cases St:eE c.toNat
      .have gn:=ag St;clear St;have NO:Hd (bN c.toNat=false->aM s=false):=by
        have h:bN c.toNat=false->aM s=false:=λhn=>by
         have hm:c∈s.data.toList:=Qaf (by rw[lM.o,CC.o]);have ha:(s.data.toList.all λc=>bN c.toNat)=false:=by
          rw[List.all_eq_false];exact⟨c,hm,by simp[hn]⟩
         unfold aM;rw[HR.o]at ha⊢;simp only[ha,Bool.and_false]
        exact h
       by_cases hu:(c.toNat:Int)=95
       .have hub:((c.toNat:Int)!=95)=false:=by simpa using hu
        have hd1:¬(c.toNat:Int)<48:=by omega
        have hd2:57<(c.toNat:Int):=by omega
        have HU:=ag hu;clear hu;go_wp2_with fail;refine dw (kV false _ _ gn.o (by omega) Fc) ?_;go_wp2;go_roundg(s.size-(k+1));case measure=>omega
        case rel=>exact⟨k+1,by omega,rfl,by go_num,pJ.o (by simp[bN,HU.o]),rfl⟩
       .have hub:((c.toNat:Int)!=95)=true:=by simpa using hu
        have HU:=ag hu;clear hu;by_cases hd1:(c.toNat:Int)<48
        .have HN:Hd (bN c.toNat=false):=by
          have h:bN c.toNat=false:=by
           have:=HU.o;simp only[bN,gn.o,Bool.false_or,Bool.or_eq_false_iff,decide_eq_false_iff_not];omega
          exact h
         go_wp2_with fail;refine dw (kV false _ _ gn.o (by omega) Fc) ?_;go_wp2;go_ret;refine⟨bK ?_,rfl⟩;rw[NO.o];exact HN.o
        .by_cases hd2:57<(c.toNat:Int)
         .have HN:Hd (bN c.toNat=false):=by
           have h:bN c.toNat=false:=by
            have:=HU.o;simp only[bN,gn.o,Bool.false_or,Bool.or_eq_false_iff,decide_eq_false_iff_not];omega
           exact h
          go_wp2_with fail;refine dw (kV false _ _ gn.o (by omega) Fc) ?_;go_wp2;go_ret;refine⟨bK ?_,rfl⟩;rw[NO.o];exact HN.o
         .have HN:Hd (bN c.toNat=true):=by
           have h:bN c.toNat=true:=by
            simp only[bN,gn.o,Bool.false_or,Bool.or_eq_true,decide_eq_true_eq];omega
           exact h
          go_wp2_with fail;refine dw (kV false _ _ gn.o (by omega) Fc) ?_;go_wp2;go_roundg(s.size-(k+1));case measure=>omega
          case rel=>exact⟨k+1,by omega,rfl,by go_num,pJ.o (HN.o),rfl⟩
      .have gn:=ag St;clear St;go_wp2_with fail;refine dw (kV true _ _ gn.o (by omega) Fc) ?_;go_wp2;go_roundg(s.size-(k+1));case measure=>omega
       case rel=>exact⟨k+1,by omega,rfl,by go_num,pJ.o (by simp[bN,gn.o]),rfl⟩
     .go_wp2;go_ret;have h:=HT.o;rw[Qah (by rw[bG];omega)]at h;refine⟨bK ?_,rfl⟩;simp only[aM,HR.o]at h⊢;simp[h,HS.o];omega
def bS(f:aH):Bool:=aM f.ai&&aR f.type&&(!f.indexed||decide (f.type.an<=3))
def nk(b:Bool)(t:br)(w:ax)(hb:aR t=b):
 xC 168 #[.agg #[t.an,t.of]] w (cu b w):=by subst hb;exact qw t w
def fL(b:Bool)(s:aY)(w:ax)(hb:aM s=b)(hs:s.size<=maxLen):
 xC 105 #[s] w (jt b w):=by subst hb;exact zb s w hs
variable{o:Obj}{w W:ax}
def boxed(h:Below (w.alloc o).heap.size (w.alloc o) W):dk W w o:=(h.block w (by simp)).trans (Qbh w o)
def bt(h:Below (w.alloc o).heap.size (w.alloc o) W):aC w W:=((Qbg _ w).alloc bT o).trans (h.mono (by simp))
variable{t:TypeId}{c0 c1:aA}{g:Nat}
def ak(h:W.heap[g]? =some (xK #[c0,c1] t)):W.cell? (g,0)=some c0/\W.cell? (g,1)=some c1:=by simp[World.cell?,h]
variable{c2 c3:aA}
def af(h:W.heap[g]? =some (xK #[c0,c1,c2,c3] t)):
 W.cell? (g,0)=some c0/\W.cell? (g,1)=some c1/\W.cell? (g,2)=some c2/\W.cell? (g,3)=some c3:=by simp[World.cell?,h]
def we(f:aH)(w:ax)(hs:f.ai.size<=maxLen):
 xC 106 #[.agg #[f.ai,f.type.an,f.type.of,xB f.indexed]] w (cu (xB (bS f)) w):=by
 obtain⟨ai,⟨k,o⟩,ix⟩:=f;have IL:=ag hs;cases h1:aM ai
 .have H1:=ag h1;go_enter func106,ntmps106;go_wp2_with fail;refine dw (fL false _ _ H1.o IL.o) ?_;go_wp2;go_ret;exact⟨bK (by simp[bS,H1.o]),bU⟩
 .cases h2:aR ⟨k,o⟩
  .have H1:=ag h1;have H2:=ag h2;go_enter func106,ntmps106;go_wp2_with fail;refine dw (fL true _ _ H1.o IL.o) ?_;go_wp2_with fail;refine cC (nk false ⟨k,o⟩ _ H2.o) λw1 hb1=> ?_;go_wp2;go_ret;exact⟨bK (by simp[bS,H1.o,H2.o]),bt hb1⟩
  .have H1:=ag h1;have H2:=ag h2;cases ix
   .go_enter func106,ntmps106;go_wp2_with fail;refine dw (fL true _ _ H1.o IL.o) ?_;go_wp2_with fail;refine cC (nk true ⟨k,o⟩ _ H2.o) λw1 hb1=> ?_;have⟨q0,q1,q2,q3⟩:=af (boxed hb1);have bz:=ag hb1;go_wp2;go_ret;exact⟨bK (by simp[bS,H1.o,H2.o]),bt bz.o⟩
   .go_enter func106,ntmps106;go_wp2_with fail;refine dw (fL true _ _ H1.o IL.o) ?_;go_wp2_with fail;refine cC (nk true ⟨k,o⟩ _ H2.o) λw1 hb1=> ?_;have⟨q0,q1,q2,q3⟩:=af (boxed hb1);have bz:=ag hb1;go_wp2;go_ret;exact⟨bK (by simp[bS,H1.o,H2.o]),bt bz.o⟩
def cq(a b:aY):Bool:=a.toList==b.toList
def CP(f:aH)(ai:aY)(p:Nat)(w:ax)(hp:bJ w p 0 ai)(iy:p<w):
 xC 170 #[.agg #[f.ai,f.type.an,f.type.of,xB f.indexed],xP p] w (cu (xB (cq f.ai ai)) w):=by
 obtain⟨fn,⟨k,o⟩,ix⟩:=f;have Vy:p≠w:=by omega
 go_enter func170,ntmps170;go_wp2;go_ret;exact⟨rfl,bU⟩
def idxOf {α:Type}(p:α->Bool)(xs:List α):Int:=match xs.findIdx? p with|some i=>i|none=> -1
variable{k:Nat}
def idxOf_hit {α:Type}{p:α->Bool}{xs:List α}{x:α}(h:∀y∈xs.take k,p y=false)(hx:xs[k]? =some x)(hp:p x=true):idxOf p xs=k:=by
 unfold idxOf;have:xs.findIdx? p=some k:=by
  rw[List.findIdx?_eq_some_iff_getElem];have hk:k<xs.length:=(Qad.1 hx).1;refine⟨hk,by rw[(Qad.1 hx).2];exact hp,λj hj=> ?_⟩;have:=h xs[j] (List.mem_take_iff_getElem.2 ⟨j,by omega,rfl⟩);simp[this]
 rw[this]
def kW {α:Type}{p:α->Bool}{xs:List α}(h:∀y∈xs,p y=false):idxOf p xs= -1:=by
 unfold idxOf;rw[List.findIdx?_eq_none_iff.2 (λx hx=>by simp[h x hx])]
def wg(M:aV)(v:aA)(w:ax)(xs:List aH)(ai:aY)(p:Nat)(h:ab M w v xs)(hp:bJ w p 0 ai)(iy:p<w):
 xC 169 #[v, .func (.func 170) #[] #[xP p]] w (cu (xI (idxOf (λf=>cq f.ai ai) xs)) w):=by
 obtain⟨a,cj,rfl,cY,hm,hc⟩:=h.aq;have HC:=ag hc;have HP:=ag hp;generalize hn:xs.length=n at*;have HN:=ag hn;go_enter func169,ntmps169;go_wp2;go_loopg [5,8]n(λg _ iv wr=>∃k:Nat,k<=n/\g=n-k/\iv=xI k/\Hd (∀x∈xs.take k,cq x.ai ai=false)/\Hd (aC w wr));case atStart=>exact⟨0,Qbf _,rfl,rfl,by {have h:∀x∈xs.take 0,cq x.ai ai=false:=(by simp);exact h},by exact(Qbg _ w)⟩
 case round=>
  obtain⟨k,hk,rfl,rfl,HT,HB⟩:=hrel;by_cases bH:k<n
  .obtain⟨b,off,rfl,hMb,hbl,hcell⟩:=HC.o (by omega);have⟨x,hx⟩:=eG xs k (by rw[HN.o];exact bH);have⟨cs,hrep,hcs⟩:=hcell k x hx;have hcl:∀(j:Nat)(u:aA),cs[j]? =some u->bJ wr b (off+k*4+j) u:=λj u hu=>(HB.o.cell (p:=⟨b,off+k*4+j,none⟩) hbl).trans (hcs j u hu);have pK:cs=[xS x.ai,xI x.type.an,xI x.type.of,xB x.indexed]:=hrep.1;subst pK;have g0:bJ wr b (off+k*4) x.ai:=hcl 0 _ rfl;have g1:=hcl 1 _ rfl;have g2:=hcl 2 _ rfl;have g3:=hcl 3 _ rfl;have hcall:=CP x ai p wr ((HB.o.cell (p:=⟨p,0,none⟩) iy).trans HP.o) (Qde iy HB.o.size);have HX:=ag hx;cases hq:cq x.ai ai
   .rw[hq]at hcall;have bI:=ag hcall;have HQ:=ag hq;go_wp2_with fail;refine bI.o.mono ?_;rintro e w1⟨rfl,hb1⟩;have bz:Hd (aC w w1):=HB.o.trans (hb1.mono HB.o.size);go_wp2;go_roundg(n-(k+1));case measure=>omega
    case rel=>exact⟨k+1,by omega,rfl,by go_num,by {have h:∀y∈xs.take (k+1),cq y.ai ai=false:=λy hy=>by {rw[Qbb,HX.o]at hy;simp at hy;rcases hy with h|h;exact HT.o y h;subst h;exact HQ.o};exact h},bz⟩
   .rw[hq]at hcall;have bI:=ag hcall;have HQ:=ag hq;go_wp2_with fail;refine bI.o.mono ?_;rintro e w1⟨rfl,hb1⟩;have bz:Hd (aC w w1):=HB.o.trans (hb1.mono HB.o.size);go_wp2;go_ret;exact⟨iX (idxOf_hit (p:=λf=>cq f.ai ai) HT.o HX.o HQ.o).symm,bz.o⟩
  .go_wp2;go_ret;have h:=HT.o;rw[Qah (by rw[HN.o];omega)]at h;exact⟨iX (kW (p:=λf:aH=>cq f.ai ai) h).symm,HB.o⟩
variable{c:aI}{v:aA}{M:aV}
def FR(h:cB M w v c):∃fv,v= .agg #[c.ai,fv]/\ab M w fv c.ah/\c.ai.size<=maxLen:=by
 obtain⟨cs,rfl,fv,rfl,h1,h2⟩:=h;exact⟨fv,rfl,h1,h2⟩
def fieldAt(c:aI)(ai:aY):Int:=idxOf (λf:aH=>cq f.ai ai) c.ah
def rj {α:Type}(p:α->Bool)(xs:List α): -1<=idxOf p xs:=by unfold idxOf;split<;>omega
def wh {α:Type}(p:α->Bool)(xs:List α):idxOf p xs<xs.length\/idxOf p xs= -1:=by
 unfold idxOf;cases h:xs.findIdx? p with
 |none=>exact .inr rfl
 |some i=>exact .inl (by have:=(List.findIdx?_eq_some_iff_getElem.1 h).1;simp;omega)
def Kn(M:Nat->Prop)(v:Value)(w:World)(c:aI)(ai:ByteArray)(h:cB M w v c):
 xC 107 #[v,ai] w (cu (.tuple #[xI (if fieldAt c ai<0 then 0 else fieldAt c ai),xB (!decide (fieldAt c ai<0))]) w):=by
 obtain⟨fv,rfl,hs,_⟩:=FR h;obtain⟨a,cap,rfl,_⟩:=hs.aq;have⟨u,hu⟩:=bY ((w.alloc (xK #[c.ai,xL a c.ah.length cap] 47)).alloc (xK #[ai] 9));have hbu:aC w u:=by rw[hu];exact bU.alloc (by simp) _
 have hpu:u.heap[w.heap.size+1]? =some (xK #[ai] 9):=by
  rw[hu];have:=Qbh (w.alloc (xK #[c.ai,xL a c.ah.length cap] 47)) (xK #[ai] 9);simpa using this
 have hcall:=wg M _ u c.ah ai [w] (hs.ae hbu) (by simp[World.cell?,hpu]) ((Qaa.1 hpu).1);have e0:fieldAt c ai=idxOf (λf=>cq f.ai ai) c.ah:=rfl;rw[<-e0]at hcall;have bI:=ag hcall;have HBU:=ag hbu;rw[hu]at bI;have HU:=ag hu;clear hcall hbu hpu hu e0 hs;by_cases hn:fieldAt c ai<0
 .rw[if_pos hn,decide_eq_true hn];generalize fieldAt c ai=at_ at*;generalize c.ah.length=n at*;go_enter func107,ntmps107;go_wp2_with fail;refine bI.o.mono ?_;rintro e w1⟨rfl,hb1⟩;rw[<-HU.o]at hb1;have bz:Hd (aC w w1):=HBU.o.trans (hb1.mono HBU.o.size);clear hb1;go_wp2;go_ret2;exact⟨rfl,bz.o⟩
 .rw[if_neg hn,decide_eq_false hn];generalize fieldAt c ai=at_ at*;generalize c.ah.length=n at*;go_enter func107,ntmps107;go_wp2_with fail;refine bI.o.mono ?_;rintro e w1⟨rfl,hb1⟩;rw[<-HU.o]at hb1;have bz:Hd (aC w w1):=HBU.o.trans (hb1.mono HBU.o.size);clear hb1;go_wp2;go_ret2;exact⟨rfl,bz.o⟩
def rq(c:aI)(k:Nat):Prop:=∀(j:Nat)(f:aH),j<k->c.ah[j]? =some f->bS f=true/\fieldAt c f.ai=j
def aX(c:aI):Bool:=aM c.ai&&decide (c.ah.length<=8)&&(List.range c.ah.length).all λk=>match c.ah[k]? with|some f=>bS f&&decide (fieldAt c f.ai=k)|none=>true
def bC(c:aI):aX c=true↔aM c.ai=true/\c.ah.length<=8/\rq c c.ah.length:=by
 unfold aX rq;simp only[Qce,decide_eq_true_eq,List.all_eq_true,List.mem_range,and_assoc];refine and_congr Iff.rfl (and_congr Iff.rfl ⟨λh j f hj hf=> ?_,λh j hj=> ?_⟩)
 .have:=h j hj;rw[hf]at this;simpa using this
 .cases hf:c.ah[j]? with
  |none=>rfl
  |some f=>simpa using h j f hj hf
def wi(h:aM c.ai=false):aX c=false:=by
 cases h2:aX c;rfl;have:=((bC c).1 h2).1;rw[h]at this;cases this
def wj(h:8<c.ah.length):aX c=false:=by
 cases h2:aX c;rfl;have:=((bC c).1 h2).2.1;omega
variable{f:aH}
def oG(hf:c.ah[k]? =some f)(h:¬(bS f=true/\fieldAt c f.ai=k)):aX c=false:=by
 cases h2:aX c;rfl;exact absurd (((bC c).1 h2).2.2 k f (Qad.1 hf).1 hf) h
def FT(c:aI)(s:aY): -1<=fieldAt c s:=rj _ _
def wm(c:aI)(s:aY):fieldAt c s<c.ah.length:=by
 rcases wh (λf:aH=>cq f.ai s) c.ah with h|h
 .exact h
 .unfold fieldAt;rw[h];omega
def uA(hf:c.ah[k]? =some f):0<=fieldAt c f.ai:=by
 unfold fieldAt idxOf;cases h:c.ah.findIdx? (λg=>cq g.ai f.ai)with
 |some i=>simp
 |none=>
  have:=List.findIdx?_eq_none_iff.1 h f (Qaf hf);simp[cq]at this
def mC(M:aV)(fv:aA)(w:ax)(c:aI)(ai:aY)(at_:Int)(is:Bool)(h:ab M w fv c.ah)(hn:c.ai.size<=maxLen)(ha:(if fieldAt c ai<0 then 0 else fieldAt c ai)=at_)(hi:(!decide (fieldAt c ai<0))=is):
 xC 107 #[.agg #[c.ai,fv],ai] w (cu (.tuple #[at_,is]) w):=by
 subst ha hi;exact Kn M _ w c ai ⟨_,rfl,fv,rfl,h,hn⟩
def lY(b:Bool)(f:aH)(w:ax)(hs:f.ai.size<=maxLen)(hb:bS f=b):
 xC 106 #[.agg #[f.ai,f.type.an,f.type.of,xB f.indexed]] w (cu b w):=by subst hb;exact we f w hs
def ff(M:aV)(fv:aA)(w:ax)(c:aI)(hs:ab M w fv c.ah)(hnm:c.ai.size<=maxLen):
 xC 45 #[.agg #[c.ai,fv]] w (cu (xB (aX c)) w):=by
 have HS:=ag hs;have qW:=ag hnm;obtain⟨a,cj,rfl,cY,hm,hc⟩:=hs.aq;have HC:=ag hc;generalize hn:c.ah.length=n at*;have HN:=ag hn;cases h1:aM c.ai
 .have H1:=ag h1;go_enter func45,ntmps45;go_wp2_with fail;refine dw (fL false _ _ H1.o qW.o) ?_;go_wp2;go_ret;exact⟨bK (wi H1.o).symm,bU⟩
 .have H1:=ag h1;by_cases h8:8<n
  .go_enter func45,ntmps45;go_wp2_with fail;refine dw (fL true _ _ H1.o qW.o) ?_;go_wp2;go_ret;exact⟨bK (wj (by rw[HN.o];exact h8)).symm,bU⟩
  .go_enter func45,ntmps45;go_wp2_with fail;refine dw (fL true _ _ H1.o qW.o) ?_;go_wp2;go_loopg [2,3,4,5,6,20]n(λg r _ _ _ _ iv wr=>∃k:Nat,k<=n/\g=n-k/\iv=xI k/\r=xB false/\Hd (rq c k)/\Hd (aC w wr)/\dk wr w (xK #[c.ai,xL a n cj] 47));case atStart=>exact⟨0,Qbf _,rfl,rfl,rfl,(λj f h=>absurd h (Nat.not_lt_zero _)),by exact bU,Qbh _ _⟩
   case round=>
    obtain⟨k,hk,rfl,rfl,rfl,HT,HB,ug⟩:=hrel;have hsz:w.heap.size<wr:=(Qaa.1 ug).1;have⟨g0,g1⟩:=ak ug;have MF:=ag ug;by_cases bH:k<n
    .obtain⟨b,off,rfl,hMb,hbl,hcell⟩:=HC.o (by omega);have⟨x,hx⟩:=eG c.ah k (by rw[HN.o];exact bH);have⟨cs,hrep,hcs⟩:=hcell k x hx;have hcl:∀(j:Nat)(u:aA),cs[j]? =some u->bJ wr b (off+k*4+j) u:=λj u hu=>(HB.o.cell (p:=⟨b,off+k*4+j,none⟩) hbl).trans (hcs j u hu);obtain⟨rfl,hxs⟩:=hrep;have q0:bJ wr b (off+k*4) x.ai:=hcl 0 _ rfl;have q1:=hcl 1 _ rfl;have q2:=hcl 2 _ rfl;have q3:=hcl 3 _ rfl;have HX:=ag hx;have CD:=ag hxs;have sX:b≠w:=by omega
     have qfi:=FT c x.ai;have qfj:=wm c x.ai;have qfk:=uA HX.o;have Xr:¬fieldAt c x.ai<0:=by omega
     have uh:Hd ((if fieldAt c x.ai<0 then 0 else fieldAt c x.ai)=fieldAt c x.ai):=if_neg Xr;have TB:=ag (show(!decide (fieldAt c x.ai<0))=true by rw[decide_eq_false Xr];rfl);cases hr:bS x
     .have HR:=ag hr;go_wp2_with fail;refine cC (lY false x _ CD.o HR.o) λw1 hb1=> ?_;have bz:=ag hb1;go_wp2;go_ret;exact⟨bK (oG HX.o (by rw[HR.o];simp)).symm,HB.o.trans ((bt bz.o).mono (by have:=HB.o.size;omega))⟩
     .have HR:=ag hr;by_cases hq:fieldAt c x.ai=k
      .have HQ:=ag hq;go_wp2_with fail;refine cC (lY true x _ CD.o HR.o) λw1 hb1=> ?_;have s1:w.heap.size<w1:=by have:=hb1.size;simp at this;omega
       have⟨p0,p1,p2,p3⟩:=af (boxed hb1);have⟨p4,p5⟩:=ak ((hb1.block w (by simp;omega)).trans ((Qcb wr _ w (by omega)).trans MF.o));have bz:Hd (aC w w1):=HB.o.trans ((bt hb1).mono (by have:=HB.o.size;omega));have cI:Hd (dk w1 w (xK #[c.ai,xL (b,off) n cj] 47)):=((hb1.block w (by simp;omega)).trans ((Qcb wr _ w (by omega)).trans MF.o));have hcall:=mC M _ w1 c x.ai _ _ (HS.o.ae bz.o) qW.o uh.o TB.o;have bI:=ag hcall;go_wp2_with fail;refine bI.o.mono ?_;rintro e w2⟨rfl,bE⟩;have bg:=ag bE;have hqb:((fieldAt c x.ai)!=(k:Int))=false:=by simpa using HQ.o
       go_wp2;go_roundg(n-(k+1));case measure=>omega
       case rel=>
        refine⟨k+1,by omega,rfl,by go_num,rfl,?_,?_,?_⟩
        .have h:rq c (k+1):=λj f hj hf=>by
          by_cases hjk:j<k
          .exact HT.o j f hjk hf
          .obtain rfl:j=k:=by omega
           rw[HX.o]at hf;cases hf;exact⟨HR.o,HQ.o⟩
         exact h
        .have h:aC w w2:=bz.o.trans (bg.o.mono (by omega));exact h
        .exact(bg.o.block _ s1).trans cI.o
      .have HQ:=ag hq;have hqb:((fieldAt c x.ai)!=(k:Int))=true:=by simpa using hq
       go_wp2_with fail;refine cC (lY true x _ CD.o HR.o) λw1 hb1=> ?_;have s1:w.heap.size<w1:=by have:=hb1.size;simp at this;omega
       have⟨p0,p1,p2,p3⟩:=af (boxed hb1);have⟨p4,p5⟩:=ak ((hb1.block w (by simp;omega)).trans ((Qcb wr _ w (by omega)).trans MF.o));have bz:Hd (aC w w1):=HB.o.trans ((bt hb1).mono (by have:=HB.o.size;omega));have hcall:=mC M _ w1 c x.ai _ _ (HS.o.ae bz.o) qW.o uh.o TB.o;have bI:=ag hcall;go_wp2_with fail;refine bI.o.mono ?_;rintro e w2⟨rfl,bE⟩;have bg:=ag bE;go_wp2;go_ret;exact⟨bK (oG HX.o (λh=>HQ.o h.2)).symm,bz.o.trans (bg.o.mono (by omega))⟩
    .go_wp2;go_ret;refine⟨bK ?_,HB.o⟩;have P8:k=n:=by omega
     exact((bC c).2 ⟨H1.o,by rw[HN.o];omega,by rw[HN.o];have h:=HT.o;rw[P8]at h;exact h⟩).symm
def Rj {c:UInt8}(hc:s.data.toList[k]? =some c)(hn:bN c.toNat=false):aM s=false:=by
 have hm:c∈s.data.toList:=Qaf hc;have ha:(s.data.toList.all λc=>bN c.toNat)=false:=by
  rw[List.all_eq_false];exact⟨c,hm,by simp[hn]⟩
 unfold aM;cases hl:s.data.toList with
 |nil=>simp
 |cons a r=>rw[hl]at ha;simp only[ha,Bool.and_false]
def No {c:UInt8}(hc:s.data.toList[0]? =some c)(hn:eE c.toNat=false):aM s=false:=by
 unfold aM;cases hl:s.data.toList with
 |nil=>simp
 |cons a r=>rw[hl]at hc;simp at hc;subst hc;simp[hn]
def Np(h1:1<=s.size)(h2:s.size<=20)(ha:s.data.toList.all (λc=>bN c.toNat)=true)(h0:∀c,s.data.toList[0]? =some c->eE c.toNat=true):aM s=true:=by
 unfold aM;cases hl:s.data.toList with
 |nil=>have:=bG s;rw[hl]at this;simp at this;omega
 |cons a r=>
  rw[hl]at ha;have:=h0 a (by rw[hl];rfl);simp only[ha,this,Bool.and_true,Qce,decide_eq_true_eq];exact⟨h1,h2⟩
def tl(s:aY)(k:Nat):Prop:=(s.data.toList.take k).all (λc=>bN c.toNat)=true/\(0<k->∀c,s.data.toList[0]? =some c->eE c.toNat=true)
theorem tl.succ {c:UInt8}(h:tl s k)(hk:k<s.size)(hc:s.data.toList[k]? =some c)(hn:bN c.toNat=true)(h0:k=0->eE c.toNat=true):tl s (k+1):=by
 refine⟨?_,λ_ d hd=> ?_⟩
 .rw[Qbb,hc,List.all_append,h.1];simp[hn]
 .by_cases P9:k=0
  .subst P9;rw[hc]at hd;cases hd;exact h0 rfl
  .exact h.2 (by omega) d hd
def CQ(s:aY)(w:ax)(hs:s.size<=maxLen):
 xC 274 #[s] w (jt (xB (aM s)) w):=by
 unfold maxLen at hs;by_cases h1:s.size<1
 .go_enter func274,ntmps274;go_wp2;go_ret;exact⟨bK (by simp[aM];omega),rfl⟩
 .by_cases h2:20<s.size
  .go_enter func274,ntmps274;go_wp2;go_ret;exact⟨bK (by simp[aM];omega),rfl⟩
  .go_enter func274,ntmps274;go_wp2;go_loopg [2,3,4,5]s.size(λg r iv _ _ wr=>∃k:Nat,k<=s.size/\g=s.size-k/\iv=xI k/\r=xB false/\Hd (tl s k)/\w=wr);case atStart=>exact⟨0,Qbf _,rfl,rfl,rfl,by {have h:tl s 0:=⟨rfl,λh=>absurd h (Nat.lt_irrefl _)⟩;exact h},rfl⟩
   case round=>
    obtain⟨k,hk,rfl,rfl,rfl,HT,rfl⟩:=hrel;by_cases bH:k<s.size
    .have⟨c,hc⟩:=jN (s[k]);have Fc:(c.toNat:Int)<=255:=by have:=c.toNat_lt;omega
     have lM:Hd (s.data.toList[k]? =some c):=(dz s k bH).trans (congrArg some hc);have hkz:(k:Int)<s.size:=by omega
     by_cases hl:97<=(c.toNat:Int)/\(c.toNat:Int)<=122
     .obtain⟨hl1,hl2⟩:=hl;have HS:=ag (show eE c.toNat=true by simp[eE];omega);have a1:48<=(c.toNat:Int):=by omega
      have a2:¬(c.toNat:Int)<=57:=by omega
      have a3:((c.toNat:Int)==95)=false:=by simp;omega
      go_wp2;go_roundg(s.size-(k+1));case measure=>omega
      case rel=>exact⟨k+1,by omega,rfl,by go_num,rfl,HT.o.succ bH lM.o (by simp[bN,HS.o]) (λ_=>HS.o),rfl⟩
     .have HS:=ag (show eE c.toNat=false by simp[eE];omega);have b1:(decide (97<=(c.toNat:Int))&&decide ((c.toNat:Int)<=122))=false:=by simp;omega
      by_cases h0:k=0
      .subst h0;have HR:=ag (No lM.o HS.o);by_cases q1:97<=(c.toNat:Int)
       .have q2:¬(c.toNat:Int)<=122:=by simp at b1;omega
        go_wp2_with fail;all_goals(go_ret;exact⟨bK HR.o.symm,rfl⟩)
       .clear b1;go_wp2_with fail;all_goals(go_ret;exact⟨bK HR.o.symm,rfl⟩)
      .have P9:((k:Int)==0)=false:=by simp;omega
       have K0:=ag h0;by_cases ho:(48<=(c.toNat:Int)/\(c.toNat:Int)<=57)\/(c.toNat:Int)=95
       .have HN:=ag (show bN c.toNat=true by simp only[bN,HS.o,Bool.false_or,Bool.or_eq_true,decide_eq_true_eq];omega);have pJ:Hd (tl s (k+1)):=HT.o.succ bH lM.o HN.o (λh=>absurd h K0.o);have q1:¬97<=(c.toNat:Int):=by omega
        by_cases h95:(c.toNat:Int)=95
        .have a1:48<=(c.toNat:Int):=by omega
         have a2:¬(c.toNat:Int)<=57:=by omega
         have a3:((c.toNat:Int)==95)=true:=by simpa using h95
         go_wp2;go_roundg(s.size-(k+1));case measure=>omega
         case rel=>exact⟨k+1,by omega,rfl,by go_num,rfl,pJ,rfl⟩
        .have a1:48<=(c.toNat:Int):=by omega
         have a2:(c.toNat:Int)<=57:=by omega
         go_wp2;go_roundg(s.size-(k+1));case measure=>omega
         case rel=>exact⟨k+1,by omega,rfl,by go_num,rfl,pJ,rfl⟩
       .have HN:=ag (show bN c.toNat=false by simp only[bN,HS.o,Bool.false_or,Bool.or_eq_false_iff,decide_eq_false_iff_not];omega);have HR:=ag (Rj lM.o HN.o);have a3:((c.toNat:Int)==95)=false:=by simp;omega
        by_cases q1:97<=(c.toNat:Int)
        .have q2:¬(c.toNat:Int)<=122:=by omega
         have a1:48<=(c.toNat:Int):=by omega
         have a2:¬(c.toNat:Int)<=57:=by omega
         go_wp2_with fail;all_goals(go_ret;exact⟨bK HR.o.symm,rfl⟩)
        .by_cases a1:48<=(c.toNat:Int)
         .have a2:¬(c.toNat:Int)<=57:=by omega
          go_wp2_with fail;all_goals(go_ret;exact⟨bK HR.o.symm,rfl⟩)
         .clear ho hl;go_wp2_with fail;all_goals(go_ret;exact⟨bK HR.o.symm,rfl⟩)
    .go_wp2;go_ret;have h:=HT.o;have hk:k=s.size:=by omega
     refine⟨bK (Np (by omega) (by omega) ?_ (h.2 (by omega))).symm,rfl⟩;have h3:=h.1;rw[Qah (by rw[bG];omega)]at h3;exact h3
def iz(k:Int):Bool:=decide (1<=k/\k<=4)
def FU(k:Int)(w:ax):xC 316 #[k] w (jt (xB (iz k)) w):=by
 by_cases h1:1<=k
 .by_cases h2:k<=4
  .go_enter func316,ntmps316;go_wp2;go_ret;exact⟨bK (by simp[iz,h1,h2]),rfl⟩
  .go_enter func316,ntmps316;go_wp2;go_ret;exact⟨bK (by simp[iz];omega),rfl⟩
 .go_enter func316,ntmps316;go_wp2;go_ret;exact⟨bK (by simp[iz];omega),rfl⟩
def jC(b:Bool)(k:Int)(w:ax)(hb:iz k=b):xC 316 #[k] w (jt b w):=by subst hb;exact FU k w
def tm(t:br)(w:ax):
 xC 275 #[.agg #[t.an,t.of]] w (cu (xB (aR t)) w):=by
 obtain⟨k,o⟩:=t;cases h1:iz k
 .have H1:=ag h1;clear h1;by_cases hk:k=5
  .have Xq:(k==5)=true:=by simpa using hk
   have HK:=ag hk;clear hk;cases h2:iz o
   .have H2:=ag h2;clear h2;go_enter func275,ntmps275;go_wp2_with(first|(go_at_call 316;((with_reducible refine(jC false k _ H1.o).mono ?_);rintro e w'⟨rfl,rfl⟩))|(go_at_call 316;((with_reducible refine(jC false o _ H2.o).mono ?_);rintro e w'⟨rfl,rfl⟩)));go_ret;refine⟨bK ?_,bU⟩;have h:=H2.o;have h3:=HK.o;subst h3;simp[aR,iz]at h⊢;exact h
   .have H2:=ag h2;clear h2;go_enter func275,ntmps275;go_wp2_with(first|(go_at_call 316;((with_reducible refine(jC false k _ H1.o).mono ?_);rintro e w'⟨rfl,rfl⟩))|(go_at_call 316;((with_reducible refine(jC true o _ H2.o).mono ?_);rintro e w'⟨rfl,rfl⟩)));go_ret;refine⟨bK ?_,bU⟩;have h:=H2.o;have h3:=HK.o;subst h3;simp[aR,iz]at h⊢;exact h
  .have Xq:(k==5)=false:=by simpa using hk
   have HK:=ag hk;clear hk;go_enter func275,ntmps275;go_wp2_with(go_at_call 316;((with_reducible refine(jC false k _ H1.o).mono ?_);rintro e w'⟨rfl,rfl⟩));go_ret;refine⟨bK ?_,bU⟩;have h:=H1.o;simp[aR,iz,HK.o]at h⊢;omega
 .have H1:=ag h1;clear h1;have HK:=ag (show k≠5 by have:=H1.o;simp[iz]at this;omega);have Xq:(k==5)=false:=by simpa using HK.o
  by_cases ho:o=0
  .have ho5:(o==0)=true:=by simpa using ho
   have HO:=ag ho;clear ho;go_enter func275,ntmps275;go_wp2_with(go_at_call 316;((with_reducible refine(jC true k _ H1.o).mono ?_);rintro e w'⟨rfl,rfl⟩));go_ret;refine⟨bK ?_,bU⟩;have h:=H1.o;simp[aR,iz,HK.o,HO.o]at h⊢;exact h
  .have ho5:(o==0)=false:=by simpa using ho
   have HO:=ag ho;clear ho;go_enter func275,ntmps275;go_wp2_with(go_at_call 316;((with_reducible refine(jC true k _ H1.o).mono ?_);rintro e w'⟨rfl,rfl⟩));go_ret;refine⟨bK ?_,bU⟩;simp[aR,HK.o,HO.o]
def Bh {a b:Int}{c d:Bool}(h:a=b)(k:c=d):Ending.returned (.tuple #[a,c])=xR (.tuple #[b,d]):=by rw[h,k]
def Bi(M:aV)(fv:aA)(w:ax)(c:aI)(ai:aY)(hs:ab M w fv c.ah)(at_:Int)(is:Bool)(HA:Hd ((if fieldAt c ai<0 then 0 else fieldAt c ai)=at_))(HI:Hd ((!decide (fieldAt c ai<0))=is)):
 xC 118 #[.agg #[c.ai,fv],ai] w (cu (.tuple #[at_,is]) w):=by
 obtain⟨a,cj,rfl,cY,hm,hc⟩:=hs.aq;have HC:=ag hc;generalize hn:c.ah.length=n at*;have HN:=ag hn;go_enter func118,ntmps118;go_wp2;go_loopg [4,5,6]n(λg r0 r1 iv wr=>∃k:Nat,k<=n/\g=n-k/\iv=xI k/\r0=xI 0/\r1=xB false/\Hd (∀x∈c.ah.take k,cq x.ai ai=false)/\wr=w.alloc (xK #[c.ai,xL a n cj] 47));case atStart=>exact⟨0,Qbf _,rfl,rfl,rfl,rfl,by {have h:∀x∈c.ah.take 0,cq x.ai ai=false:=(by simp);exact h},rfl⟩
 case round=>
  obtain⟨k,hk,rfl,rfl,rfl,rfl,HT,rfl⟩:=hrel;by_cases bH:k<n
  .obtain⟨b,off,rfl,hMb,hbl,hcell⟩:=HC.o (by omega);have⟨x,hx⟩:=eG c.ah k (by rw[HN.o];exact bH);obtain⟨cs,⟨rfl,hxs⟩,hcs⟩:=hcell k x hx;have q0:bJ w b (off+k*4) x.ai:=hcs 0 _ rfl;have sX:b≠w:=by omega
   have HX:=ag hx;cases hq:cq x.ai ai
   .have hq':(x.ai.toList==ai.toList)=false:=hq;have HQ:=ag hq;go_wp2;go_roundg(n-(k+1));case measure=>omega
    case rel=>exact⟨k+1,by omega,rfl,by go_num,rfl,rfl,by {have h:∀y∈c.ah.take (k+1),cq y.ai ai=false:=λy hy=>by {rw[Qbb,HX.o]at hy;simp at hy;rcases hy with h|h;exact HT.o y h;subst h;exact HQ.o};exact h},rfl⟩
   .have hq':(x.ai.toList==ai.toList)=true:=hq;have HJ:Hd (fieldAt c ai=k):=idxOf_hit (p:=λf:aH=>cq f.ai ai) HT.o HX.o hq;go_wp2;go_ret2;exact⟨Bh (by rw[<-HA.o,HJ.o,if_neg (by omega)]) (by rw[<-HI.o,HJ.o,decide_eq_false (by omega)];rfl),bU⟩
  .go_wp2;go_ret2;have h:=HT.o;rw[Qah (by rw[HN.o];omega)]at h;have e0:fieldAt c ai= -1:=kW (p:=λf:aH=>cq f.ai ai) h;exact⟨Bh (by rw[<-HA.o,e0];rfl) (by rw[<-HI.o,e0];rfl),bU⟩
def lO(M:aV)(fv:aA)(w:ax)(c:aI)(ai:aY)(at_:Int)(is:Bool)(h:ab M w fv c.ah)(ha:(if fieldAt c ai<0 then 0 else fieldAt c ai)=at_)(hi:(!decide (fieldAt c ai<0))=is):
 xC 118 #[.agg #[c.ai,fv],ai] w (cu (.tuple #[at_,is]) w):=by
 exact Bi M _ w c ai h at_ is ha hi
def gp(b:Bool)(s:aY)(w:ax)(hb:aM s=b)(hs:s.size<=maxLen):
 xC 274 #[s] w (jt b w):=by subst hb;exact CQ s w hs
def nS(b:Bool)(t:br)(w:ax)(hb:aR t=b):
 xC 275 #[.agg #[t.an,t.of]] w (cu b w):=by subst hb;exact tm t w
variable{j:Nat}
def Bj {α:Type}{p:α->Bool}{xs:List α}{y:α}(h:idxOf p xs=k)(hj:j<k)(hy:xs[j]? =some y):p y=false:=by
 unfold idxOf at h;cases hf:xs.findIdx? p with
 |none=>rw[hf]at h;simp at h
 |some i=>
  rw[hf]at h;have hi:i=k:=by simp at h;omega
  subst hi;have⟨_,_,h3⟩:=List.findIdx?_eq_some_iff_getElem.1 hf;have h4:=h3 j hj;rw[(Qad.1 hy).2]at h4;simpa using h4
def kF(M:aV)(fv:aA)(w:ax)(c:aI)(hs:ab M w fv c.ah)(hnm:c.ai.size<=maxLen)(hr:aX c=true):
 xC 241 #[.agg #[c.ai,fv]] w (cu true w):=by
 have⟨h1,h8,hok⟩:=(bC c).1 hr;obtain⟨a,cj,rfl,cY,hm,hc⟩:=hs.aq;have HC:=ag hc;have qW:=ag hnm;have H1:=ag h1;have Su:=ag hok;generalize hn:c.ah.length=n at*;have HN:=ag hn;go_enter func241,ntmps241;go_wp2_with fail;refine dw (gp true _ _ H1.o qW.o) ?_;have J0:¬8<n:=by omega
 go_wp2;go_loopg [2,3,4,5]n(λg r iv _ _ wr=>∃k:Nat,k<=n/\g=n-k/\iv=xI k/\r=xB false/\Hd (aC w wr)/\dk wr w (xK #[c.ai,xL a n cj] 47));case atStart=>exact⟨0,Qbf _,rfl,rfl,rfl,by exact bU,Qbh _ _⟩
 case round=>
  obtain⟨k,hk,rfl,rfl,rfl,HB,ug⟩:=hrel;obtain⟨wo,rfl⟩:=bY (wr);have hsz:w.heap.size<wo:=(Qaa.1 ug).1;have⟨g0,g1⟩:=ak ug;have MF:=ag ug;by_cases bH:k<n
  .obtain⟨b,off,rfl,hMb,hbl,hcell⟩:=HC.o (by omega);have⟨x,hx⟩:=eG c.ah k (by rw[HN.o];exact bH);have⟨cs,hrep,hcs⟩:=hcell k x hx;have hcl:∀(j:Nat)(u:aA),cs[j]? =some u->bJ wo b (off+k*4+j) u:=λj u hu=>(HB.o.cell (p:=⟨b,off+k*4+j,none⟩) hbl).trans (hcs j u hu);obtain⟨rfl,hxs⟩:=hrep;have q0:bJ wo b (off+k*4) x.ai:=hcl 0 _ rfl;have q1:=hcl 1 _ rfl;have q2:=hcl 2 _ rfl;have q3:=hcl 3 _ rfl;have sX:b≠w:=by omega
   have⟨hrf,hat⟩:=Su.o k x (by omega) hx;have Vz:=hrf;unfold bS at Vz;simp only[Qce]at Vz;obtain⟨⟨hx1,MG⟩,hx3⟩:=Vz;have Zf:=ag hcell;have HX:=ag hx;have CD:=ag hxs;have uh:=ag hat;have fp:=ag hx1;have eZ:=ag MG;obtain⟨xn,⟨xk,xo⟩,xi⟩:=x;have TC:xi=false\/¬3<xk:=by simp at hx3;rcases hx3 with h|h;exact .inl h;exact .inr (by omega)
   go_wp2_with fail;refine dw (gp true _ _ fp.o CD.o) ?_;go_wp2_with fail;refine cC (nS true ⟨xk,xo⟩ _ eZ.o) λw1 hb1=> ?_;have s1:w.heap.size<w1/\wo.heap.size<w1:=by have:=hb1.size;simp at this;omega
   obtain⟨s1,s2⟩:=s1;have qcm:Hd (dk w1 wo (xK #[xn,xk,xo,xi] 60)):=boxed hb1;have⟨p0,p1,p2,p3⟩:=af qcm.o;have cI:Hd (dk w1 w (xK #[c.ai,xL (b,off) n cj] 47)):=((hb1.block w (by simp;omega)).trans ((Qcb wo _ w (by omega)).trans MF.o));have⟨p4,p5⟩:=ak cI.o;have bz:Hd (aC w w1):=HB.o.trans ((bt hb1).mono (by have:=HB.o.size;omega));rcases TC with rfl|TC;all_goals try cases xi
   all_goals
    go_wp2;go_loopg [2,5]k(λg r jv wr=>∃j:Nat,j<=k/\g=k-j/\jv=xI j/\r=xB false/\∃q,wr=w1.drewN q);case atStart=>exact⟨0,Qbf _,rfl,rfl,rfl,0,rfl⟩
    case round=>
     obtain⟨j,hj,rfl,rfl,rfl,q,rfl⟩:=hrel;by_cases hjk:j<k
     .have⟨y,hy⟩:=eG c.ah j (by rw[HN.o];omega);obtain⟨cs,⟨rfl,_⟩,hcs⟩:=Zf.o j y hy;have y0:bJ w1 b (off+j*4) y.ai:=(bz.o.cell (p:=⟨b,off+j*4,none⟩) hbl).trans (hcs 0 _ rfl);have hyq:(y.ai.toList==xn.toList)=false:=Bj (p:=λf:aH=>cq f.ai xn) uh.o hjk hy;have hjn:(j:Int)<n:=by omega
      go_wp2_with fail;go_quiet(fail);go_wp2;go_roundg(k-(j+1));case measure=>omega
      case rel=>exact⟨j+1,by omega,rfl,by go_num,rfl,_,rfl⟩
     .go_wp2;go_roundg(n-(k+1));case measure=>omega
      case rel=>exact⟨k+1,by omega,rfl,by go_num,rfl,by {have h:aC w (w1.drewN q):=bz.o.trans ⟨rfl,rfl,rfl,bT,λ_ _=>rfl⟩;exact h},cI.o⟩
  .go_wp2;go_ret;exact⟨rfl,HB.o⟩
structure Tok where
 an:Nat
 n:Nat
 s:List UInt8
 at_:Nat
 deriving DecidableEq
def nT(c:UInt8):Bool:=decide (48<=c)&&decide (c<=57)
def qx(c:UInt8):Bool:=decide (97<=c)&&decide (c<=122)
def dA(c:UInt8):Bool:=qx c||nT c||c==95
def fu(c:UInt8):Bool:=c !=34&&c !=92
def qy(l:List UInt8):Bool:=decide (1<=l.length)&&decide (l.length<=20)&&(match l with|[]=>false|c::_=>qx c)&&l.all dA
def jX(l:List UInt8):Bool:=decide (l.length<=60)&&l.all λc=>decide (32<=c)&&decide (c<127)
def rr:List UInt8->Bool
 |d::_=>nT d
 |[]=>false
def ru:List UInt8->Option ((Nat×Nat×List UInt8)×Nat)
 |[]=>none
 |c::r=>
  if nT c then(if rr r then none else some ((1,c.toNat-48,[]),1))
  else if qx c then(if qy ((c::r).takeWhile dA)then some ((3,0,(c::r).takeWhile dA),((c::r).takeWhile dA).length)else none)
  else if c=34 then(match r.drop (r.takeWhile fu).length with
   |34::_=>if jX (r.takeWhile fu)then some ((2,0,r.takeWhile fu),(r.takeWhile fu).length+2)else none
   |_=>none)
  else if [38,43,45,42,47,37,40,41,44,61].contains c then some ((4,0,[c]),1)
  else if c=62/\r.head?≠some 61 then some ((4,0,[c]),1)
  else none
def eQ:Nat->List UInt8->Nat->Option (List Tok)
 |_,[],_=>some []
 |0,_::_,_=>none
 |k+1,c::r,i=>
  if c=32 then eQ k r (i+1)
  else match ru (c::r)with
   |none=>none
   |some ((kd,n,s),size)=>if size=0 then none else(eQ k ((c::r).drop size) (i+size)).map λts=>⟨kd,n,s,i⟩::ts
def cH(s:List UInt8):Nat:=
 if s=[42]\/s=[47]\/s=[37]then 4 else if s=[43]\/s=[45]then 3 else if s=[38]then 2 else if s=[61]\/s=[62]then 1 else 0
def dM(s:List UInt8):Nat:=
 if s=[108,101,110]\/s=[116,101,120,116]\/s=[110,117,109]then 1
 else if s=[108,101,102,116]\/s=[114,105,103,104,116]\/s=[102,114,111,109]\/s=[102,105,110,100]\/s=[109,105,110]\/s=[109,97,120]then 2
 else if s=[105,102]then 3 else 0
def bL(l:List UInt8):aY:=⟨l.toArray⟩
def ed(ts:List Tok)(s:List UInt8):Bool:=match ts with|t::_=>t.an==4&&t.s==s|[]=>false
mutual
def ju:Nat->Nat->List Tok->Option (aG×List Tok)
 |0,_,_=>none
 |k+1,least,ts=>match jE k ts with
  |none=>none
  |some (e,r)=>nU k least e r
def nU:Nat->Nat->aG->List Tok->Option (aG×List Tok)
 |0,_,_,_=>none
 |k+1,least,e,ts=>match ts with
  |[]=>some (e,[])
  |t::r=>if t.an=4/\least<=cH t.s then(match ju k (cH t.s+1) r with
    |none=>none
    |some (f,r')=>nU k least (.mk 4 0 (bL t.s) [e,f]) r')else some (e,t::r)
def jE:Nat->List Tok->Option (aG×List Tok)
 |0,_=>none
 |k+1,ts=>match ts with
  |[]=>none
  |t::r=>
   if t.an=1 then some (.mk 1 t.n (bL []) [],r)
   else if t.an=2 then some (.mk 2 0 (bL t.s) [],r)
   else if t.an=3 then(if dM t.s>0/\ed r [40]=true then(match eV k (dM t.s) (r.drop 1)with
    |none=>none
    |some (l,r')=>some (.mk 6 0 (bL t.s) l,r'))else some (.mk 3 0 (bL t.s) [],r))
   else none
def eV:Nat->Nat->List Tok->Option (List aG×List Tok)
 |0,_,_=>none
 |k+1,n,ts=>match ju k 1 ts with
  |none=>none
  |some (e,r)=>if n=1 then(if ed r [41]then some ([e],r.drop 1)else none)
   else if n=0 then none
   else if ed r [44]then(match eV k (n-1) (r.drop 1)with
    |none=>none
    |some (l,r')=>some (e::l,r'))else none
end
def aG.an:aG->Int| .mk k _ _ _=>k
def aG.num:aG->Int| .mk _ n _ _=>n
def aG.str:aG->aY| .mk _ _ s _=>s
def aG.kids:aG->List aG| .mk _ _ _ l=>l
mutual
def eB:aG->Nat| .mk _ _ _ l=>dB l+1
def dB:List aG->Nat|[]=>0|e::r=>eB e+dB r
end
mutual
def kX:aG->Nat| .mk _ _ _ l=>wu l+1
def wu:List aG->Nat|[]=>0|e::r=>max (kX e) (wu r)
end
def wA(k n:Int)(s:List UInt8)(kids:Nat):Bool:=
 if k=1 then decide (0<=n)&&decide (n<=1000000000000000)&&s.isEmpty&&kids==0
 else decide (n=0)&&(if k=2 then jX s&&kids==0 else if k=3 then qy s&&kids==0 else if k=4 then decide (0<cH s)&&kids==2 else if k=6 then decide (0<dM s)&&kids==dM s else false)
mutual
def iG:aG->Bool| .mk k n s l=>wA k n s.data.toList l.length&&ry l
def ry:List aG->Bool|[]=>true|e::r=>iG e&&ry r
end
def eu(l:List UInt8):Option aG:=match eQ 200 l 0 with
 |none=>none
 |some ts=>match ju 60 1 ts with
  |some (e,[])=>if l.length<=200/\iG e=true/\kX e<=8/\eB e<=40 then some e else none
  |_=>none
def fE(s:List UInt8):aG:= .mk 3 0 (bL s) []
def nE(n:Int):aG:= .mk 1 n (bL []) []
def tE(s:List UInt8):aG:= .mk 2 0 (bL s) []
def Ja(s:List UInt8)(a b:aG):aG:= .mk 4 0 (bL s) [a,b]
def mD(s:List UInt8)(l:List aG):aG:= .mk 6 0 (bL s) l
def tp(s:List UInt8):aG:=if s=[55]then nE 7 else if s=[34,97,32,98,34]then tE [97,32,98]else fE s
def oH(num txt:aG):List aG:=[nE 3,num,Ja [45] (Ja [42] num (nE 2)) (nE 1),mD [108,101,110] [txt],mD [105,102] [Ja [62] num (nE 2),num,Ja [45] (nE 0) num],
 mD [102,105,110,100] [tE [98],txt],Ja [47] num num]
def mE(num txt:aG):List aG:=[tE [120],txt,Ja [38] (Ja [38] txt (tE [45])) txt,mD [116,101,120,116] [num],mD [108,101,102,116] [txt,nE 2],mD [102,114,111,109] [txt,nE 3],
 mD [105,102] [Ja [61] num (nE 1),txt,tE [110,111]]]
def names9:List (List UInt8):=[[97],[98,50],[110,97,109,101],[110,101,120,116,95,111,110,101],[107,105,100,115],[120],[110,101,119,95,49],[109,111,114,101],[122,57],[110,101,120,116]]
def Ur(num txt:List UInt8):List (List UInt8):=[[51],num,num++[32,42,32,50,32,45,32,49],[108,101,110,40]++txt++[41],
 [105,102,40]++num++[32,62,32,50,44,32]++num++[44,32,48,32,45,32]++num++[41],[102,105,110,100,40,34,98,34,44,32]++txt++[41],num++[32,47,32]++num]
def FV(num txt:List UInt8):List (List UInt8):=[[34,120,34],txt,txt++[32,38,32,34,45,34,32,38,32]++txt,[116,101,120,116,40]++num++[41],
 [108,101,102,116,40]++txt++[44,32,50,41],[102,114,111,109,40]++txt++[44,32,51,41],[105,102,40]++num++[32,61,32,49,44,32]++txt++[44,32,34,110,111,34,41]]
mutual
def eqE:aG->aG->Bool| .mk k n s l, .mk k' n' s' l'=>decide (k=k')&&decide (n=n')&&(s.data.toList==s'.data.toList)&&Ko l l'
def Ko:List aG->List aG->Bool|[],[]=>true|e::r,e'::r'=>eqE e e'&&Ko r r'|_,_=>false
end
mutual
theorem zP:∀{a b:aG},eqE a b=true->a=b
 | .mk k n s l, .mk k' n' s' l',h=>by
   simp only[eqE,Qce,decide_eq_true_eq,beq_iff_eq]at h;obtain⟨⟨⟨rfl,rfl⟩,h3⟩,h4⟩:=h;have e1:s=s':=by cases s;cases s';simp at h3;simpa using h3
   have e2:=wB h4;rw[e1,e2]
theorem wB:∀{a b:List aG},Ko a b=true->a=b
 |[],[],_=>rfl
 |e::r,e'::r',h=>by
  simp only[Ko,Qce]at h;rw[zP h.1,wB h.2]
 |[],_::_,h=>by simp[Ko]at h
 |_::_,[],h=>by simp[Ko]at h
end
def Yn(s:List UInt8)(e:aG):Bool:=match eu s with|some f=>eqE f e|none=>false
def tq {s:List UInt8}{e:aG}(h:Yn s e=true):eu s=some e:=by
 unfold Yn at h;split at h
 .rename_i f hf;rw[hf,zP h]
 .cases h
def Nq:(([55]::names9).all λnum=>([34,97,32,98,34]::names9).all λtxt=>((Ur num txt).zip (oH (tp num) (tp txt))).all λp=>Yn p.1 p.2)=true:=by decide+kernel
def Kp:(([55]::names9).all λnum=>([34,97,32,98,34]::names9).all λtxt=>((FV num txt).zip (mE (tp num) (tp txt))).all λp=>Yn p.1 p.2)=true:=by decide+kernel
def Kq:(names9.all λs=>Yn s (fE s))=true:=by decide+kernel
def Kr(c:Int)(w:ax)(h0:0<=c)(h1:c<=255):
 xC 340 #[.int .u8 c] w (jt (xB (decide (48<=c/\c<=57))) w):=by
 by_cases a1:48<=c
 .by_cases a2:c<=57
  .rw[decide_eq_true ⟨a1,a2⟩];go_enter func340,ntmps340;go_wp2;go_ret;exact⟨rfl,rfl⟩
  .rw[decide_eq_false (λh=>a2 h.2)];go_enter func340,ntmps340;go_wp2;go_ret;exact⟨rfl,rfl⟩
 .rw[decide_eq_false (λh=>a1 h.1)];go_enter func340,ntmps340;go_wp2;go_ret;exact⟨rfl,rfl⟩
def kY(b:Bool)(c:Int)(w:ax)(h0:0<=c)(h1:c<=255)(hb:decide (48<=c/\c<=57)=b):xC 340 #[.int .u8 c] w (jt b w):=by subst hb;exact Kr c w h0 h1
def rA(b:Bool)(c:Int)(w:ax)(h0:0<=c)(h1:c<=255)(hb:bN c=b):xC 342 #[.int .u8 c] w (jt b w):=by
 have hn:bN c=decide ((97<=c/\c<=122)\/(48<=c/\c<=57)\/c=95):=by
  unfold bN eE;rw[Bool.eq_iff_iff];simp;omega
 rw[hn]at hb;by_cases a1:97<=c
 .by_cases a2:c<=122
  .rw[decide_eq_true (.inl ⟨a1,a2⟩)]at hb;subst hb;go_enter func342,ntmps342;go_wp2;go_ret;exact⟨rfl,rfl⟩
  .have a3:48<=c:=by omega
   have a4:¬c<=57:=by omega
   have a5:(c==95)=false:=by simp;omega
   rw[decide_eq_false (by omega)]at hb;subst hb;go_enter func342,ntmps342;go_wp2;go_ret;exact⟨rfl,rfl⟩
 .by_cases a3:48<=c
  .by_cases a4:c<=57
   .rw[decide_eq_true (.inr (.inl ⟨a3,a4⟩))]at hb;subst hb;go_enter func342,ntmps342;go_wp2;go_ret;exact⟨rfl,rfl⟩
   .by_cases a5:c=95
    .have a6:(c==95)=true:=by simpa using a5
     rw[decide_eq_true (.inr (.inr a5))]at hb;subst hb;go_enter func342,ntmps342;go_wp2;go_ret;exact⟨rfl,rfl⟩
    .have a6:(c==95)=false:=by simpa using a5
     rw[decide_eq_false (by omega)]at hb;subst hb;go_enter func342,ntmps342;go_wp2;go_ret;exact⟨rfl,rfl⟩
  .have a6:(c==95)=false:=by simp;omega
   rw[decide_eq_false (by omega)]at hb;subst hb;go_enter func342,ntmps342;go_wp2;go_ret;exact⟨rfl,rfl⟩
def dW:List UInt8:=[38,43,45,42,47,37,40,41,44,61,62]
def np(c:UInt8)(hc:c∈dW)(w:ax):xC 343 #[xS ⟨#[c]⟩] w (jt (xI (cH [c])) w):=by
 simp only[dW,Qdf,List.not_mem_nil,or_false]at hc;rcases hc with rfl|rfl|rfl|rfl|rfl|rfl|rfl|rfl|rfl|rfl|rfl;all_goals
  go_enter func343,ntmps343;go_wp2;go_ret;exact⟨rfl,rfl⟩
def fz {l:List UInt8}(h:s.data.toList=l):s=⟨l.toArray⟩:=by cases s;simp at h;simp[<-h]
def fY {l:List UInt8}(h:¬s.data.toList=l):(s.toList==l)=false:=by rw[ByteArray.toList_eq];simpa using h
def Nr(f:Nat)(hf:f=384\/f=380)(s:aY)(w:ax):xC f #[s] w (jt (dM s.data.toList) w):=by
 by_cases hm:s.data.toList=[108,101,110]\/s.data.toList=[116,101,120,116]\/s.data.toList=[110,117,109]\/s.data.toList=[108,101,102,116]\/s.data.toList=[114,105,103,104,116]\/s.data.toList=[102,114,111,109]\/s.data.toList=[102,105,110,100]\/s.data.toList=[109,105,110]\/s.data.toList=[109,97,120]\/s.data.toList=[105,102]
 .rcases hf with rfl|rfl<;>rcases hm with h|h|h|h|h|h|h|h|h|h<;>(obtain rfl:=fz h;(first|(go_enter func384,ntmps384)|(go_enter func380,ntmps380));go_wp2;go_ret;exact⟨rfl,rfl⟩)
 .simp only[not_or]at hm;obtain⟨h0,h1,h2,h3,h4,h5,h6,h7,h8,h9⟩:=hm;rw[show dM s.data.toList=0 by simp[dM,h0,h1,h2,h3,h4,h5,h6,h7,h8,h9]];replace h0:=fY h0;replace h1:=fY h1;replace h2:=fY h2;replace h3:=fY h3;replace h4:=fY h4;replace h5:=fY h5;replace h6:=fY h6;replace h7:=fY h7;replace h8:=fY h8;replace h9:=fY h9;rcases hf with rfl|rfl<;>((first|(go_enter func384,ntmps384)|(go_enter func380,ntmps380));go_wp2;go_ret;exact⟨rfl,rfl⟩)
def tt(s:aY)(w:ax):xC 384 #[s] w (jt (dM s.data.toList) w):=Nr _ (.inl rfl) s w
def zQ(s:aY)(w:ax):xC 380 #[s] w (jt (dM s.data.toList) w):=Nr _ (.inr rfl) s w
def cF {F:aV}(w:ax)(cs:Array aA)(t:TypeId)(size:Nat)(hs:cs.size=size)(hF:F w):ct F (w.alloc (.cells cs t)) size (xL (w,0) 1 1) 1 cs.toList:=by
 refine⟨by simp[hs],some ⟨w,0,none⟩,1,rfl,bT,by unfold maxLen;omega,λ_=>⟨w,0,rfl,hF,by simp,λj u hu=> ?_⟩⟩;simp only[World.cell?,Qbh,Nat.zero_add];simpa using hu
section
variable {P:Program}{α:Type} [aD α]
def kj {F:aV}(w:ax){o:Oper}{a:Act}{K:Act->ax->Prop}{Q:Exit->Act->ax->Prop}(s x:Operand)(t:TypeId)
 (ho:o.op= .call {callee:= .builtin .append,args:= #[s,x],argTypes:= #[t,t]})
 (base:Nat)(e:TypeId)(i:TypeInfo)(z:aA)(size bytes:Nat)(ht:P.underlying t=some (.slice e))(hi:P.info? e=some i)(hz:i.zero=some z)
 (hsize:i.size=size)(hby:i.bytes=bytes)(hzs:z.cells.size=size)(hsz:0<size)
 (v:aA)(n:Nat)(xs:List aA)(hs:a.eval s=v)(hown:w.ownsRow base e size v n xs)
 (sv:aA)(m:Nat)(news:List aA)(hx:a.eval x=sv)(hr:ct F w size sv m news)(h1:∀u∈news,u.oneCell'=true)
 (h63:n+m<=maxLen)(hbytes:(n+m)*bytes<=140737488355328)(hbase:base<=w)
 (h:∀v' w',w'.ownsRow base e size v' (n+m) (xs++news)->w.grownBy w' v.ownBlock->(v'.ownBlock=v.ownBlock\/v'.ownBlock=some w.heap.size)->K (a.put o.dst v') w'):Oper.wp P o a w K Q:=by
 have⟨v',w',hrun,h2,h3,h4⟩:=gG (P:=P) w base t o.type e i z size bytes ht hi hz hsize hby hzs hsz v n xs hown sv m news hr h1 h63 hbytes hbase;unfold Oper.wp execOp;simp only[ho,resolve,invoke,builtin,Sem.run_bind,Sem.run_pure,Result.andThen_ok,List.map_toArray,List.map_cons,List.map_nil,hs,hx,hrun];exact h v' w' h2 h3 h4
end
section
variable {P:Program}{α:Type} [aD α]{o:Oper}{a:Act}{w:ax}{ops:Array Oper}{rest:List Oper}{K:Act->ax->Prop}{Q:Exit->Act->ax->Prop}{E:Prop}(hgd:o.guard=none)(s x:Operand)(t:TypeId)
 (ho:o.op= .call {callee:= .builtin .append,args:= #[s,x],argTypes:= #[t,t]})
 (M:aV)(base:Nat)(e:TypeId)(i:TypeInfo)(z:aA)(bytes:Nat)(ht:P.underlying t=some (.slice e))(hi:P.info? e=some i)(hz:i.zero=some z)
 (hsize:i.size=aD.size α)(hby:i.bytes=bytes)(hzs:z.cells.size=aD.size α)(hsz:0<aD.size α)
 (v:aA)(xs:List α)(hs:a.eval s=v)(hacc:aS M base e w v xs)
include hgd ho ht hi hz hsize hby hzs hsz hs hacc
section
variable(F:aV)(sv:aA)(cs:List aA)(y:α)(hx:a.eval x=sv)(hr:ct F w (aD.size α) sv 1 cs)(hy:aD.rep (bu v M) w cs y)
 (h63:xs.length+1<=maxLen)(hbytes:(xs.length+1)*bytes<=140737488355328)(hbase:base<=w.heap.size)
include hx hr hy h63 hbytes hbase
def bo
 (h:∀a' c' w',aS M base e w' (xL a' (xs.length+1) c') (xs++[y])->Ev (bu v M) w (bu (xL a' (xs.length+1) c') M) w'->Below base w w'->wpList P ops Q rest (a.put o.dst (xL a' (xs.length+1) c')) w'):wpList P ops Q (o::rest) a w:=by
 obtain⟨css,h1,h2,h3⟩:=hacc;refine gY w hgd s x t ho base e i z (aD.size α) bytes ht hi hz hsize hby hzs hsz v xs.length css.flatten hs h1 sv 1 cs hx hr (aD.flat hy) h63 hbytes hbase λa' c' w' k1 k2 k3=> ?_;exact h a' c' w' (aS.snoc h2 h3 hy k1 k2 k3) (Ev.grown k2 k3) ((Qbg _ w).grown k2 hbase λk hk=>(h1.lt k hk).1)
def dT
 (h:∀a' c' w',aS M base e w' (xL a' (xs.length+1) c') (xs++[y])->Ev (bu v M) w (bu (xL a' (xs.length+1) c') M) w'->Below base w w'->K (a.put o.dst (xL a' (xs.length+1) c')) w'):
 if Region.wanted o (yielded ops a.tmps)=true then Oper.wp P o a w K Q else E:=by
 have hw:Region.wanted o (yielded ops a.tmps)=true:=by simp[Region.wanted,hgd]
 rw[if_pos hw];obtain⟨css,h1,h2,h3⟩:=hacc;refine kj w s x t ho base e i z (aD.size α) bytes ht hi hz hsize hby hzs hsz v xs.length css.flatten hs h1 sv 1 cs hx hr (aD.flat hy) h63 hbytes hbase λv' w' k1 k2 k3=> ?_;obtain⟨a',c',rfl,_,_⟩:=fe k1;exact h a' c' w' (aS.snoc h2 h3 hy k1 k2 k3) (Ev.grown k2 k3) ((Qbg _ w).grown k2 hbase λk hk=>(h1.lt k hk).1)
end
variable(sv:aA)(ys:List α)(hx:a.eval x=sv)(hr:ab (bu v M) w sv ys)
 (h63:xs.length+ys.length<=maxLen)(hbytes:(xs.length+ys.length)*bytes<=140737488355328)(hbase:base<=w.heap.size)
include hx hr h63 hbytes hbase
def dp
 (h:∀a' c' w',aS M base e w' (xL a' (xs.length+ys.length) c') (xs++ys)->Ev (bu v M) w (bu (xL a' (xs.length+ys.length) c') M) w'->Below base w w'->wpList P ops Q rest (a.put o.dst (xL a' (xs.length+ys.length) c')) w'):wpList P ops Q (o::rest) a w:=by
 obtain⟨css,h1,h2,h3⟩:=hacc;obtain⟨ME,k1,k2,k3⟩:=hr;have Fe:∀u∈ME.flatten,u.oneCell'=true:=λu hu=>by
  have⟨cs,hcs,hu⟩:=List.mem_flatten.1 hu;have⟨i,hi⟩:=Qdg hcs;have vZ:i<ys.length:=by rw[<-k2];exact(Qad.1 hi).1
  exact aD.flat (k3 i cs _ hi (Qac vZ)) u hu
 refine gY w hgd s x t ho base e i z (aD.size α) bytes ht hi hz hsize hby hzs hsz v xs.length css.flatten hs h1 sv ys.length ME.flatten hx k1 Fe h63 hbytes hbase λa' c' w' j1 j2 j3=> ?_;exact h a' c' w' (aS.app h2 h3 k2 k3 j1 j2 j3) (Ev.grown j2 j3) ((Qbg _ w).grown j2 hbase λk hk=>(h1.lt k hk).1)
def tu
 (h:∀a' c' w',aS M base e w' (xL a' (xs.length+ys.length) c') (xs++ys)->Ev (bu v M) w (bu (xL a' (xs.length+ys.length) c') M) w'->Below base w w'->K (a.put o.dst (xL a' (xs.length+ys.length) c')) w'):
 if Region.wanted o (yielded ops a.tmps)=true then Oper.wp P o a w K Q else E:=by
 have hw:Region.wanted o (yielded ops a.tmps)=true:=by simp[Region.wanted,hgd]
 rw[if_pos hw];obtain⟨css,h1,h2,h3⟩:=hacc;obtain⟨ME,k1,k2,k3⟩:=hr;have Fe:∀u∈ME.flatten,u.oneCell'=true:=λu hu=>by
  have⟨cs,hcs,hu⟩:=List.mem_flatten.1 hu;have⟨i,hi⟩:=Qdg hcs;have vZ:i<ys.length:=by rw[<-k2];exact(Qad.1 hi).1
  exact aD.flat (k3 i cs _ hi (Qac vZ)) u hu
 refine kj w s x t ho base e i z (aD.size α) bytes ht hi hz hsize hby hzs hsz v xs.length css.flatten hs h1 sv ys.length ME.flatten hx k1 Fe h63 hbytes hbase λv' w' j1 j2 j3=> ?_;obtain⟨a',c',rfl,_,_⟩:=fe j1;exact h a' c' w' (aS.app h2 h3 k2 k3 j1 j2 j3) (Ev.grown j2 j3) ((Qbg _ w).grown j2 hbase λk hk=>(h1.lt k hk).1)
end
def I6(x:Int):Prop:= -9223372036854775808<=x/\x<=9223372036854775807
structure jF where
 ai:Int
 an:Int
 of:Int
 indexed:Bool
structure tw where
 ai:Int
 ah:List jF
structure fM where
 an:Int
 field:Int
 ai:Int
 more:Int
 type:br
 cX:Int
 bZ:Int
structure ib where
 cL:tw
 aw:List fM
structure jO where
 cL:Int
 cQ:Int
 aZ:List Int
 skip:Int
structure jY where
 ai:Int
 id:Int
instance:aD jF where
 size:=4
 rep:=λ_ _ cs x=>cs=[xI x.ai,xI x.an,xI x.of,xB x.indexed]/\I6 x.ai/\I6 x.an/\I6 x.of
 len:=λh=>by rw[h.1];rfl
 flat:=λh u hu=>by rw[h.1]at hu;simp at hu;rcases hu with rfl|rfl|rfl|rfl<;>rfl
 ev:=λh _=>h
instance:aD fM where
 size:=8
 rep:=λ_ _ cs x=>cs=[xI x.an,xI x.field,xI x.ai,xI x.more,xI x.type.an,xI x.type.of,xI x.cX,xI x.bZ]/\I6 x.an/\I6 x.field/\I6 x.ai/\I6 x.more/\I6 x.type.an/\I6 x.type.of/\I6 x.cX/\I6 x.bZ
 len:=λh=>by rw[h.1];rfl
 flat:=λh u hu=>by rw[h.1]at hu;simp at hu;rcases hu with rfl|rfl|rfl|rfl|rfl|rfl|rfl|rfl<;>rfl
 ev:=λh _=>h
instance:aD jY where
 size:=2
 rep:=λ_ _ cs x=>cs=[xI x.ai,xI x.id]/\I6 x.ai/\I6 x.id
 len:=λh=>by rw[h.1];rfl
 flat:=λh u hu=>by rw[h.1]at hu;simp at hu;rcases hu with rfl|rfl<;>rfl
 ev:=λh _=>h
instance:aD tw where
 size:=2
 rep:=λM w cs x=>∃fv,cs=[xI x.ai,fv]/\ab M w fv x.ah/\I6 x.ai
 len:=λ⟨_,h,_⟩=>by rw[h];rfl
 flat:=λ⟨_,h,h1,_⟩u hu=>by rw[h]at hu;simp at hu;rcases hu with rfl|rfl;rfl;exact eT h1
 ev:=λ⟨fv,h,h1,h2⟩k=>⟨fv,h,h1.ev k,h2⟩
instance:aD ib where
 size:=3
 rep:=λM w cs x=>∃fv cv,cs=[xI x.cL.ai,fv,cv]/\ab M w fv x.cL.ah/\ab M w cv x.aw/\I6 x.cL.ai
 len:=λ⟨_,_,h,_⟩=>by rw[h];rfl
 flat:=λ⟨_,_,h,h1,h2,_⟩u hu=>by rw[h]at hu;simp at hu;rcases hu with rfl|rfl|rfl;rfl;exact eT h1;exact eT h2
 ev:=λ⟨fv,cv,h,h1,h2,h3⟩k=>⟨fv,cv,h,h1.ev k,h2.ev k,h3⟩
instance:aD jO where
 size:=4
 rep:=λM w cs x=>∃vv,cs=[xI x.cL,xI x.cQ,vv,xI x.skip]/\ab M w vv x.aZ/\I6 x.cL/\I6 x.cQ/\I6 x.skip/\∀y∈x.aZ,I6 y
 len:=λ⟨_,h,_⟩=>by rw[h];rfl
 flat:=λ⟨_,h,h1,_⟩u hu=>by rw[h]at hu;simp at hu;rcases hu with rfl|rfl|rfl|rfl;rfl;rfl;exact eT h1;rfl
 ev:=λ⟨vv,h,h1,h2⟩k=>⟨vv,h,h1.ev k,h2⟩
variable{b:Nat}
def cell_of_heap {cs:Array aA}{t:TypeId}{fr:Nat×Nat}(h:bW W b (.cells cs t fr)){i:Nat}{v:aA}(hv:cs[i]? =some v):bJ W b i v:=by
 simp[World.cell?,h,hv]
def aj {cs:Array aA}{t:TypeId}(h:bW W b (.cells cs t (0,0)))(i:Nat):W.frozen? (b,i)=false:=by
 simp[World.frozen?,h]
variable{w':ax}
theorem Ev.setCell {M:aV}{w:ax}(h:Ev M w N w'){p:Addr}(hp:M p.block\/w<=p.block)(u:aA):Ev M w N (w'.setCell p u):=⟨h.only.setCell hp u,h.sub⟩
theorem Ev.drew {M:aV}{w:ax}(h:Ev M w N w'):Ev M w N w'.drew:=⟨h.only.drew,h.sub⟩
theorem Ev.alloc {M:aV}{w:ax}(h:Ev M w N w')(o:Obj):Ev M w N (w'.alloc o):=⟨h.only.alloc o,h.sub⟩
theorem aS.rC {α:Type} [aD α]{M:aV}{base:Nat}{e:TypeId}{w:ax}{v:aA}{xs:List α}(h:aS M base e w v xs){p:Addr}(hp:M p.block)(hb:p.block<base)(u:aA):aS M base e (w.setCell p u) v xs:=by
 obtain⟨css,h1,h2,h3⟩:=h;exact⟨css,ownsRow_setCell_below h1 hb u,h2,λi cs x hc hx=>aD.ev (h3 i cs x hc hx) ((Ev.refl _ w).setCell (.inl (.inl hp)) u)⟩
variable{o0:Obj}
def rE {w:ax}(hW:W=w.alloc o0):dk W w o0/\W.heap.size=[w]/\aC w W:=by
 subst hW;exact⟨Qbh w o0,by simp,bU⟩
variable{o1:Obj}
def jZ {w:ax}(hW:W=(w.alloc o0).alloc o1):dk W w o0/\bW W [w] o1/\W.heap.size=↑w+2/\aC w W:=by
 subst hW;have⟨h0,hz,hb⟩:=rE (w:=w) (o0:=o0) rfl;exact⟨(Qcb _ _ _ (by omega)).trans h0,by rw[<-hz];exact Qbh _ _,by rw[World.size_alloc,hz],hb.alloc hb.size _⟩
variable{o2:Obj}
def CS {w:ax}(hW:W=((w.alloc o0).alloc o1).alloc o2):dk W w o0/\bW W [w] o1/\bW W (↑w+2) o2/\W.heap.size=↑w+3/\aC w W:=by
 subst hW;have⟨h0,h1,hz,hb⟩:=jZ (w:=w) (o0:=o0) (o1:=o1) rfl;exact⟨(Qcb _ _ _ (by omega)).trans h0,(Qcb _ _ _ (by omega)).trans h1,by rw[<-hz];exact Qbh _ _,by rw[World.size_alloc,hz],hb.alloc hb.size _⟩
variable{o3:Obj}
def Tg {w:ax}(hW:W=(((w.alloc o0).alloc o1).alloc o2).alloc o3):dk W w o0/\bW W [w] o1/\bW W (↑w+2) o2/\bW W (↑w+3) o3/\W.heap.size=↑w+4/\aC w W:=by
 subst hW;have⟨h0,h1,h2,hz,hb⟩:=CS (w:=w) (o0:=o0) (o1:=o1) (o2:=o2) rfl;exact⟨(Qcb _ _ _ (by omega)).trans h0,(Qcb _ _ _ (by omega)).trans h1,(Qcb _ _ _ (by omega)).trans h2,by rw[<-hz];exact Qbh _ _,by rw[World.size_alloc,hz],hb.alloc hb.size _⟩
def aU(c:Int)(n:Nat):Nat:=((if c<0 then-(c+1)else c)%n).toNat
def cR(c:Int)(n:Nat)(h:0<n):aU c n<n:=by
 unfold aU;have h1:=Int.emod_lt_of_pos (if c<0 then-(c+1)else c) (b:=n) (by omega);have h2:=Int.emod_nonneg (if c<0 then-(c+1)else c) (b:=n) (by omega);omega
def fg(c:Int)(n:Int)(w:ax)(hc:I6 c)(hn:1<=n)(hn2:n<=1000000):
 xC 117 #[c,n] w (jt (aU c n.toNat) w):=by
 obtain⟨hc1,A7⟩:=hc;have e0:((aU c n.toNat:Nat):Int)=(if c<0 then-(c+1)else c)%n:=by
  unfold aU;rw[Int.toNat_of_nonneg (a:=n) (by omega)];exact Int.toNat_of_nonneg (Int.emod_nonneg _ (by omega))
 by_cases h:c<0
 .rw[if_pos h]at e0;have E:=ag e0;clear e0;go_enter func117,ntmps117;go_wp2;go_ret;refine⟨iX ?_,rfl⟩;rw[E.o,<-Int.neg_tmod,Int.tmod_eq_emod_of_nonneg (by omega)]
 .rw[if_neg h]at e0;have E:=ag e0;clear e0;go_enter func117,ntmps117;go_wp2;go_ret;exact⟨iX E.o.symm,rfl⟩
def iH(c:Int)(n:Int)(w:ax)(hc:I6 c)(hn:1<=n)(hn2:n<=1000000):
 xC 178 #[c,n] w (jt (aU c n.toNat) w):=by
 obtain⟨hc1,A7⟩:=hc;have e0:((aU c n.toNat:Nat):Int)=(if c<0 then-(c+1)else c)%n:=by
  unfold aU;rw[Int.toNat_of_nonneg (a:=n) (by omega)];exact Int.toNat_of_nonneg (Int.emod_nonneg _ (by omega))
 by_cases h:c<0
 .rw[if_pos h]at e0;have E:=ag e0;clear e0;go_enter func178,ntmps178;go_wp2;go_ret;refine⟨iX ?_,rfl⟩;rw[E.o,<-Int.neg_tmod,Int.tmod_eq_emod_of_nonneg (by omega)]
 .rw[if_neg h]at e0;have E:=ag e0;clear e0;go_enter func178,ntmps178;go_wp2;go_ret;exact⟨iX E.o.symm,rfl⟩
def kZ(c:Int)(n:Int)(w:ax)(hc:I6 c)(hn:1<=n)(hn2:n<=1000000):
 xC 20 #[c,n] w (jt (aU c n.toNat) w):=by
 obtain⟨hc1,A7⟩:=hc;have e0:((aU c n.toNat:Nat):Int)=(if c<0 then-(c+1)else c)%n:=by
  unfold aU;rw[Int.toNat_of_nonneg (a:=n) (by omega)];exact Int.toNat_of_nonneg (Int.emod_nonneg _ (by omega))
 by_cases h:c<0
 .rw[if_pos h]at e0;have E:=ag e0;clear e0;go_enter func20,ntmps20;go_wp2;go_ret;refine⟨iX ?_,rfl⟩;rw[E.o,<-Int.neg_tmod,Int.tmod_eq_emod_of_nonneg (by omega)]
 .rw[if_neg h]at e0;have E:=ag e0;clear e0;go_enter func20,ntmps20;go_wp2;go_ret;exact⟨iX E.o.symm,rfl⟩
def lZ:List aY:=[⟨#[97]⟩,⟨#[98,50]⟩,⟨#[110,97,109,101]⟩,⟨#[110,101,120,116,95,111,110,101]⟩,⟨#[107,105,100,115]⟩,⟨#[120]⟩]
def lQ:List aY:=[⟨#[110,111,100,101]⟩,⟨#[105,116,101,109]⟩,⟨#[117,115,101,114]⟩,⟨#[112,97,103,101,95,49]⟩,⟨#[108,101,97,102]⟩,⟨#[113]⟩]
def Ti(k:Nat):aY:=lZ.getD k ()
def NB(k:Nat):aY:=lQ.getD k ()
def Uu(h:k<6):(#[xS ⟨#[97]⟩,xS ⟨#[98,50]⟩,xS ⟨#[110,97,109,101]⟩,xS ⟨#[110,101,120,116,95,111,110,101]⟩,xS ⟨#[107,105,100,115]⟩,xS ⟨#[120]⟩]:Array aA)[k]? =some (xS (Ti k)):=by
 rcases k with _|_|_|_|_|_|k<;>first|rfl|omega
def Rr(h:k<6):(#[xS ⟨#[110,111,100,101]⟩,xS ⟨#[105,116,101,109]⟩,xS ⟨#[117,115,101,114]⟩,xS ⟨#[112,97,103,101,95,49]⟩,xS ⟨#[108,101,97,102]⟩,xS ⟨#[113]⟩]:Array aA)[k]? =some (xS (NB k)):=by
 rcases k with _|_|_|_|_|_|k<;>first|rfl|omega
def Rs(h:k<6):Ti k∈lZ:=by
 rcases k with _|_|_|_|_|_|k<;>first|(simp[Ti,lZ];done)|omega
def NC(h:k<6):NB k∈lQ:=by
 rcases k with _|_|_|_|_|_|k<;>first|(simp[NB,lQ];done)|omega
def rI:∀s∈lZ,aM s=true/\s.size<=20:=by decide
def ic:∀s∈lQ,aM s=true/\s.size<=20:=by decide
def cM(h:s.size<=20):s.size<=maxLen:=by unfold maxLen;omega
def iZ(c:aI):Prop:=aX c=true/\c.ah.length<=6/\(∀f∈c.ah,f.ai∈lZ)/\c.ai∈lQ
def gI(fs:List aH):Prop:=(∀f∈fs,f.ai∈lZ/\bS f=true)/\∀(j:Nat)(f:aH),fs[j]? =some f->idxOf (λg:aH=>cq g.ai f.ai) fs=j
def uC {α:Type}{p:α->Bool}{xs ys:List α}(h:idxOf p xs=j):idxOf p (xs++ys)=j:=by
 unfold idxOf at*;cases hf:xs.findIdx? p with
 |none=>rw[hf]at h;simp at h
 |some i=>rw[hf]at h;rw[List.findIdx?_append,hf];simpa using h
theorem gI.snoc {fs:List aH}(h:gI fs)(hn:f.ai∈lZ)(hr:bS f=true)(hm:idxOf (λg:aH=>cq g.ai f.ai) fs= -1):gI (fs++[f]):=by
 refine⟨λg hg=> ?_,λj g hg=> ?_⟩
 .rcases Qch.1 hg with h1|h1
  .exact h.1 g h1
  .simp at h1;subst h1;exact⟨hn,hr⟩
 .by_cases hj:j<fs.length
  .rw[Qbc hj]at hg;exact uC (h.2 j g hg)
  .rw[Qbd (by omega)]at hg;have h0:j-fs.length=0:=by
    cases hq:j-fs.length with
    |zero=>rfl
    |succ q=>rw[hq]at hg;simp at hg
   rw[h0]at hg;simp at hg;subst hg;unfold idxOf at hm⊢;cases hf:fs.findIdx? (λg=>cq g.ai f.ai)with
   |some i=>rw[hf]at hm;simp at hm
   |none=>
    rw[List.findIdx?_append,hf];have:cq f.ai f.ai=true:=by simp[cq]
    simp[this];omega
variable{nm:aY}
theorem gI.cL {fs:List aH}(h:gI fs)(hl:fs.length<=6)(hn:nm∈lQ):iZ ⟨nm,fs⟩:=
 ⟨(bC _).2 ⟨(ic nm hn).1,Qcg hl (by omega),λj f _ hf=>⟨(h.1 f (Qaf hf)).2,h.2 j f hf⟩⟩,hl,λf hf=>(h.1 f hf).1,hn⟩
def rJ(r:jF):aH:=⟨Ti (aU r.ai 6),⟨1+(aU r.an 5:Int),if aU r.an 5=4 then 1+(aU r.of 4:Int)else 0⟩,r.indexed&&decide (1+(aU r.an 5:Int)<=3)⟩
def wL(r:jF):bS (rJ r)=true/\(rJ r).ai∈lZ:=by
 have h1:=Rs (cR r.ai 6 (by omega));have h2:=cR r.an 5 (by omega);have h3:=cR r.of 4 (by omega);refine⟨?_,h1⟩;have e1:=(rI _ h1).1;unfold bS rJ;simp only[e1,Bool.true_and,Qce];constructor
 .unfold aR;by_cases h4:aU r.an 5=4
  .simp[h4];omega
  .simp only[h4,if_false];rw[if_neg (by omega)];simp;omega
 .cases r.indexed<;>simp
def gu:(Tryz.prog.info? 60).map (λi=>(i.zero,i.size,i.bytes))=some (some (.agg #["",xI 0,xI 0,false]),4,40):=by kernel_rfl
def CZ(M:aV)(fv:aA)(w:ax)(fs:List aH)(nm ai:aY)(hs:ab M w fv fs)(h:idxOf (λg:aH=>cq g.ai ai) fs<0):
 xC 118 #[.agg #[nm,fv],ai] w (cu (.tuple #[xI 0,false]) w):=
 lO M fv w ⟨nm,fs⟩ ai 0 false hs (if_pos h) (by have h':fieldAt ⟨nm,fs⟩ ai<0:=h;rw[decide_eq_true h'];rfl)
def Bm(M:aV)(fv:aA)(w:ax)(fs:List aH)(nm ai:aY)(hs:ab M w fv fs)(h:¬idxOf (λg:aH=>cq g.ai ai) fs<0):
 xC 118 #[.agg #[nm,fv],ai] w (cu (.tuple #[xI (idxOf (λg:aH=>cq g.ai ai) fs),true]) w):=
 lO M fv w ⟨nm,fs⟩ ai _ true hs (if_neg h) (by have h':¬fieldAt ⟨nm,fs⟩ ai<0:=h;rw[decide_eq_false h'];rfl)
def Jh(x:List UInt8):Prop:=(∃c,x=[c]/\32<=c/\c<127)\/x=[195,169]
def iP(l:List UInt8):Prop:=∃ss:List (List UInt8),l=ss.flatten/\∀x∈ss,Jh x
def gi(s:aY):Prop:=s.size<=60/\iP s.data.toList
def ow:aY:=⟨#[]⟩
def lJ(k ay:Int)(v:aJ):Prop:=
 (k=1/\∃n,v= .mk 1 n ow []/\-1000000000000000<=n/\n<=1000000000000000)\/(k=2/\∃s,v= .mk 2 0 s []/\gi s)\/
 ((k=3\/k=4)/\(v= .mk 0 0 ow []\/∃n,v= .mk k n ow []/\1<=n/\n<=ay))
def dI(t:br)(ay:Int)(v:aJ):Prop:=
 (t.an=5/\∃l,v= .mk 5 0 ow l/\l.length<=12/\∀x∈l,lJ t.of ay x)\/(t.an≠5/\lJ t.an ay v)
def Uv:List aY:=[(),⟨#[97]⟩,⟨#[98,99]⟩,⟨#[195,169,116,195,169]⟩,⟨#[97,32,98]⟩,⟨#[122,122,32,116,111,112]⟩,⟨#[48]⟩,⟨#[45,55]⟩]
def Yp(k:Nat):aY:=Uv.getD k ow
def Uw(h:k<8):(#["",xS ⟨#[97]⟩,xS ⟨#[98,99]⟩,xS ⟨#[195,169,116,195,169]⟩,xS ⟨#[97,32,98]⟩,xS ⟨#[122,122,32,116,111,112]⟩,xS ⟨#[48]⟩,xS ⟨#[45,55]⟩]:Array aA)[k]? =some (xS (Yp k)):=by
 rcases k with _|_|_|_|_|_|_|_|k<;>first|rfl|omega
def F7(x:List UInt8):Bool:=(match x with|[c]=>decide (32<=c)&&decide (c<127)|_=>false)||x==[195,169]
def NF {x:List UInt8}(h:F7 x=true):Jh x:=by
 unfold F7 at h;simp only[Bool.or_eq_true,beq_iff_eq]at h;rcases h with h|h
 .split at h
  .simp at h;exact .inl ⟨_,rfl,h.1,h.2⟩
  .cases h
 .exact .inr h
def ja(ss:List (List UInt8))(h:ss.all F7=true){l:List UInt8}(hl:l=ss.flatten):iP l:=⟨ss,hl,λx hx=>NF (List.all_eq_true.1 h x hx)⟩
def NG(h:k<8):gi (Yp k):=by
 rcases k with _|_|_|_|_|_|_|_|k
 .exact⟨by decide,ja [] (by decide) (by decide)⟩
 .exact⟨by decide,ja [[97]] (by decide) (by decide)⟩
 .exact⟨by decide,ja [[98],[99]] (by decide) (by decide)⟩
 .exact⟨by decide,ja [[195,169],[116],[195,169]] (by decide) (by decide)⟩
 .exact⟨by decide,ja [[97],[32],[98]] (by decide) (by decide)⟩
 .exact⟨by decide,ja [[122],[122],[32],[116],[111],[112]] (by decide) (by decide)⟩
 .exact⟨by decide,ja [[48]] (by decide) (by decide)⟩
 .exact⟨by decide,ja [[45],[55]] (by decide) (by decide)⟩
 .omega
def jQ:ow.size<=maxLen:=by unfold maxLen;decide
def oK(k n:Int)(s:aY)(hs:s.size<=maxLen):cB M w (.agg #[k,n,s,()]) (aJ.mk k n s []):=
 ⟨_,rfl,eU.iff.2 ⟨_,rfl,ab.nil _ _,hs⟩⟩
def ie:(Tryz.prog.info? 44).map (λi=>(i.zero,i.size,i.bytes))=some (some (.agg iE),4,56):=by kernel_rfl
def zT(M:aV)(w:ax)(k of n ay:Int)(hk1:1<=k)(hk2:k<=4)(hn:I6 n)(oF:ay<=1000):
 xG 122 #[.agg #[k,of],n,ay] w λv w'=>∃x,lJ k ay x/\cB M w' v x:=by
 have HI:=ag hn;clear hn;have Xv:=cR n 8 (by omega);have qfu:=cR n 41 (by omega);have ZB:k=1\/k=2\/(k=3\/k=4):=by omega
 rcases ZB with rfl|rfl|hk
 .go_enter func122,ntmps122;go_wp2_with fail;refine dw (fg _ _ _ HI.o (by omega) (by omega)) ?_;go_wp2_with fail;refine Qae (v:= .agg #[xI 1,xI ((aU n 41:Int)-20),"",()]) (by simp[results,results122,go_sem]) rfl ⟨_,rfl,⟨.mk 1 ((aU n 41:Int)-20) ow [], .inl ⟨rfl,_,rfl,by omega,by omega⟩,oK _ _ _ jQ⟩,?_⟩;exact(bU.alloc (by simp) _).alloc (by simp;omega) _
 .go_enter func122,ntmps122;go_wp2_with fail;refine dw (fg _ _ _ HI.o (by omega) (by omega)) ?_;obtain⟨W,hW⟩:∃W:ax,W=((w.alloc (xK #[xI 2,of] 49)).alloc (xK iE 44)).alloc
   (xK #["",xS ⟨#[97]⟩,xS ⟨#[98,99]⟩,xS ⟨#[195,169,116,195,169]⟩,xS ⟨#[97,32,98]⟩,xS ⟨#[122,122,32,116,111,112]⟩,xS ⟨#[48]⟩,xS ⟨#[45,55]⟩] 9):=⟨_,rfl⟩;rw[<-hW];have⟨b0,b1,b2,hz,hb⟩:=CS hW;clear hW;have hcn:bJ W [w,w] (aU n 8) (xS (Yp (aU n 8))):=cell_of_heap b2 (Uw Xv);have⟨q0,q1,q2,q3⟩:=af b1;have⟨f0,f1,f2,f3⟩:=hZ b1;have HZ:=ag hz;clear hz;have HB:=ag hb;clear hb;clear b0 b1 b2;go_wp2_with fail;refine Qae (v:= .agg #[xI 2,xI 0,xS (Yp (aU n 8)),()]) (by simp[results,results122,go_sem,q0,q1,q2,q3]) rfl ⟨_,rfl,⟨.mk 2 0 (Yp (aU n 8)) [], .inr (.inl ⟨rfl,_,rfl,NG Xv⟩),oK _ _ _ (by have:=(NG Xv).1;unfold maxLen;omega)⟩,?_⟩;exact(((HB.o.setCell (by simp) _).setCell (by simp) _).setCell (by simp) _).setCell (by simp) _
 .have e1:(k==1)=false:=by simp;omega
  have e2:(k==2)=false:=by simp;omega
  have HK:=ag hk;have NIL:Hd (lJ k ay (.mk 0 0 ow [])):= .inr (.inr ⟨hk, .inl rfl⟩);have VN:(k==3)=true\/((k==3)=false/\(k==4)=true):=by rcases hk with h|h;exact .inl (by simp;omega);exact .inr ⟨by simp;omega,by simp;omega⟩
  clear hk;by_cases TN:ay<1
  .rcases VN with e3|⟨e3,e4⟩;all_goals
    go_enter func122,ntmps122;go_wp2_with fail;refine Qae (v:= .agg iE) (by simp[results,results122,go_sem]) rfl ⟨_,rfl,⟨.mk 0 0 ow [],NIL.o,oK _ _ _ jQ⟩,?_⟩;exact(bU.alloc (by simp) _).alloc (by simp;omega) _
  .by_cases h4:aU n 5=4
   .have ZC:((aU n 5:Int)==4)=true:=by simp;omega
    clear h4;rcases VN with e3|⟨e3,e4⟩;all_goals
     go_enter func122,ntmps122;go_wp2_with fail;refine dw (fg _ _ _ HI.o (by omega) (by omega)) ?_;go_wp2_with fail;refine Qae (v:= .agg iE) (by simp[results,results122,go_sem]) rfl ⟨_,rfl,⟨.mk 0 0 ow [],NIL.o,oK _ _ _ jQ⟩,?_⟩;exact(bU.alloc (by simp) _).alloc (by simp;omega) _
   .have ZC:((aU n 5:Int)==4)=false:=by simp;omega
    have hpm:=cR n ay.toNat (by omega);have REF:Hd (lJ k ay (.mk k (1+(aU n ay.toNat:Int)) ow [])):= .inr (.inr ⟨HK.o, .inr ⟨_,rfl,by omega,by omega⟩⟩);clear h4;rcases VN with e3|⟨e3,e4⟩;all_goals
     go_enter func122,ntmps122;go_wp2_with fail;refine dw (fg _ _ _ HI.o (by omega) (by omega)) ?_;go_wp2_with fail;have z3:IntKind.i64.wrap (1+(aU n ay.toNat:Int))=1+(aU n ay.toNat:Int):=Qbe _ (by omega);go_region_held3(λw'=>w'.cell? (w,0)=some (xI k))
      (first|go_keep)
      (first|(go_at_call 117;refine dw (fg _ _ _ HI.o (by omega) (by omega)) ?_));all_goals
      go_wp2_with fail;refine Qae (v:= .agg #[k,xI (1+(aU n ay.toNat:Int)),"",()]) (by simp[results,results122,go_sem]) rfl ⟨_,rfl,⟨_,REF.o,oK _ _ _ jQ⟩,?_⟩;exact((bU.alloc (by simp) _).alloc (by simp;omega) _).drew
def Bx(w:ax)(os:List Obj)(wx:ax):Prop:=aC w wx/\w.heap.size+os.length<=wx/\∀(i:Nat)(o:Obj),os[i]? =some o->bW wx (↑w+i) o
section
variable {w wx w':ax}{os:List Obj}
theorem Bx.nil(w:ax):Bx w [] w:=⟨dS,by simp,λi o h=>by simp at h⟩
theorem Bx.at_(h:Bx w os wx)(i:Nat)(hi:os[i]? =some o):bW wx (↑w+i) o:=h.2.2 i o hi
theorem Bx.bO(h:Bx w os wx)(hi:os[0]? =some o):dk wx w o:=h.2.2 0 o hi
theorem Bx.cg(h:Bx w os wx)(hi:os[1]? =some o):bW wx [w] o:=h.2.2 1 o hi
theorem Bx.fB(h:Bx w os wx)(hi:os[2]? =some o):bW wx [w,w] o:=h.2.2 2 o hi
theorem Bx.Bv(h:Bx w os wx)(hi:os[3]? =some o):bW wx [w,w,w] o:=h.2.2 3 o hi
theorem Bx.Xn(h:Bx w os wx)(hi:os[4]? =some o):bW wx (w.heap.size+1+1+1+1) o:=h.2.2 4 o hi
theorem Bx.bQ(h:Bx w os wx):w.heap.size+os.length<=wx:=h.2.1
variable{B:Nat}
theorem Bx.dG(h:Bx w os wx)(k:Below B wx w')(hB:w.heap.size+os.length<=B):Bx w os w':=by
 obtain⟨h1,h2,h3⟩:=h;refine⟨h1.trans (k.mono (by omega)),by have:=k.size;omega,λi o hi=> ?_⟩;have hl:=(Qad.1 hi).1;exact(k.block _ (by omega)).trans (h3 i o hi)
theorem Bx.ae(h:Bx w os wx)(k:aC wx w'):Bx w os w':=h.dG k h.2.1
theorem Bx.alloc(h:Bx w os wx)(o:Obj):Bx w os (wx.alloc o):=h.ae (dS.alloc bT o)
theorem Bx.drew(h:Bx w os wx):Bx w os wx.drew:=⟨h.1.drew,h.2⟩
theorem Bx.drewN(h:Bx w os wx)(n:Nat):Bx w os (wx.drewN n):=⟨⟨h.1.os,h.1.tape,h.1.output,h.1.size,h.1.block⟩,h.2⟩
theorem Bx.snoc(h:Bx w os wx)(hs:wx.heap.size=↑w+os.length)(o:Obj):Bx w (os++[o]) (wx.alloc o):=by
 obtain⟨h1,h2,h3⟩:=h;refine⟨h1.alloc h1.size o,by simp;omega,λi p hi=> ?_⟩;by_cases hl:i<os.length
 .rw[Qbc hl]at hi;exact(Qcb wx o _ (by omega)).trans (h3 i p hi)
 .rw[Qbd (by omega)]at hi;have h0:i-os.length=0:=by
   cases hq:i-os.length with
   |zero=>rfl
   |succ q=>rw[hq]at hi;simp at hi
  rw[h0]at hi;simp at hi;subst hi;rw[show w.heap.size+i=wx from by omega];exact Qbh wx o
theorem Bx.eI(w:ax)(o0:Obj):Bx w [o0] (w.alloc o0):=(Bx.nil w).snoc (by simp) o0
theorem Bx.du(w:ax)(o0 o1:Obj):Bx w [o0,o1] ((w.alloc o0).alloc o1):=(Bx.eI w o0).snoc (by simp) o1
theorem Bx.gj(w:ax)(o0 o1 o2:Obj):Bx w [o0,o1,o2] (((w.alloc o0).alloc o1).alloc o2):=(Bx.du w o0 o1).snoc (by simp) o2
theorem Bx.KE(w:ax)(o0 o1 o2 o3:Obj):Bx w [o0,o1,o2,o3] ((((w.alloc o0).alloc o1).alloc o2).alloc o3):=(Bx.gj w o0 o1 o2).snoc (by simp) o3
theorem Bx.NQ(w:ax)(o0 o1 o2 o3 o4:Obj):Bx w [o0,o1,o2,o3,o4] (((((w.alloc o0).alloc o1).alloc o2).alloc o3).alloc o4):=(Bx.KE w o0 o1 o2 o3).snoc (by simp) o4
theorem Bx.set(h:Bx w os wx)(i j:Nat){cs:Array aA}(hi:os[i]? =some (.cells cs t (0,0)))(v:aA):Bx w (os.set i (.cells (cs.setIfInBounds j v) t (0,0))) (wx.setCell (w.heap.size+i,j) v):=by
 obtain⟨h1,h2,h3⟩:=h;refine⟨h1.setCell (by simp) v,by simpa [World.setCell]using h2,λk o hk=> ?_⟩;have hl:=(Qad.1 hi).1;by_cases e:k=i
 .subst e;rw[List.getElem?_set_self hl]at hk;cases hk;have:=Qca wx (↑w+k) j cs t v (h3 k _ hi);simpa using this
 .rw[List.getElem?_set_ne (λh=>e h.symm)]at hk;exact(Qag _ _ _ _ (by simp;omega)).trans (h3 k o hk)
end
def zY:iP []:=⟨[],rfl,λx h=>by cases h⟩
def tI {a b:List UInt8}(h:iP a)(k:iP b):iP (a++b):=by
 obtain⟨x,rfl,h1⟩:=h;obtain⟨y,rfl,h2⟩:=k;exact⟨x++y,by simp,λz hz=>(Qch.1 hz).elim (h1 z) (h2 z)⟩
def zZ {x:List UInt8}(h:Jh x):iP x:=⟨[x],by simp,λz hz=>by simp at hz;subst hz;exact h⟩
def NY {l:List UInt8}(h:iP l)(hl:l≠[]):∃x r,l=x++r/\Jh x/\iP r:=by
 obtain⟨ss,rfl,h1⟩:=h;cases ss with
 |nil=>exact absurd rfl hl
 |cons x r=>exact⟨x,r.flatten,rfl,h1 x List.mem_cons_self,r,rfl,λz hz=>h1 z (List.mem_cons_of_mem _ hz)⟩
def oS(l:List UInt8)(h:∀c∈l,32<=c/\c<127):iP l:=by
 induction l with
 |nil=>exact zY
 |cons c r ih=>
  have:=tI (zZ (.inl ⟨c,rfl,h c List.mem_cons_self⟩)) (ih λd hd=>h d (List.mem_cons_of_mem _ hd));simpa using this
def qo(s:aY)(p:Nat):Prop:=p<=s.size/\iP (s.data.toList.take p)/\iP (s.data.toList.drop p)
def tJ(h:iP s.data.toList):qo s 0:=⟨Qbf _,by simpa using zY,by simpa using h⟩
variable{p:Nat}
def mK {l:List UInt8}{c:UInt8}(h:s.data.toList.drop p=l)(hk:l[k]? =some c):p+k<s.size/\s.get! (p+k)=c:=by
 subst h;rw[List.getElem?_drop]at hk;have⟨h1,h2⟩:=Qad.1 hk;have h3:p+k<s.size:=by rw[<-bG];exact h1
 refine⟨h3,?_⟩;simp[ByteArray.get!,getElem!_pos,h3];rw[<-h2];exact(Array.getElem_toList _)
theorem qo.step(h:qo s p)(hp:p<s.size):∃r k:Nat,Utf8.decode s p=(r,k)/\((k=1/\32<=r/\r<127)\/(k=2/\r=233))/\qo s (p+k):=by
 obtain⟨h1,h2,h3⟩:=h;have hne:s.data.toList.drop p≠[]:=by
  intro e;have:=congrArg List.length e;rw[List.length_drop,bG]at this;simp at this;omega
 have⟨x,r,e,hx,hr⟩:=NY h3 hne;have hlen:(s.data.toList.drop p).length=s.size-p:=by rw[List.length_drop,bG]
 have hAt:qo s (p+x.length):=by
  refine⟨?_,?_,?_⟩
  .have:=congrArg List.length e;rw[hlen,Qda]at this;omega
  .rw[List.take_add,e,List.take_left']
   .exact tI h2 (zZ hx)
   .rfl
  .rw[<-List.drop_drop,e,List.drop_left']
   .exact hr
   .rfl
 rcases hx with⟨c,rfl,hc1,A7⟩|rfl
 .have⟨b1,b2⟩:=mK (k:=0) e rfl;have XI:c.toNat<127:=by have:=UInt8.lt_iff_toNat_lt.1 A7;simpa using this
  have hc4:32<=c.toNat:=by have:=UInt8.le_iff_toNat_le.1 hc1;simpa using this
  refine⟨c.toNat,1,?_, .inl ⟨rfl,hc4,XI⟩,hAt⟩;simp only[Utf8.decode,b2];rw[if_pos (by omega)]
 .have⟨b1,b2⟩:=mK (k:=0) e rfl;have⟨b3,b4⟩:=mK (k:=1) e rfl;refine⟨233,2,?_, .inr ⟨rfl,rfl⟩,hAt⟩;simp only[Utf8.decode,b2,b4];simp[b3]
theorem qo.take(h:qo s p):iP (s.data.toList.take p):=h.2.1
theorem qo.drop(h:qo s p):iP (s.data.toList.drop p):=h.2.2
def orM(M:aV)(B:Nat):Nat->Prop:=λi=>M i\/i=B
def dN {α:Type} [aD α](M:aV)(B:Nat)(t:TypeId)(w:ax)(n:Nat)(xs:List α):Prop:=
 ∃(cur:Array aA)(css:List (List aA)),bW w B (.cells cur t (0,0))/\cur.size=n*aD.size α/\xs.length<=n/\css.length=xs.length/\css.flatten=cur.toList.take (xs.length*aD.size α)/\
  ∀(i:Nat)(cs:List aA)(x:α),css[i]? =some cs->xs[i]? =some x->aD.rep (orM M B) w cs x
section
variable {α:Type} [aD α]{M:aV}{B:Nat}{t:TypeId}{w w':ax}{n:Nat}{xs:List α}
theorem dN.made(cur:Array aA)(h:bW w B (.cells cur t (0,0)))(hs:cur.size=n*aD.size α):dN (α:=α) M B t w n []:=
 ⟨cur,[],h,hs,Qbf _,rfl,by simp,λi cs x h=>by simp at h⟩
theorem dN.lt(h:dN M B t w n xs):B<w:=by obtain⟨cur,css,h1,_⟩:=h;exact(Qaa.1 h1).1
theorem dN.ae(h:dN M B t w n xs)(hb:aC w w'):dN M B t w' n xs:=by
 obtain⟨cur,css,h1,h2,h3,h4,h5,h6⟩:=h;exact⟨cur,css,(hb.block B (Qaa.1 h1).1).trans h1,h2,h3,h4,h5,λi cs x hc hx=>aD.ev (h6 i cs x hc hx) (Ev.az hb)⟩
theorem dN.cell(h:dN M B t w n xs)(hj:j<n*aD.size α):∃v,bJ w B j v/\w.frozen? (B,j)=false:=by
 obtain⟨cur,css,h1,h2,_⟩:=h;exact⟨cur[j]'(by omega),cell_of_heap h1 (by simp[h2,hj]),aj h1 j⟩
theorem dN.slice(h:dN M B t w n xs)(hn:xs.length=n)(hB:¬M B)(hm:n<=maxLen):ab M w (xL (B,0) n n) xs:=by
 obtain⟨cur,css,h1,h2,h3,h4,h5,h6⟩:=h;subst hn;refine⟨css,⟨?_,some ⟨B,0,none⟩,xs.length,rfl,bT,hm,λ_=>⟨B,0,rfl,hB,(Qaa.1 h1).1,λj u hu=> ?_⟩⟩,h4,λi cs x hc hx=>aD.ev (h6 i cs x hc hx) (Ev.dL w λi hi=> .inl hi)⟩
 .rw[h5,Qdb];simp[h2]
 .rw[h5]at hu;have hu2:=lN hu;rw[Nat.zero_add];exact cell_of_heap h1 (by simpa using hu2)
end
def Yu {l:List aA}{o:Nat}{a b c d:aA}(h:o+4<=l.length):((((l.set o a).set (o+1) b).set (o+2) c).set (o+3) d).take (o+4)=l.take o++[a,b,c,d]:=by
 apply List.ext_getElem?;intro i;rw[List.getElem?_take,List.getElem?_append];have hl:(l.take o).length=o:=by simp;omega
 rw[hl];by_cases h1:i<o
 .rw[if_pos (by omega),if_pos h1];rw[List.getElem?_set_ne (by omega),List.getElem?_set_ne (by omega),List.getElem?_set_ne (by omega),List.getElem?_set_ne (by omega),List.getElem?_take,if_pos h1]
 .rw[if_neg h1];by_cases h2:i<o+4
  .rw[if_pos h2];have:i=o\/i=o+1\/i=o+2\/i=o+3:=by omega
   rcases this with rfl|rfl|rfl|rfl
   .rw[List.getElem?_set_ne (by omega),List.getElem?_set_ne (by omega),List.getElem?_set_ne (by omega),List.getElem?_set_self (by omega)];simp
   .rw[List.getElem?_set_ne (by omega),List.getElem?_set_ne (by omega),List.getElem?_set_self (by simp;omega)];simp
   .rw[List.getElem?_set_ne (by omega),List.getElem?_set_self (by simp;omega)];simp
   .rw[List.getElem?_set_self (by simp;omega)];simp
  .rw[if_neg h2];rw[List.getElem?_eq_none (by simp;omega)]
variable{cur:Array aA}{K:Nat}
def iQ {o:Nat}{t:TypeId}(h:bW W K (.cells cur t (0,0)))(a b c d:aA):
 ((((W.setCell (K,o) a).setCell (K,o+1) b).setCell (K,o+2) c).setCell (K,o+3) d).heap[K]? =some (.cells ((((cur.setIfInBounds o a).setIfInBounds (o+1) b).setIfInBounds (o+2) c).setIfInBounds (o+3) d) t (0,0)):=
 Qca _ K (o+3) _ _ d (Qca _ K (o+2) _ _ c (Qca _ K (o+1) _ _ b (Qca _ K o _ _ a h)))
theorem dN.BD {α:Type} [aD α](h4:aD.size α=4){M:aV}{B:Nat}{t:TypeId}{w:ax}{n:Nat}{xs:List α}(h:dN M B t w n xs)(hk:xs.length=k)(hn:k<n){x:α}{a b c d:aA}(hx:aD.rep (orM M B) w [a,b,c,d] x):
 dN M B t ((((w.setCell (B,k*4) a).setCell (B,k*4+1) b).setCell (B,k*4+2) c).setCell (B,k*4+3) d) n (xs++[x]):=by
 obtain⟨cur,css,h1,h2,h3,h5,h6,h7⟩:=h;subst hk;rw[h4]at h2 h6;have E:Ev (orM M B) w (orM M B) ((((w.setCell (B,xs.length*4) a).setCell (B,xs.length*4+1) b).setCell (B,xs.length*4+2) c).setCell (B,xs.length*4+3) d):=
  ((((Ev.refl _ w).setCell (.inl (.inr rfl)) a).setCell (.inl (.inr rfl)) b).setCell (.inl (.inr rfl)) c).setCell (.inl (.inr rfl)) d;refine⟨_,css++[[a,b,c,d]],iQ h1 a b c d,by rw[h4];simp[h2],by simp;omega,by simp[h5],?_,λi cs y hc hy=> ?_⟩
 .rw[h4];simp only[List.flatten_append,List.flatten_cons,List.flatten_nil,List.append_nil,Qda,Qcc,Qcd,h6,Array.toList_setIfInBounds];rw[show(xs.length+(0+1))*4=xs.length*4+4 from by omega,Yu (by simp[h2];omega)]
 .by_cases hi:i<css.length
  .rw[Qbc hi]at hc;rw[Qbc (by omega)]at hy;exact aD.ev (h7 i cs y hc hy) E
  .rw[Qbd (by omega)]at hc;rw[Qbd (by omega)]at hy;rw[h5]at hc;have h0:i-xs.length=0:=by
    cases hq:i-xs.length with
    |zero=>rfl
    |succ q=>rw[hq]at hc;simp at hc
   rw[h0]at hc hy;simp at hc hy;subst hc hy;exact aD.ev hx E
def qB {css:List (List aA)}{size:Nat}:(∀(i:Nat)(cs:List aA),css[i]? =some cs->cs.length=size)->∀k,(css.take k).flatten=css.flatten.take (k*size)/\(css.drop k).flatten=css.flatten.drop (k*size):=by
 induction css with
 |nil=>intro _ k;simp
 |cons a r ih=>
  intro hs k;have ha:a.length=size:=hs 0 a rfl;cases k with
  |zero=>simp
  |succ k=>
   have⟨h1,h2⟩:=ih (λi c hc=>hs (i+1) c (by simpa using hc)) k;have e:(k+1)*size=a.length+k*size:=by rw[Nat.succ_mul,ha];omega
   constructor
   .rw[List.take_succ_cons,List.flatten_cons,List.flatten_cons,h1,e,List.take_length_add_append]
   .rw[List.drop_succ_cons,List.flatten_cons,h2,e,List.drop_length_add_append]
theorem ab.lens {α:Type} [aD α]{xs:List α}{css:List (List aA)}(h2:css.length=xs.length)(h3:∀(i:Nat)(cs:List aA)(x:α),css[i]? =some cs->xs[i]? =some x->aD.rep M w cs x):
 ∀(i:Nat)(cs:List aA),css[i]? =some cs->cs.length=aD.size α:=λi cs hcs=>by
 have hi:i<xs.length:=by rw[<-h2];exact(Qad.1 hcs).1
 exact aD.len (h3 i cs _ hcs (Qac hi))
variable{cap:Nat}{a:fx}
theorem ab.upto {α:Type} [aD α]{n:Nat}{xs:List α}(h:ab M w (xL a n cap) xs)(hn:xs.length=n)(hk:k<=n):ab M w (xL a k cap) (xs.take k):=by
 subst hn;obtain⟨css,h1,h2,h3⟩:=h;refine⟨css.take k,?_,by simp[h2],λi cs x hc hx=> ?_⟩
 .rw[(qB (ab.lens h2 h3) k).1,Qdb,Nat.min_eq_left hk];exact ct.upto h1 rfl hk
 .rw[List.getElem?_take]at hc hx;split at hc
  .rename_i hi;rw[if_pos hi]at hx;exact h3 i cs x hc hx
  .cases hc
theorem ab.from_ {α:Type} [aD α]{n:Nat}{xs:List α}(h:ab M w (xL a n cap) xs)(hn:xs.length=n)(hk:k<=n):
 ab M w (xL (if cap=k then a else a.map (·.add (k*aD.size α))) (n-k) (cap-k)) (xs.drop k):=by
 subst hn;obtain⟨css,h1,h2,h3⟩:=h;refine⟨css.drop k,?_,by simp[h2],λi cs x hc hx=> ?_⟩
 .rw[(qB (ab.lens h2 h3) k).2,List.length_drop];exact ct.from_ h1 rfl hk
 .rw[List.getElem?_drop]at hc hx;exact h3 _ cs x hc hx
def EG {l:List aA}{o:Nat}(h:o<l.length):(l.set o v).take (o+1)=l.take o++[v]:=by
 rw[Qbb,List.getElem?_set_self h,List.take_set_of_le bT];rfl
theorem mj(K:Nat)(t:TypeId):∀(vs:List aA)(o:Nat)(W:ax)(cur:Array aA),bW W K (.cells cur t (0,0))->o+vs.length<=cur.size->
 ∃cur':Array aA,(W.setCells K o vs).heap[K]? =some (.cells cur' t (0,0))/\cur'.size=cur.size/\cur'.toList.take (o+vs.length)=cur.toList.take o++vs
 |[],o,W,cur,h,_=>⟨cur,h,rfl,by simp⟩
 |v::r,o,W,cur,h,hl=>by
  simp only[Qcc]at hl;have⟨cur',h1,h2,h3⟩:=mj K t r (o+1) _ _ (Qca W K o cur t v h) (by simp;omega);refine⟨cur',h1,by simpa using h2,?_⟩;rw[Qcc,show o+(r.length+1)=o+1+r.length from by omega,h3,Array.toList_setIfInBounds,EG (by simp;omega)];simp
theorem uZ(M:aV)(K:Nat)(hK:M K):∀(vs:List aA)(o:Nat)(w W:ax),Ev M w M W->Ev M w M (W.setCells K o vs)
 |[],_,_,_,h=>h
 |v::r,o,w,W,h=>uZ M K hK r (o+1) w _ (h.setCell (.inl hK) v)
variable{B:Nat}
theorem dN.Y3 {α:Type} [aD α]{n:Nat}{xs:List α}(h:dN M B t w n xs)(hk:xs.length=k)(hn:k<n){x:α}{vs:List aA}(hx:aD.rep (orM M B) w vs x):
 dN M B t (w.setCells B (k*aD.size α) vs) n (xs++[x]):=by
 obtain⟨cur,css,h1,h2,h3,h5,h6,h7⟩:=h;subst hk;have hvs:=aD.len hx;have hmul:xs.length*aD.size α+aD.size α<=n*aD.size α:=by
  have:=Nat.mul_le_mul_right (aD.size α) hn;rwa [Nat.succ_mul]at this
 have E:=uZ (orM M B) B (.inr rfl) vs (xs.length*aD.size α) w w (Ev.refl _ w);have⟨cur',g1,g2,g3⟩:=mj B t vs (xs.length*aD.size α) w cur h1 (by rw[h2,hvs];exact hmul);refine⟨cur',css++[vs],g1,g2.trans h2,by simp;omega,by simp[h5],?_,λi cs y hc hy=> ?_⟩
 .rw[List.flatten_append,Qda,List.length_singleton,Nat.succ_mul,<-hvs];rw[hvs]at g3⊢;rw[g3,h6];simp
 .by_cases hi:i<css.length
  .rw[Qbc hi]at hc;rw[Qbc (by omega)]at hy;exact aD.ev (h7 i cs y hc hy) E
  .rw[Qbd (by omega)]at hc;rw[Qbd (by omega)]at hy;rw[h5]at hc;have h0:i-xs.length=0:=by
    cases hq:i-xs.length with
    |zero=>rfl
    |succ q=>rw[hq]at hc;simp at hc
   rw[h0]at hc hy;simp at hc hy;subst hc hy;exact aD.ev hx E
def II(c:Int)(n:Int)(w:ax)(hc:I6 c)(hn:1<=n)(hn2:n<=1000000):
 xC 8 #[c,n] w (jt (aU c n.toNat) w):=by
 obtain⟨hc1,A7⟩:=hc;have e0:((aU c n.toNat:Nat):Int)=(if c<0 then-(c+1)else c)%n:=by
  unfold aU;rw[Int.toNat_of_nonneg (a:=n) (by omega)];exact Int.toNat_of_nonneg (Int.emod_nonneg _ (by omega))
 by_cases h:c<0
 .rw[if_pos h]at e0;have E:=ag e0;clear e0;go_enter func8,ntmps8;go_wp2;go_ret;refine⟨iX ?_,rfl⟩;rw[E.o,<-Int.neg_tmod,Int.tmod_eq_emod_of_nonneg (by omega)]
 .rw[if_neg h]at e0;have E:=ag e0;clear e0;go_enter func8,ntmps8;go_wp2;go_ret;exact⟨iX E.o.symm,rfl⟩
end Go.Proofs.YtepaofffbkfodaaGreatDoor
