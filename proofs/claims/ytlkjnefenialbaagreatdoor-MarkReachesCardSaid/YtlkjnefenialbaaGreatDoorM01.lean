/- How data of the program lie in cells, rows that grow, the plain expression parser; no condition beyond each theorem's own. -/
import Derived.WalkKit
import Derived.WalkSpells
import Derived.WalkLawsBesides
import Derived.Lib.Hide
import Derived.Below
import Derived.Laws.OwnMore
import Derived.Deep.Draws
import Derived.Deep.QuietTactic
import Derived.BigQuiet
import Derived.Maps.AppendAt
import Derived.OwnWalk
set_option linter.unusedVariables false
set_option linter.unusedSimpArgs false
set_option maxHeartbeats 8000000
set_option maxRecDepth 100000
namespace Go.Proofs.YtlkjnefenialbaaGreatDoor
section
open Go.RowKit
theorem hD{p:Prop}(h:p):Hid p:=Lib.hid h
theorem gD {k:IntKind}{a b:Int}(h:a=b):Ending.returned (.int k a)= .returned (.int k b):=by rw[h]
theorem aN {a b:Bool}(h:a=b):Ending.returned (.bool a)= .returned (.bool b):=by rw[h]
theorem jR {α:Type}{l:List α}{n j:Nat}{u:α}(h:(l.take n)[j]? =some u):l[j]? =some u:=by
 rw[List.getElem?_take]at h
 split at h
 ·exact h
 ·cases h
structure ag(S:Nat→Prop)(w w':World):Prop where
 os:w'.os=w.os
 tape:w'.tape=w.tape
 output:w'.output=w.output
 size:w.heap.size≤w'.heap.size
 block:∀k,k<w.heap.size→¬S k→w'.heap[k]? =w.heap[k]?
section
variable {S T:Nat→Prop}{w w' w'':World}
theorem ag.refl(S:Nat→Prop)(w:World):ag S w w:=⟨rfl,rfl,rfl,Nat.le_refl _,fun _ _ _=>rfl⟩
theorem ag.trans(h:ag S w w')(k:ag S w' w''):ag S w w'':=
 ⟨k.os.trans h.os,k.tape.trans h.tape,k.output.trans h.output,Nat.le_trans h.size k.size,fun i hi hS=>(k.block i (Nat.lt_of_lt_of_le hi h.size) hS).trans (h.block i hi hS)⟩
theorem ag.cD(h:ag S w w')(k:ag T w' w'')(hT:∀i,T i→i<w.heap.size→S i):ag S w w'':=
 ⟨k.os.trans h.os,k.tape.trans h.tape,k.output.trans h.output,Nat.le_trans h.size k.size,fun i hi hS=>(k.block i (Nat.lt_of_lt_of_le hi h.size) (fun hh=>hS (hT i hh hi))).trans (h.block i hi hS)⟩
theorem ag.mono(h:ag S w w')(hST:∀i,S i→T i):ag T w w':=⟨h.os,h.tape,h.output,h.size,fun i hi hT=>h.block i hi (fun hs=>hT (hST i hs))⟩
theorem ag.drewN(h:ag S w w')(n:Nat):ag S w (w'.drewN n):=⟨h.os,h.tape,h.output,h.size,h.block⟩
theorem ag.drew(h:ag S w w'):ag S w w'.drew:=⟨h.os,h.tape,h.output,h.size,h.block⟩
theorem ag.alloc(h:ag S w w')(o:Obj):ag S w (w'.alloc o):=
 ⟨h.os,h.tape,h.output,Nat.le_trans h.size (by simp),fun i hi hS=>(Below.heap_alloc w' o i (Nat.lt_of_lt_of_le hi h.size)).trans (h.block i hi hS)⟩
theorem ag.setCell(h:ag S w w'){p:Addr}(hp:S p.block∨w.heap.size≤p.block)(u:Value):ag S w (w'.setCell p u):=
 ⟨h.os,h.tape,h.output,by simpa [World.setCell]using h.size,fun i hi hS=>(Below.heap_setCell w' p u i (by rintro rfl;rcases hp with hp|hp;exact hS hp;omega)).trans (h.block i hi hS)⟩
theorem ag.aj(h:Below w.heap.size w w'):ag S w w':=⟨h.os,h.tape,h.output,h.size,fun i hi _=>h.block i hi⟩
theorem ag.below(h:ag (fun _=>False) w w'):Below w.heap.size w w':=⟨h.os,h.tape,h.output,h.size,fun i hi=>h.block i hi (fun h=>h)⟩
theorem ag.grown {row:Option Nat}(h:ag S w w')(hg:w'.grownBy w'' row)(hr:∀g,row=some g→S g∨w.heap.size≤g):ag S w w'':=
 ⟨hg.os.trans h.os,hg.tape.trans h.tape,hg.output.trans h.output,Nat.le_trans h.size hg.size,fun i hi hS=>(hg.block i (Nat.lt_of_lt_of_le hi h.size) (fun e=>by rcases hr i e.symm with h1|h1;exact hS h1;omega)).trans (h.block i hi hS)⟩
theorem ag.cell(h:ag S w w'){p:Addr}(hp:p.block<w.heap.size)(hS:¬S p.block):w'.cell? p=w.cell? p:=World.cell?_of_block (w:=w) (h.block p.block hp hS)
theorem ag.frozen(h:ag S w w'){p:Addr}(hp:p.block<w.heap.size)(hS:¬S p.block):w'.frozen? p=w.frozen? p:=World.frozen?_of_block (w:=w) (h.block p.block hp hS)
end
def ba(F:Nat→Prop)(w:World)(size:Nat)(v:Value)(n:Nat)(xs:List Value):Prop:=
 xs.length=n*size∧∃a cap,v= .slice a n cap∧n≤cap∧cap≤maxLen∧(0<n→∃b off,a=some ⟨b,off,none⟩∧F b∧b<w.heap.size∧∀j u,xs[j]? =some u→w.cell? ⟨b,off+j,none⟩=some u)
section
variable {F G:Nat→Prop}{w w':World}{size n:Nat}{v:Value}{xs:List Value}
theorem ba.nil(F:Nat→Prop)(w:World)(size:Nat):ba F w size (.slice none 0 0) 0 []:=⟨by simp,none,0,rfl,Nat.le_refl _,Nat.zero_le _,fun h=>absurd h (by omega)⟩
theorem ba.Aa(h:ba F w size v n xs)(hs:w.heap.size≤w'.heap.size)(hk:∀i,F i→i<w.heap.size→w'.heap[i]? =w.heap[i]?):ba F w' size v n xs:=by
 obtain⟨hl,a,cap,hv,hc,hm,hx⟩:=h
 refine⟨hl,a,cap,hv,hc,hm,fun hn=> ?_⟩
 obtain⟨b,off,ha,hF,hb,aC⟩:=hx hn
 exact⟨b,off,ha,hF,Nat.lt_of_lt_of_le hb hs,fun j u hu=>(World.cell?_of_block (w:=w) (a:=⟨b,off+j,none⟩) (hk b hF hb)).trans (aC j u hu)⟩
theorem ba.mono(h:ba F w size v n xs)(X4:∀i,F i→i<w.heap.size→G i):ba G w size v n xs:=by
 obtain⟨hl,a,cap,hv,hc,hm,hx⟩:=h
 refine⟨hl,a,cap,hv,hc,hm,fun hn=> ?_⟩
 obtain⟨b,off,ha,hF,hb,aC⟩:=hx hn
 exact⟨b,off,ha,X4 b hF hb,hb,aC⟩
theorem ba.only {S:Nat→Prop}(h:ba F w size v n xs)(ho:ag S w w')(hd:∀i,F i→¬S i):ba F w' size v n xs:=
 h.Aa ho.size fun i hi aT=>ho.block i aT (hd i hi)
theorem ba.below(h:ba F w size v n xs)(hb:Below w.heap.size w w'):ba F w' size v n xs:=h.Aa hb.size fun i _ aT=>hb.block i aT
theorem ba.alloc(h:ba F w size v n xs)(o:Obj):ba F (w.alloc o) size v n xs:=h.Aa (by simp) fun i _ aT=>Below.heap_alloc w o i aT
theorem ba.upto(h:ba F w size v n xs){a:Option Addr}{cap k:Nat}(hv:v= .slice a n cap)(hk:k≤n):ba F w size (.slice a k cap) k (xs.take (k*size)):=by
 obtain⟨hl,a',dE,lP,hc,hm,hx⟩:=h
 obtain⟨rfl,_,rfl⟩:a=a'∧n=n∧cap=dE:=by rw[hv]at lP;simpa using lP
 refine⟨by rw[List.length_take,hl];exact Nat.min_eq_left (Nat.mul_le_mul_right _ hk),a,cap,rfl,by omega,hm,fun hn=> ?_⟩
 obtain⟨b,off,ha,hF,hb,aC⟩:=hx (by omega)
 exact⟨b,off,ha,hF,hb,fun j u hu=>aC j u (jR hu)⟩
theorem ba.from_(h:ba F w size v n xs){a:Option Addr}{cap k:Nat}(hv:v= .slice a n cap)(hk:k≤n):
 ba F w size (.slice (if cap=k then a else a.map (·.add (k*size))) (n-k) (cap-k)) (n-k) (xs.drop (k*size)):=by
 obtain⟨hl,a',dE,lP,hc,hm,hx⟩:=h
 obtain⟨rfl,_,rfl⟩:a=a'∧n=n∧cap=dE:=by rw[hv]at lP;simpa using lP
 refine⟨by rw[List.length_drop,hl,Nat.sub_mul],_,_,rfl,by omega,by omega,fun hn=> ?_⟩
 obtain⟨b,off,rfl,hF,hb,aC⟩:=hx (by omega)
 rw[if_neg (by omega)]
 refine⟨b,off+k*size,?_,hF,hb,fun j u hu=> ?_⟩
 ·simp only[Option.map,Addr.add]
  split<;>simp_all
 ·rw[Nat.add_assoc]
  exact aC _ u (by rw[←hu,List.getElem?_drop])
theorem ba.qH {base:Nat}{e:TypeId}(h:w.ownsRow base e size v n xs):ba (fun i=>v.ownBlock=some i) w size v n xs:=by
 refine⟨h.1,?_⟩
 rcases h.2 with⟨rfl,rfl⟩|⟨g,cap,cur,rfl,hb,hh,R3,u7,bE,Wj⟩
 ·exact⟨none,0,rfl,Nat.le_refl _,Nat.zero_le _,fun h=>absurd h (by omega)⟩
 ·refine⟨_,cap,rfl,R3,u7,fun hn=>⟨g,0,rfl,rfl,(Array.getElem?_eq_some_iff.1 hh).1,fun j u hu=> ?_⟩⟩
  rw[Nat.zero_add]
  have hj:j<xs.length:=(List.getElem?_eq_some_iff.1 hu).1
  simp only[World.cell?,hh]
  simp
  rw[←Wj]at hu
  have h2:=jR hu
  simpa using h2
end
def cF(F:Nat→Prop)(w:World)(v:Value)(xs:List Int):Prop:=ba F w 1 v xs.length (xs.map (Value.int .i64))
section
variable {F G:Nat→Prop}{w w':World}{v:Value}{xs:List Int}
theorem cF.open_(h:cF F w v xs):∃a cap,v= .slice a xs.length cap∧xs.length≤cap∧cap≤9223372036854775807∧(0<xs.length→∃b off,a=some ⟨b,off,none⟩∧F b∧b<w.heap.size∧∀j x,xs[j]? =some x→w.cell? ⟨b,off+j,none⟩=some (.int .i64 x)):=by
 obtain⟨hl,a,cap,hv,hc,hm,hx⟩:=h
 refine⟨a,cap,hv,hc,by unfold maxLen at hm;omega,fun hn=> ?_⟩
 obtain⟨b,off,ha,hF,hb,aC⟩:=hx hn
 exact⟨b,off,ha,hF,hb,fun j x hj=>aC j _ (by rw[List.getElem?_map,hj];rfl)⟩
theorem cF.mono(h:cF F w v xs)(X4:∀i,F i→i<w.heap.size→G i):cF G w v xs:=ba.mono h X4
theorem cF.only {S:Nat→Prop}(h:cF F w v xs)(ho:ag S w w')(hd:∀i,F i→¬S i):cF F w' v xs:=ba.only h ho hd
theorem cF.below(h:cF F w v xs)(hb:Below w.heap.size w w'):cF F w' v xs:=ba.below h hb
theorem cF.alloc(h:cF F w v xs)(o:Obj):cF F (w.alloc o) v xs:=ba.alloc h o
theorem cF.nil(F:Nat→Prop)(w:World):cF F w (.slice none 0 0) []:=ba.nil F w 1
theorem cF.qH {base:Nat}{e:TypeId}{n:Nat}(h:w.ownsRow base e 1 v n (xs.map (Value.int .i64))):cF (fun i=>v.ownBlock=some i) w v xs:=by
 have hn:xs.length=n:=by simpa using h.1
 subst hn
 exact ba.qH h
end
section
variable {P:Program}(w:World)
theorem oQ(base:Nat)(t ty e:TypeId)(i:TypeInfo)(size:Nat)(ht:P.underlying t=some (.slice e))(hi:P.info? e=some i)
 (v:Value)(n:Nat)(xs:List Value)(kQ:w.ownsRow base e size v n xs)(c:Nat):(Builtin.append_ #[t,t] ty #[v, .slice none 0 c]).run P w= .ok v w:=by
 rcases kQ.2 with⟨rfl,rfl⟩|⟨g,cap,cur,rfl,_,_,R3,_⟩
 ·simp[Builtin.append_,run_underlying ht,sizeOf,typeInfo,hi,Builtin.lenOf,Builtin.firstCells]
 ·simp[Builtin.append_,run_underlying ht,sizeOf,typeInfo,hi,Builtin.lenOf,Builtin.firstCells,R3,storeCells]
theorem fh {F:Nat→Prop}(base:Nat)(t ty e:TypeId)(i:TypeInfo)(z:Value)(size bytes:Nat)(ht:P.underlying t=some (.slice e))(hi:P.info? e=some i)(hz:i.zero=some z)
 (gu:i.size=size)(xT:i.bytes=bytes)(xU:z.cells.size=size)(cB:0<size)
 (v:Value)(n:Nat)(xs:List Value)(kQ:w.ownsRow base e size v n xs)
 (s:Value)(m:Nat)(news:List Value)(hr:ba F w size s m news)(h1:∀u∈news,u.oneCell'=true)
 (xV:n+m≤maxLen)(ey:(n+m)*bytes≤140737488355328)(ed:base≤w.heap.size):
 ∃v' w',(Builtin.append_ #[t,t] ty #[v,s]).run P w= .ok v' w'∧w'.ownsRow base e size v' (n+m) (xs++news)∧w.grownBy w' v.ownBlock∧
  (v'.ownBlock=v.ownBlock∨v'.ownBlock=some w.heap.size):=by
 obtain⟨hl,A,cap,rfl,hmc,u7,hx⟩:=hr
 rcases Nat.eq_zero_or_pos m with h0|h0
 ·subst h0
  have hn:news=[]:=List.eq_nil_of_length_eq_zero (by simpa using hl)
  subst hn
  rcases A with _|ad
  ·exact⟨v,w,oQ w base t ty e i size ht hi v n xs kQ cap,by simpa using kQ,World.grownBy.refl w _, .inl rfl⟩
  ·obtain⟨v',w',mo,h2,h3,_,h5⟩:=run_append_own_at (P:=P) w base t ty e i z size bytes ht hi hz gu xT xU cB v n xs kQ ad 0 cap [] (by simp) (by simp) (by simp) xV ey ed
   exact⟨v',w',mo,h2,h3,h5⟩
 ·obtain⟨b,off,rfl,_,_,aC⟩:=hx h0
  obtain⟨v',w',mo,h2,h3,_,h5⟩:=run_append_own_at (P:=P) w base t ty e i z size bytes ht hi hz gu xT xU cB v n xs kQ ⟨b,off,none⟩ m cap news hl (fun j u hu=>by
   have:=aC j u hu
   unfold Addr.add
   split
   ·rename_i h;subst h;simpa using this
   ·exact this) h1 xV ey ed
  exact⟨v',w',mo,h2,h3,h5⟩
theorem fy {F:Nat→Prop}{ops:Array Oper}{rest:List Oper}{o:Oper}{a:Act}{Q:Exit→Act→World→Prop}(vE:o.guard=none)(s x:Operand)(t:TypeId)
 (ho:o.op= .call {callee:= .builtin .append,args:= #[s,x],argTypes:= #[t,t]})
 (base:Nat)(e:TypeId)(i:TypeInfo)(z:Value)(size bytes:Nat)(ht:P.underlying t=some (.slice e))(hi:P.info? e=some i)(hz:i.zero=some z)
 (gu:i.size=size)(xT:i.bytes=bytes)(xU:z.cells.size=size)(cB:0<size)
 (v:Value)(n:Nat)(xs:List Value)(hs:a.eval s=v)(kQ:w.ownsRow base e size v n xs)
 (sv:Value)(m:Nat)(news:List Value)(hx:a.eval x=sv)(hr:ba F w size sv m news)(h1:∀u∈news,u.oneCell'=true)
 (xV:n+m≤maxLen)(ey:(n+m)*bytes≤140737488355328)(ed:base≤w.heap.size)
 (h:∀v' w',w'.ownsRow base e size v' (n+m) (xs++news)→w.grownBy w' v.ownBlock→(v'.ownBlock=v.ownBlock∨v'.ownBlock=some w.heap.size)→wpList P ops Q rest (a.put o.dst v') w'):wpList P ops Q (o::rest) a w:=
 wpList_plain vE fun _ hK=>by
  obtain⟨v',w',mo,h2,h3,h4⟩:=fh (P:=P) w base t o.type e i z size bytes ht hi hz gu xT xU cB v n xs kQ sv m news hr h1 xV ey ed
  unfold Oper.wp execOp
  simp only[ho,resolve,invoke,builtin,Sem.run_bind,Sem.run_pure,Result.andThen_ok,List.map_toArray,List.map_cons,List.map_nil,hs,hx,mo]
  exact hK _ _ (h v' w' h2 h3 h4)
theorem dG {w:World}{base:Nat}{e:TypeId}{size n:Nat}{v:Value}{xs:List Value}(h:w.ownsRow base e size v n xs):∃a c,v= .slice a n c∧n≤c∧c≤maxLen:=by
 rcases h.2 with⟨rfl,rfl⟩|⟨g,cap,cur,rfl,_,_,h1,h2,_⟩
 ·exact⟨none,0,rfl,Nat.le_refl _,Nat.zero_le _⟩
 ·exact⟨_,_,rfl,h1,h2⟩
theorem fz {F:Nat→Prop}{ops:Array Oper}{rest:List Oper}{o:Oper}{a:Act}{Q:Exit→Act→World→Prop}(vE:o.guard=none)(s x:Operand)(t:TypeId)
 (ho:o.op= .call {callee:= .builtin .append,args:= #[s,x],argTypes:= #[t,t]})
 (base:Nat)(e:TypeId)(i:TypeInfo)(z:Value)(size bytes:Nat)(ht:P.underlying t=some (.slice e))(hi:P.info? e=some i)(hz:i.zero=some z)
 (gu:i.size=size)(xT:i.bytes=bytes)(xU:z.cells.size=size)(cB:0<size)
 (v:Value)(n:Nat)(xs:List Value)(hs:a.eval s=v)(kQ:w.ownsRow base e size v n xs)
 (sv:Value)(m:Nat)(news:List Value)(hx:a.eval x=sv)(hr:ba F w size sv m news)(h1:∀u∈news,u.oneCell'=true)
 (xV:n+m≤maxLen)(ey:(n+m)*bytes≤140737488355328)(ed:base≤w.heap.size)
 (h:∀a' c' w',w'.ownsRow base e size (.slice a' (n+m) c') (n+m) (xs++news)→w.grownBy w' v.ownBlock→((Value.slice a' (n+m) c').ownBlock=v.ownBlock∨(Value.slice a' (n+m) c').ownBlock=some w.heap.size)→wpList P ops Q rest (a.put o.dst (.slice a' (n+m) c')) w'):wpList P ops Q (o::rest) a w:=
 fy w vE s x t ho base e i z size bytes ht hi hz gu xT xU cB v n xs hs kQ sv m news hx hr h1 xV ey ed fun v' w' h2 h3 h4=>by
  obtain⟨a',c',rfl,_,_⟩:=dG h2
  exact h a' c' w' h2 h3 h4
end
structure Ev(M:Nat→Prop)(w:World)(M':Nat→Prop)(w':World):Prop where
 only:ag M w w'
 sub:∀i,M' i→M i∨w.heap.size≤i
theorem Ev.refl(M:Nat→Prop)(w:World):Ev M w M w:=⟨ag.refl M w,fun _ h=> .inl h⟩
theorem Ev.trans {M M' M'':Nat→Prop}{w w' w'':World}(h:Ev M w M' w')(k:Ev M' w' M'' w''):Ev M w M'' w'':=
 ⟨h.only.cD k.only fun i hi aT=>(h.sub i hi).elim (fun h=>h) (fun h=>by omega),
  fun i hi=>(k.sub i hi).elim (h.sub i) fun h1=> .inr (Nat.le_trans h.only.size h1)⟩
theorem Ev.aj {M:Nat→Prop}{w w':World}(h:Below w.heap.size w w'):Ev M w M w':=⟨ag.aj h,fun _ h=> .inl h⟩
theorem ba.ev {M M':Nat→Prop}{w w':World}{size n:Nat}{v:Value}{xs:List Value}(h:ba (fun i=>¬M i) w size v n xs)(k:Ev M w M' w'):ba (fun i=>¬M' i) w' size v n xs:=
 (ba.only (F:=fun i=>¬M i∧i<w.heap.size) (h.mono fun i hi hl=>⟨hi,hl⟩) k.only (fun i hi=>hi.1)).mono fun i hi _ h1=>(k.sub i h1).elim hi.1 fun h2=>by omega
class az(α:Type)where
 size:Nat
 rep:(Nat→Prop)→World→List Value→α→Prop
 len:∀{M w cs x},rep M w cs x→cs.length=size
 flat:∀{M w cs x},rep M w cs x→∀u∈cs,u.oneCell'=true
 ev:∀{M M' w w' cs x},rep M w cs x→Ev M w M' w'→rep M' w' cs x
def ae {α:Type} [az α](M:Nat→Prop)(w:World)(v:Value)(xs:List α):Prop:=
 ∃css:List (List Value),ba (fun i=>¬M i) w (az.size α) v xs.length css.flatten∧css.length=xs.length∧∀(i:Nat)(cs:List Value)(x:α),css[i]? =some cs→xs[i]? =some x→az.rep M w cs x
section
variable {α:Type} [az α]{M M':Nat→Prop}{w w':World}{v:Value}{xs:List α}
theorem ae.ev(h:ae M w v xs)(k:Ev M w M' w'):ae M' w' v xs:=by
 obtain⟨css,h1,h2,h3⟩:=h
 exact⟨css,h1.ev k,h2,fun i cs x hc hx=>az.ev (h3 i cs x hc hx) k⟩
theorem ae.below(h:ae M w v xs)(k:Below w.heap.size w w'):ae M w' v xs:=h.ev (Ev.aj k)
theorem ae.nil(M:Nat→Prop)(w:World):ae (α:=α) M w (.slice none 0 0) []:=⟨[],ba.nil _ _ _,rfl,fun i cs x h=>by simp at h⟩
theorem kY {css:List (List Value)}{size:Nat}(hs:∀(i:Nat)(cs:List Value),css[i]? =some cs→cs.length=size):∀(i:Nat)(cs:List Value)(j:Nat)(u:Value),css[i]? =some cs→cs[j]? =some u→css.flatten[i*size+j]? =some u:=by
 induction css with
 |nil=>intro i cs j u h;simp at h
 |cons a r ih=>
  intro i cs j u hi hj
  have ha:a.length=size:=hs 0 a rfl
  cases i with
  |zero=>
   simp at hi;subst hi
   have v8:j<a.length:=(List.getElem?_eq_some_iff.1 hj).1
   rw[List.flatten_cons,Nat.zero_mul,Nat.zero_add,List.getElem?_append_left v8];exact hj
  |succ i=>
   have Mn:r[i]? =some cs:=by simpa using hi
   have:=ih (fun k c hk=>hs (k+1) c (by simpa using hk)) i cs j u Mn hj
   rw[List.flatten_cons,List.getElem?_append_right (by rw[ha,Nat.succ_mul];omega),ha]
   rw[show(i+1)*size+j-size=i*size+j from by rw[Nat.succ_mul];omega]
   exact this
theorem ae.open_(h:ae M w v xs):∃a cap,v= .slice a xs.length cap∧xs.length≤cap∧cap≤9223372036854775807∧(0<xs.length→∃b off,a=some ⟨b,off,none⟩∧¬M b∧b<w.heap.size∧
 ∀(i:Nat)(x:α),xs[i]? =some x→∃cs,az.rep M w cs x∧∀(j:Nat)(u:Value),cs[j]? =some u→w.cell? ⟨b,off+i*az.size α+j,none⟩=some u):=by
 obtain⟨css,⟨hl,a,cap,hv,hc,hm,hx⟩,h2,h3⟩:=h
 refine⟨a,cap,hv,hc,by unfold maxLen at hm;omega,fun hn=> ?_⟩
 obtain⟨b,off,ha,hF,hb,aC⟩:=hx hn
 have hlen:∀(i:Nat)(cs:List Value),css[i]? =some cs→cs.length=az.size α:=fun i cs bE=>by
  have hi:i<xs.length:=by rw[←h2];exact(List.getElem?_eq_some_iff.1 bE).1
  exact az.len (h3 i cs _ bE (List.getElem?_eq_getElem hi))
 refine⟨b,off,ha,hF,hb,fun i x hxi=> ?_⟩
 have hi:i<css.length:=by rw[h2];exact(List.getElem?_eq_some_iff.1 hxi).1
 exact⟨css[i],h3 i _ x (List.getElem?_eq_getElem hi) hxi,fun j u hu=>by rw[Nat.add_assoc];exact aC _ u (kY hlen i _ j u (List.getElem?_eq_getElem hi) hu)⟩
end
structure aJ where
 kind:Int
 of:Int
 deriving DecidableEq
inductive au where
 |mk(kind n:Int)(s:ByteArray)(l:List au)
structure ak where
 name:ByteArray
 type:aJ
 indexed:Bool
structure ai where
 name:ByteArray
 fields:List ak
inductive an where
 |mk(kind n:Int)(s:ByteArray)(kids:List an)
structure aq where
 kind:Int
 field:ByteArray
 name:ByteArray
 more:ByteArray
 type:aJ
 expr:ByteArray
 other:ByteArray
structure aE where
 first:ai
 changes:List aq
structure dz where
 id:Int
 cls:Int
 ver:Int
 cz:List au
structure cC where
 name:ByteArray
 id:Int
structure cG where
 lines:List aE
 objs:List dz
 roots:List cC
 next:Int
theorem gk {M:Nat→Prop}{w:World}{α:Type} [az α]{v:Value}{xs:List α}(h:ae M w v xs):v.oneCell'=true:=by
 obtain⟨css,⟨_,a,cap,rfl,_⟩,_⟩:=h;rfl
instance:az ak where
 size:=4
 rep:=fun _ _ cs x=>cs=[.string x.name, .int .i64 x.type.kind, .int .i64 x.type.of, .bool x.indexed]∧x.name.size≤maxLen
 len:=fun h=>by rw[h.1];rfl
 flat:=fun h u hu=>by rw[h.1]at hu;simp at hu;rcases hu with rfl|rfl|rfl|rfl<;>rfl
 ev:=fun h _=>h
instance:az aq where
 size:=8
 rep:=fun _ _ cs x=>cs=[.int .i64 x.kind, .string x.field, .string x.name, .string x.more, .int .i64 x.type.kind, .int .i64 x.type.of, .string x.expr, .string x.other]∧x.field.size≤maxLen∧x.name.size≤maxLen∧x.more.size≤maxLen∧x.expr.size≤maxLen∧x.other.size≤maxLen
 len:=fun h=>by rw[h.1];rfl
 flat:=fun h u hu=>by rw[h.1]at hu;simp at hu;rcases hu with rfl|rfl|rfl|rfl|rfl|rfl|rfl|rfl<;>rfl
 ev:=fun h _=>h
instance:az cC where
 size:=2
 rep:=fun _ _ cs x=>cs=[.string x.name, .int .i64 x.id]∧x.name.size≤maxLen
 len:=fun h=>by rw[h.1];rfl
 flat:=fun h u hu=>by rw[h.1]at hu;simp at hu;rcases hu with rfl|rfl<;>rfl
 ev:=fun h _=>h
instance:az Int where
 size:=1
 rep:=fun _ _ cs x=>cs=[.int .i64 x]
 len:=fun h=>by rw[h];rfl
 flat:=fun h u hu=>by rw[h]at hu;simp at hu;subst hu;rfl
 ev:=fun h _=>h
instance:az ai where
 size:=2
 rep:=fun M w cs x=>∃fv,cs=[.string x.name,fv]∧ae M w fv x.fields∧x.name.size≤maxLen
 len:=fun⟨_,h,_⟩=>by rw[h];rfl
 flat:=fun⟨_,h,h1,_⟩u hu=>by rw[h]at hu;simp at hu;rcases hu with rfl|rfl;rfl;exact gk h1
 ev:=fun⟨fv,h,h1,h2⟩k=>⟨fv,h,h1.ev k,h2⟩
instance:az aE where
 size:=3
 rep:=fun M w cs x=>∃fv cv,cs=[.string x.first.name,fv,cv]∧ae M w fv x.first.fields∧ae M w cv x.changes∧x.first.name.size≤maxLen
 len:=fun⟨_,_,h,_⟩=>by rw[h];rfl
 flat:=fun⟨_,_,h,h1,h2,_⟩u hu=>by rw[h]at hu;simp at hu;rcases hu with rfl|rfl|rfl;rfl;exact gk h1;exact gk h2
 ev:=fun⟨fv,cv,h,h1,h2,h3⟩k=>⟨fv,cv,h,h1.ev k,h2.ev k,h3⟩
mutual
inductive eV(M:Nat→Prop)(w:World):List Value→au→Prop
 |mk(k n:Int)(s:ByteArray)(l:List au)(a:Value)(css:List (List Value)):ba (fun i=>¬M i) w 4 a l.length css.flatten→s.size≤maxLen→ku M w css l→eV M w [.int .i64 k, .int .i64 n, .string s,a] (.mk k n s l)
inductive ku(M:Nat→Prop)(w:World):List (List Value)→List au→Prop
 |nil:ku M w [] []
 |cons(cs:List Value)(v:au)(css:List (List Value))(l:List au):eV M w cs v→ku M w css l→ku M w (cs::css) (v::l)
end
mutual
theorem eV.vN {M M':Nat→Prop}{w w':World}{cs:List Value}{v:au}(h:eV M w cs v)(k:Ev M w M' w'):eV M' w' cs v:=by
 match h with
 | .mk kd n s l a css h1 hs h2=>exact .mk kd n s l a css (h1.ev k) hs (h2.vN k)
theorem ku.vN {M M':Nat→Prop}{w w':World}{css:List (List Value)}{l:List au}(h:ku M w css l)(k:Ev M w M' w'):ku M' w' css l:=by
 match h with
 | .nil=>exact .nil
 | .cons cs v css l h1 h2=>exact .cons cs v css l (h1.vN k) (h2.vN k)
end
theorem wJ {F:Nat→Prop}{w:World}{size n:Nat}{v:Value}{xs:List Value}(h:ba F w size v n xs):v.oneCell'=true:=by obtain⟨_,a,cap,rfl,_⟩:=h;rfl
instance:az au where
 size:=4
 rep:=eV
 len:=fun h=>by cases h;rfl
 flat:=fun h u hu=>by
  cases h with
  |mk k n s l a css h1 hs h2=>simp at hu;rcases hu with rfl|rfl|rfl|rfl;rfl;rfl;rfl;exact wJ h1
 ev:=fun h k=>h.vN k
theorem ku.iff {M:Nat→Prop}{w:World}:∀{css:List (List Value)}{l:List au},ku M w css l↔css.length=l.length∧∀(i:Nat)(cs:List Value)(x:au),css[i]? =some cs→l[i]? =some x→eV M w cs x
 |[],[]=>⟨fun _=>⟨rfl,fun i cs x h=>by simp at h⟩,fun _=> .nil⟩
 |[],_::_=>⟨fun h=>(by cases h),fun h=>(by simp at h)⟩
 |_::_,[]=>⟨fun h=>(by cases h),fun h=>(by simp at h)⟩
 |cs::css,v::l=>by
  constructor
  ·intro h
   cases h with
   |cons _ _ _ _ h1 h2=>
    obtain⟨e,h3⟩:=(ku.iff (css:=css) (l:=l)).1 h2
    refine⟨by simp[e],fun i c x hc hx=> ?_⟩
    cases i with
    |zero=>simp at hc hx;subst hc hx;exact h1
    |succ i=>exact h3 i c x (by simpa using hc) (by simpa using hx)
  ·rintro⟨e,h⟩
   exact .cons _ _ _ _ (h 0 cs v rfl rfl) ((ku.iff (css:=css) (l:=l)).2 ⟨by simpa using e,fun i c x hc hx=>h (i+1) c x (by simpa using hc) (by simpa using hx)⟩)
theorem eV.iff {M:Nat→Prop}{w:World}{cs:List Value}{k n:Int}{s:ByteArray}{l:List au}:eV M w cs (.mk k n s l)↔∃a,cs=[.int .i64 k, .int .i64 n, .string s,a]∧ae M w a l∧s.size≤maxLen:=by
 constructor
 ·intro h
  cases h with
  |mk _ _ _ _ a css h1 hs h2=>
   obtain⟨e,h3⟩:=ku.iff.1 h2
   exact⟨a,rfl,⟨css,h1,e,h3⟩,hs⟩
 ·rintro⟨a,rfl,⟨css,h1,e,h3⟩,hs⟩
  exact .mk k n s l a css h1 hs (ku.iff.2 ⟨e,h3⟩)
mutual
inductive bS(M:Nat→Prop)(w:World):List Value→an→Prop
 |mk(k n:Int)(s:ByteArray)(l:List an)(a:Value)(css:List (List Value)):ba (fun i=>¬M i) w 4 a l.length css.flatten→s.size≤maxLen→ik M w css l→bS M w [.int .i64 k, .int .i64 n, .string s,a] (.mk k n s l)
inductive ik(M:Nat→Prop)(w:World):List (List Value)→List an→Prop
 |nil:ik M w [] []
 |cons(cs:List Value)(v:an)(css:List (List Value))(l:List an):bS M w cs v→ik M w css l→ik M w (cs::css) (v::l)
end
mutual
theorem bS.vN {M M':Nat→Prop}{w w':World}{cs:List Value}{v:an}(h:bS M w cs v)(k:Ev M w M' w'):bS M' w' cs v:=by
 match h with
 | .mk kd n s l a css h1 hs h2=>exact .mk kd n s l a css (h1.ev k) hs (h2.vN k)
theorem ik.vN {M M':Nat→Prop}{w w':World}{css:List (List Value)}{l:List an}(h:ik M w css l)(k:Ev M w M' w'):ik M' w' css l:=by
 match h with
 | .nil=>exact .nil
 | .cons cs v css l h1 h2=>exact .cons cs v css l (h1.vN k) (h2.vN k)
end
instance:az an where
 size:=4
 rep:=bS
 len:=fun h=>by cases h;rfl
 flat:=fun h u hu=>by
  cases h with
  |mk k n s l a css h1 hs h2=>simp at hu;rcases hu with rfl|rfl|rfl|rfl;rfl;rfl;rfl;exact wJ h1
 ev:=fun h k=>h.vN k
theorem ik.iff {M:Nat→Prop}{w:World}:∀{css:List (List Value)}{l:List an},ik M w css l↔css.length=l.length∧∀(i:Nat)(cs:List Value)(x:an),css[i]? =some cs→l[i]? =some x→bS M w cs x
 |[],[]=>⟨fun _=>⟨rfl,fun i cs x h=>by simp at h⟩,fun _=> .nil⟩
 |[],_::_=>⟨fun h=>(by cases h),fun h=>(by simp at h)⟩
 |_::_,[]=>⟨fun h=>(by cases h),fun h=>(by simp at h)⟩
 |cs::css,v::l=>by
  constructor
  ·intro h
   cases h with
   |cons _ _ _ _ h1 h2=>
    obtain⟨e,h3⟩:=(ik.iff (css:=css) (l:=l)).1 h2
    refine⟨by simp[e],fun i c x hc hx=> ?_⟩
    cases i with
    |zero=>simp at hc hx;subst hc hx;exact h1
    |succ i=>exact h3 i c x (by simpa using hc) (by simpa using hx)
  ·rintro⟨e,h⟩
   exact .cons _ _ _ _ (h 0 cs v rfl rfl) ((ik.iff (css:=css) (l:=l)).2 ⟨by simpa using e,fun i c x hc hx=>h (i+1) c x (by simpa using hc) (by simpa using hx)⟩)
theorem bS.iff {M:Nat→Prop}{w:World}{cs:List Value}{k n:Int}{s:ByteArray}{l:List an}:bS M w cs (.mk k n s l)↔∃a,cs=[.int .i64 k, .int .i64 n, .string s,a]∧ae M w a l∧s.size≤maxLen:=by
 constructor
 ·intro h
  cases h with
  |mk _ _ _ _ a css h1 hs h2=>
   obtain⟨e,h3⟩:=ik.iff.1 h2
   exact⟨a,rfl,⟨css,h1,e,h3⟩,hs⟩
 ·rintro⟨a,rfl,⟨css,h1,e,h3⟩,hs⟩
  exact .mk k n s l a css h1 hs (ik.iff.2 ⟨e,h3⟩)
instance:az dz where
 size:=4
 rep:=fun M w cs x=>∃vv,cs=[.int .i64 x.id, .int .i64 x.cls, .int .i64 x.ver,vv]∧ae M w vv x.cz
 len:=fun⟨_,h,_⟩=>by rw[h];rfl
 flat:=fun⟨_,h,h1⟩u hu=>by rw[h]at hu;simp at hu;rcases hu with rfl|rfl|rfl|rfl;rfl;rfl;rfl;exact gk h1
 ev:=fun⟨vv,h,h1⟩k=>⟨vv,h,h1.ev k⟩
def bI {α:Type} [az α](M:Nat→Prop)(w:World)(v:Value)(x:α):Prop:=∃cs,v= .agg cs.toArray∧az.rep M w cs x
theorem bI.ev {α:Type} [az α]{M M':Nat→Prop}{w w':World}{v:Value}{x:α}(h:bI M w v x)(k:Ev M w M' w'):bI M' w' v x:=by
 obtain⟨cs,h1,h2⟩:=h;exact⟨cs,h1,az.ev h2 k⟩
theorem bI.below {α:Type} [az α]{M:Nat→Prop}{w w':World}{v:Value}{x:α}(h:bI M w v x)(k:Below w.heap.size w w'):bI M w' v x:=h.ev (Ev.aj k)
def aF(w:World)(R:Value→World→Prop)(e:Ending)(w':World):Prop:=∃v,e= .returned v∧R v w'∧Below w.heap.size w w'
def Bd(M:Nat→Prop)(w:World):Prop:=∀i,M i→i<w.heap.size
theorem Bd.below {M:Nat→Prop}{w w':World}(h:Bd M w)(k:Below w.heap.size w w'):Bd M w':=fun i hi=>Nat.lt_of_lt_of_le (h i hi) k.size
def bc(v:Value)(M:Nat→Prop):Nat→Prop:=fun i=>M i∨v.ownBlock=some i
def aK {α:Type} [az α](M:Nat→Prop)(base:Nat)(e:TypeId)(w:World)(v:Value)(xs:List α):Prop:=
 ∃css:List (List Value),w.ownsRow base e (az.size α) v xs.length css.flatten∧css.length=xs.length∧∀(i:Nat)(cs:List Value)(x:α),css[i]? =some cs→xs[i]? =some x→az.rep (bc v M) w cs x
theorem Ev.ee {M N:Nat→Prop}(w:World)(h:∀i,N i→M i):Ev M w N w:=⟨ag.refl M w,fun i hi=> .inl (h i hi)⟩
section
variable {α:Type} [az α]{M:Nat→Prop}{base:Nat}{e:TypeId}{w w':World}{v v':Value}{xs:List α}
theorem aK.nil(M:Nat→Prop)(base:Nat)(e:TypeId)(w:World):aK (α:=α) M base e w (.slice none 0 0) []:=⟨[],World.ownsRow_nil w base e _,rfl,fun i cs x h=>by simp at h⟩
theorem aK.made(M:Nat→Prop)(cur:Array Value)(cap:Nat)(hb:base≤w.heap.size)(hm:cap≤maxLen)(hs:cur.size=cap*az.size α):aK (α:=α) M base e (w.alloc (.cells cur e)) (.slice (some ⟨w.heap.size,0,none⟩) 0 cap) []:=
 ⟨[],World.ownsRow_made w cur cap hb hm hs,rfl,fun i cs x h=>by simp at h⟩
theorem vO {size n:Nat}{cs:List Value}(h:w.ownsRow base e size v n cs)(hb:Below w.heap.size w w'):w'.ownsRow base e size v n cs:=by
 refine⟨h.1,?_⟩
 rcases h.2 with h0|⟨g,cap,cur,h1,h2,h3,h4⟩
 ·exact .inl h0
 ·exact .inr ⟨g,cap,cur,h1,h2,(hb.block g (Array.getElem?_eq_some_iff.1 h3).1).trans h3,h4⟩
theorem aK.below(h:aK M base e w v xs)(hb:Below w.heap.size w w'):aK M base e w' v xs:=by
 obtain⟨css,h1,h2,h3⟩:=h
 exact⟨css,vO h1 hb,h2,fun i cs x hc hx=>az.ev (h3 i cs x hc hx) (Ev.aj hb)⟩
theorem aK.alloc(h:aK M base e w v xs)(o:Obj):aK M base e (w.alloc o) v xs:=h.below ((Below.refl _ w).alloc (Nat.le_refl _) o)
theorem aK.open_(h:aK M base e w v xs):∃a cap,v= .slice a xs.length cap∧xs.length≤cap∧cap≤9223372036854775807:=by
 obtain⟨css,h1,_⟩:=h
 obtain⟨a,c,h2,h3,h4⟩:=dG h1
 exact⟨a,c,h2,h3,by unfold maxLen at h4;omega⟩
theorem aK.dO(h:aK M base e w v xs):∀k,v.ownBlock=some k→base≤k∧k<w.heap.size:=by
 obtain⟨css,h1,_⟩:=h
 exact h1.lt
theorem aK.slice(h:aK M base e w v xs)(hM:∀i,M i→i<base):ae M w v xs:=by
 obtain⟨css,h1,h2,h3⟩:=h
 refine⟨css,(ba.qH h1).mono fun i hi _ TA=> ?_,h2,fun i cs x hc hx=>az.ev (h3 i cs x hc hx) (Ev.ee w fun i hi=> .inl hi)⟩
 have:=(h1.lt i hi).1
 have:=hM i TA
 omega
theorem Ev.grown(hg:w.grownBy w' v.ownBlock)(hv:v'.ownBlock=v.ownBlock∨v'.ownBlock=some w.heap.size):Ev (bc v M) w (bc v' M) w':=by
 refine⟨(ag.refl _ w).grown hg fun g EB=> .inl (.inr EB),fun i hi=> ?_⟩
 rcases hi with hi|hi
 ·exact .inl (.inl hi)
 ·rcases hv with hv|hv
  ·exact .inl (.inr (hv▸hi))
  ·rw[hv]at hi;cases hi;exact .inr (Nat.le_refl _)
theorem aK.snoc {css:List (List Value)}{cs:List Value}{x:α}(h2:css.length=xs.length)(h3:∀(i:Nat)(cs:List Value)(x:α),css[i]? =some cs→xs[i]? =some x→az.rep (bc v M) w cs x)
 (hx:az.rep (bc v M) w cs x)(ho:w'.ownsRow base e (az.size α) v' (xs.length+1) (css.flatten++cs))(hg:w.grownBy w' v.ownBlock)(hv:v'.ownBlock=v.ownBlock∨v'.ownBlock=some w.heap.size):
 aK M base e w' v' (xs++[x]):=by
 refine⟨css++[cs],by simpa using ho,by simp[h2],fun i c y hc hy=> ?_⟩
 by_cases hi:i<css.length
 ·rw[List.getElem?_append_left hi]at hc
  rw[List.getElem?_append_left (by omega)]at hy
  exact az.ev (h3 i c y hc hy) (Ev.grown hg hv)
 ·rw[List.getElem?_append_right (by omega)]at hc
  rw[List.getElem?_append_right (by omega)]at hy
  rw[h2]at hc
  by_cases h0:i-xs.length=0
  ·rw[h0]at hc hy;simp at hc hy;subst hc hy
   exact az.ev hx (Ev.grown hg hv)
  ·rw[List.getElem?_eq_none (by simp;omega)]at hc;cases hc
theorem aK.app {css Ik:List (List Value)}{ys:List α}(h2:css.length=xs.length)(h3:∀(i:Nat)(cs:List Value)(x:α),css[i]? =some cs→xs[i]? =some x→az.rep (bc v M) w cs x)
 (k2:Ik.length=ys.length)(k3:∀(i:Nat)(cs:List Value)(x:α),Ik[i]? =some cs→ys[i]? =some x→az.rep (bc v M) w cs x)(ho:w'.ownsRow base e (az.size α) v' (xs.length+ys.length) (css.flatten++Ik.flatten))(hg:w.grownBy w' v.ownBlock)(hv:v'.ownBlock=v.ownBlock∨v'.ownBlock=some w.heap.size):
 aK M base e w' v' (xs++ys):=by
 refine⟨css++Ik,by simpa using ho,by simp[h2,k2],fun i c y hc hy=> ?_⟩
 by_cases hi:i<css.length
 ·rw[List.getElem?_append_left hi]at hc
  rw[List.getElem?_append_left (by omega)]at hy
  exact az.ev (h3 i c y hc hy) (Ev.grown hg hv)
 ·rw[List.getElem?_append_right (by omega)]at hc
  rw[List.getElem?_append_right (by omega)]at hy
  rw[h2]at hc
  exact az.ev (k3 _ c y hc hy) (Ev.grown hg hv)
end
structure Tok where
 kind:Nat
 n:Nat
 s:List UInt8
 at_:Nat
 deriving DecidableEq
def lV(c:UInt8):Bool:=decide (48≤c)&&decide (c≤57)
def oh(c:UInt8):Bool:=decide (97≤c)&&decide (c≤122)
def cH(c:UInt8):Bool:=oh c||lV c||c==95
def ec(c:UInt8):Bool:=c !=34&&c !=92
def oo(l:List UInt8):Bool:=decide (1≤l.length)&&decide (l.length≤20)&&(match l with|[]=>false|c::_=>oh c)&&l.all cH
def iK(l:List UInt8):Bool:=decide (l.length≤60)&&l.all fun c=>decide (32≤c)&&decide (c<127)
def pD:List UInt8→Bool
 |d::_=>lV d
 |[]=>false
def pE:List UInt8→Option ((Nat×Nat×List UInt8)×Nat)
 |[]=>none
 |c::r=>
  if lV c then(if pD r then none else some ((1,c.toNat-48,[]),1))
  else if oh c then(if oo ((c::r).takeWhile cH)then some ((3,0,(c::r).takeWhile cH),((c::r).takeWhile cH).length)else none)
  else if c=34 then(match r.drop (r.takeWhile ec).length with
   |34::_=>if iK (r.takeWhile ec)then some ((2,0,r.takeWhile ec),(r.takeWhile ec).length+2)else none
   |_=>none)
  else if [38,43,45,42,47,37,40,41,44,61].contains c then some ((4,0,[c]),1)
  else if c=62∧r.head?≠some 61 then some ((4,0,[c]),1)
  else none
def dQ:Nat→List UInt8→Nat→Option (List Tok)
 |_,[],_=>some []
 |0,_::_,_=>none
 |k+1,c::r,i=>
  if c=32 then dQ k r (i+1)
  else match pE (c::r)with
   |none=>none
   |some ((kd,n,s),size)=>if size=0 then none else(dQ k ((c::r).drop size) (i+size)).map fun ts=>⟨kd,n,s,i⟩::ts
def bM(s:List UInt8):Nat:=
 if s=[42]∨s=[47]∨s=[37]then 4 else if s=[43]∨s=[45]then 3 else if s=[38]then 2 else if s=[61]∨s=[62]then 1 else 0
def cO(s:List UInt8):Nat:=
 if s=[108,101,110]∨s=[116,101,120,116]∨s=[110,117,109]then 1
 else if s=[108,101,102,116]∨s=[114,105,103,104,116]∨s=[102,114,111,109]∨s=[102,105,110,100]∨s=[109,105,110]∨s=[109,97,120]then 2
 else if s=[105,102]then 3 else 0
def bL(l:List UInt8):ByteArray:=⟨l.toArray⟩
def da(ts:List Tok)(s:List UInt8):Bool:=match ts with|t::_=>t.kind==4&&t.s==s|[]=>false
mutual
def ic:Nat→Nat→List Tok→Option (an×List Tok)
 |0,_,_=>none
 |k+1,least,ts=>match im k ts with
  |none=>none
  |some (e,r)=>lW k least e r
def lW:Nat→Nat→an→List Tok→Option (an×List Tok)
 |0,_,_,_=>none
 |k+1,least,e,ts=>match ts with
  |[]=>some (e,[])
  |t::r=>if t.kind=4∧least≤bM t.s then(match ic k (bM t.s+1) r with
    |none=>none
    |some (f,r')=>lW k least (.mk 4 0 (bL t.s) [e,f]) r')else some (e,t::r)
def im:Nat→List Tok→Option (an×List Tok)
 |0,_=>none
 |k+1,ts=>match ts with
  |[]=>none
  |t::r=>
   if t.kind=1 then some (.mk 1 t.n (bL []) [],r)
   else if t.kind=2 then some (.mk 2 0 (bL t.s) [],r)
   else if t.kind=3 then(if cO t.s>0∧da r [40]=true then(match dU k (cO t.s) (r.drop 1)with
    |none=>none
    |some (l,r')=>some (.mk 6 0 (bL t.s) l,r'))else some (.mk 3 0 (bL t.s) [],r))
   else none
def dU:Nat→Nat→List Tok→Option (List an×List Tok)
 |0,_,_=>none
 |k+1,n,ts=>match ic k 1 ts with
  |none=>none
  |some (e,r)=>if n=1 then(if da r [41]then some ([e],r.drop 1)else none)
   else if n=0 then none
   else if da r [44]then(match dU k (n-1) (r.drop 1)with
    |none=>none
    |some (l,r')=>some (e::l,r'))else none
end
def an.kind:an→Int| .mk k _ _ _=>k
def an.str:an→ByteArray| .mk _ _ s _=>s
mutual
def dA:an→Nat| .mk _ _ _ l=>cI l+1
def cI:List an→Nat|[]=>0|e::r=>dA e+cI r
end
mutual
def ju:an→Nat| .mk _ _ _ l=>tC l+1
def tC:List an→Nat|[]=>0|e::r=>max (ju e) (tC r)
end
def tD(k n:Int)(s:List UInt8)(kids:Nat):Bool:=
 if k=1 then decide (0≤n)&&decide (n≤1000000000000000)&&s.isEmpty&&kids==0
 else decide (n=0)&&(if k=2 then iK s&&kids==0 else if k=3 then oo s&&kids==0 else if k=4 then decide (0<bM s)&&kids==2 else if k=6 then decide (0<cO s)&&kids==cO s else false)
mutual
def fX:an→Bool| .mk k n s l=>tD k n s.data.toList l.length&&pF l
def pF:List an→Bool|[]=>true|e::r=>fX e&&pF r
end
def dq(l:List UInt8):Option an:=match dQ 200 l 0 with
 |none=>none
 |some ts=>match ic 60 1 ts with
  |some (e,[])=>if l.length≤200∧fX e=true∧ju e≤8∧dA e≤40 then some e else none
  |_=>none
def fE(s:List UInt8):an:= .mk 3 0 (bL s) []
def nE(n:Int):an:= .mk 1 n (bL []) []
def tE(s:List UInt8):an:= .mk 2 0 (bL s) []
def E7(s:List UInt8)(a b:an):an:= .mk 4 0 (bL s) [a,b]
def ky(s:List UInt8)(l:List an):an:= .mk 6 0 (bL s) l
def qK(s:List UInt8):an:=if s=[55]then nE 7 else if s=[34,97,32,98,34]then tE [97,32,98]else fE s
def mB(num txt:an):List an:=[nE 3,num,E7 [45] (E7 [42] num (nE 2)) (nE 1),ky [108,101,110] [txt],ky [105,102] [E7 [62] num (nE 2),num,E7 [45] (nE 0) num],
 ky [102,105,110,100] [tE [98],txt],E7 [47] num num]
def kz(num txt:an):List an:=[tE [120],txt,E7 [38] (E7 [38] txt (tE [45])) txt,ky [116,101,120,116] [num],ky [108,101,102,116] [txt,nE 2],ky [102,114,111,109] [txt,nE 3],
 ky [105,102] [E7 [61] num (nE 1),txt,tE [110,111]]]
def names9:List (List UInt8):=[[97],[98,50],[110,97,109,101],[110,101,120,116,95,111,110,101],[107,105,100,115],[120],[110,101,119,95,49],[109,111,114,101],[122,57]]
def PB(num txt:List UInt8):List (List UInt8):=[[51],num,num++[32,42,32,50,32,45,32,49],[108,101,110,40]++txt++[41],
 [105,102,40]++num++[32,62,32,50,44,32]++num++[44,32,48,32,45,32]++num++[41],[102,105,110,100,40,34,98,34,44,32]++txt++[41],num++[32,47,32]++num]
def CN(num txt:List UInt8):List (List UInt8):=[[34,120,34],txt,txt++[32,38,32,34,45,34,32,38,32]++txt,[116,101,120,116,40]++num++[41],
 [108,101,102,116,40]++txt++[44,32,50,41],[102,114,111,109,40]++txt++[44,32,51,41],[105,102,40]++num++[32,61,32,49,44,32]++txt++[44,32,34,110,111,34,41]]
mutual
def V9:an→an→Bool| .mk k n s l, .mk k' n' s' l'=>decide (k=k')&&decide (n=n')&&(s.data.toList==s'.data.toList)&&Ga l l'
def Ga:List an→List an→Bool|[],[]=>true|e::r,e'::r'=>V9 e e'&&Ga r r'|_,_=>false
end
mutual
theorem wK:∀{a b:an},V9 a b=true→a=b
 | .mk k n s l, .mk k' n' s' l',h=>by
   simp only[V9,Bool.and_eq_true,decide_eq_true_eq,beq_iff_eq]at h
   obtain⟨⟨⟨rfl,rfl⟩,h3⟩,h4⟩:=h
   have e1:s=s':=by cases s;cases s';simp at h3;simpa using h3
   have e2:=tF h4
   rw[e1,e2]
theorem tF:∀{a b:List an},Ga a b=true→a=b
 |[],[],_=>rfl
 |e::r,e'::r',h=>by
  simp only[Ga,Bool.and_eq_true]at h
  rw[wK h.1,tF h.2]
 |[],_::_,h=>by simp[Ga]at h
 |_::_,[],h=>by simp[Ga]at h
end
def S0(s:List UInt8)(e:an):Bool:=match dq s with|some f=>V9 f e|none=>false
theorem qL {s:List UInt8}{e:an}(h:S0 s e=true):dq s=some e:=by
 unfold S0 at h
 split at h
 ·rename_i f hf;rw[hf,wK h]
 ·cases h
theorem I5:(([55]::names9).all fun num=>([34,97,32,98,34]::names9).all fun txt=>((PB num txt).zip (mB (qK num) (qK txt))).all fun p=>S0 p.1 p.2)=true:=by decide+kernel
theorem Gb:(([55]::names9).all fun num=>([34,97,32,98,34]::names9).all fun txt=>((CN num txt).zip (kz (qK num) (qK txt))).all fun p=>S0 p.1 p.2)=true:=by decide+kernel
theorem Gc:(names9.all fun s=>S0 s (fE s))=true:=by decide+kernel
theorem ct {F:Nat→Prop}(w:World)(cs:Array Value)(t:TypeId)(size:Nat)(hs:cs.size=size)(hF:F w.heap.size):ba F (w.alloc (.cells cs t)) size (.slice (some ⟨w.heap.size,0,none⟩) 1 1) 1 cs.toList:=by
 refine⟨by simp[hs],some ⟨w.heap.size,0,none⟩,1,rfl,Nat.le_refl _,by unfold maxLen;omega,fun _=>⟨w.heap.size,0,rfl,hF,by simp,fun j u hu=> ?_⟩⟩
 simp only[World.cell?,heap_alloc_new,Nat.zero_add]
 simpa using hu
section
variable {P:Program}{α:Type} [az α]
theorem aQ {ops:Array Oper}{rest:List Oper}{o:Oper}{a:Act}{w:World}{Q:Exit→Act→World→Prop}(vE:o.guard=none)(s x:Operand)(t:TypeId)
 (ho:o.op= .call {callee:= .builtin .append,args:= #[s,x],argTypes:= #[t,t]})
 (M:Nat→Prop)(base:Nat)(e:TypeId)(i:TypeInfo)(z:Value)(bytes:Nat)(ht:P.underlying t=some (.slice e))(hi:P.info? e=some i)(hz:i.zero=some z)
 (gu:i.size=az.size α)(xT:i.bytes=bytes)(xU:z.cells.size=az.size α)(cB:0<az.size α)
 (v:Value)(xs:List α)(hs:a.eval s=v)(bn:aK M base e w v xs)
 (F:Nat→Prop)(sv:Value)(cs:List Value)(y:α)(hx:a.eval x=sv)(hr:ba F w (az.size α) sv 1 cs)(hy:az.rep (bc v M) w cs y)
 (xV:xs.length+1≤maxLen)(ey:(xs.length+1)*bytes≤140737488355328)(ed:base≤w.heap.size)
 (h:∀a' c' w',aK M base e w' (.slice a' (xs.length+1) c') (xs++[y])→Ev (bc v M) w (bc (.slice a' (xs.length+1) c') M) w'→Below base w w'→wpList P ops Q rest (a.put o.dst (.slice a' (xs.length+1) c')) w'):wpList P ops Q (o::rest) a w:=by
 obtain⟨css,h1,h2,h3⟩:=bn
 refine fz w vE s x t ho base e i z (az.size α) bytes ht hi hz gu xT xU cB v xs.length css.flatten hs h1 sv 1 cs hx hr (az.flat hy) xV ey ed fun a' c' w' k1 k2 k3=> ?_
 exact h a' c' w' (aK.snoc h2 h3 hy k1 k2 k3) (Ev.grown k2 k3) ((Below.refl _ w).grown k2 ed fun k hk=>(h1.lt k hk).1)
theorem cP {ops:Array Oper}{rest:List Oper}{o:Oper}{a:Act}{w:World}{Q:Exit→Act→World→Prop}(vE:o.guard=none)(s x:Operand)(t:TypeId)
 (ho:o.op= .call {callee:= .builtin .append,args:= #[s,x],argTypes:= #[t,t]})
 (M:Nat→Prop)(base:Nat)(e:TypeId)(i:TypeInfo)(z:Value)(bytes:Nat)(ht:P.underlying t=some (.slice e))(hi:P.info? e=some i)(hz:i.zero=some z)
 (gu:i.size=az.size α)(xT:i.bytes=bytes)(xU:z.cells.size=az.size α)(cB:0<az.size α)
 (v:Value)(xs:List α)(hs:a.eval s=v)(bn:aK M base e w v xs)
 (sv:Value)(ys:List α)(hx:a.eval x=sv)(hr:ae (bc v M) w sv ys)
 (xV:xs.length+ys.length≤maxLen)(ey:(xs.length+ys.length)*bytes≤140737488355328)(ed:base≤w.heap.size)
 (h:∀a' c' w',aK M base e w' (.slice a' (xs.length+ys.length) c') (xs++ys)→Ev (bc v M) w (bc (.slice a' (xs.length+ys.length) c') M) w'→Below base w w'→wpList P ops Q rest (a.put o.dst (.slice a' (xs.length+ys.length) c')) w'):wpList P ops Q (o::rest) a w:=by
 obtain⟨css,h1,h2,h3⟩:=bn
 obtain⟨Ik,k1,k2,k3⟩:=hr
 have B6:∀u∈Ik.flatten,u.oneCell'=true:=fun u hu=>by
  obtain⟨cs,bE,hu⟩:=List.mem_flatten.1 hu
  obtain⟨i,hi⟩:=List.getElem?_of_mem bE
  have xY:i<ys.length:=by rw[←k2];exact(List.getElem?_eq_some_iff.1 hi).1
  exact az.flat (k3 i cs _ hi (List.getElem?_eq_getElem xY)) u hu
 refine fz w vE s x t ho base e i z (az.size α) bytes ht hi hz gu xT xU cB v xs.length css.flatten hs h1 sv ys.length Ik.flatten hx k1 B6 xV ey ed fun a' c' w' j1 j2 j3=> ?_
 exact h a' c' w' (aK.app h2 h3 k2 k3 j1 j2 j3) (Ev.grown j2 j3) ((Below.refl _ w).grown j2 ed fun k hk=>(h1.lt k hk).1)
end
section
variable {P:Program}{α:Type} [az α]
theorem lX {F:Nat→Prop}(w:World){o:Oper}{a:Act}{K:Act→World→Prop}{Q:Exit→Act→World→Prop}(s x:Operand)(t:TypeId)
 (ho:o.op= .call {callee:= .builtin .append,args:= #[s,x],argTypes:= #[t,t]})
 (base:Nat)(e:TypeId)(i:TypeInfo)(z:Value)(size bytes:Nat)(ht:P.underlying t=some (.slice e))(hi:P.info? e=some i)(hz:i.zero=some z)
 (gu:i.size=size)(xT:i.bytes=bytes)(xU:z.cells.size=size)(cB:0<size)
 (v:Value)(n:Nat)(xs:List Value)(hs:a.eval s=v)(kQ:w.ownsRow base e size v n xs)
 (sv:Value)(m:Nat)(news:List Value)(hx:a.eval x=sv)(hr:ba F w size sv m news)(h1:∀u∈news,u.oneCell'=true)
 (xV:n+m≤maxLen)(ey:(n+m)*bytes≤140737488355328)(ed:base≤w.heap.size)
 (h:∀v' w',w'.ownsRow base e size v' (n+m) (xs++news)→w.grownBy w' v.ownBlock→(v'.ownBlock=v.ownBlock∨v'.ownBlock=some w.heap.size)→K (a.put o.dst v') w'):Oper.wp P o a w K Q:=by
 obtain⟨v',w',mo,h2,h3,h4⟩:=fh (P:=P) w base t o.type e i z size bytes ht hi hz gu xT xU cB v n xs kQ sv m news hr h1 xV ey ed
 unfold Oper.wp execOp
 simp only[ho,resolve,invoke,builtin,Sem.run_bind,Sem.run_pure,Result.andThen_ok,List.map_toArray,List.map_cons,List.map_nil,hs,hx,mo]
 exact h v' w' h2 h3 h4
theorem dr {w:World}{ops:Array Oper}{o:Oper}{a:Act}{K:Act→World→Prop}{Q:Exit→Act→World→Prop}{E:Prop}(vE:o.guard=none)(s x:Operand)(t:TypeId)
 (ho:o.op= .call {callee:= .builtin .append,args:= #[s,x],argTypes:= #[t,t]})
 (M:Nat→Prop)(base:Nat)(e:TypeId)(i:TypeInfo)(z:Value)(bytes:Nat)(ht:P.underlying t=some (.slice e))(hi:P.info? e=some i)(hz:i.zero=some z)
 (gu:i.size=az.size α)(xT:i.bytes=bytes)(xU:z.cells.size=az.size α)(cB:0<az.size α)
 (v:Value)(xs:List α)(hs:a.eval s=v)(bn:aK M base e w v xs)
 (F:Nat→Prop)(sv:Value)(cs:List Value)(y:α)(hx:a.eval x=sv)(hr:ba F w (az.size α) sv 1 cs)(hy:az.rep (bc v M) w cs y)
 (xV:xs.length+1≤maxLen)(ey:(xs.length+1)*bytes≤140737488355328)(ed:base≤w.heap.size)
 (h:∀a' c' w',aK M base e w' (.slice a' (xs.length+1) c') (xs++[y])→Ev (bc v M) w (bc (.slice a' (xs.length+1) c') M) w'→Below base w w'→K (a.put o.dst (.slice a' (xs.length+1) c')) w'):
 if Region.wanted o (yielded ops a.tmps)=true then Oper.wp P o a w K Q else E:=by
 have hw:Region.wanted o (yielded ops a.tmps)=true:=by simp[Region.wanted,vE]
 rw[if_pos hw]
 obtain⟨css,h1,h2,h3⟩:=bn
 refine lX w s x t ho base e i z (az.size α) bytes ht hi hz gu xT xU cB v xs.length css.flatten hs h1 sv 1 cs hx hr (az.flat hy) xV ey ed fun v' w' k1 k2 k3=> ?_
 obtain⟨a',c',rfl,_,_⟩:=dG k1
 exact h a' c' w' (aK.snoc h2 h3 hy k1 k2 k3) (Ev.grown k2 k3) ((Below.refl _ w).grown k2 ed fun k hk=>(h1.lt k hk).1)
end
def I6(x:Int):Prop:= -9223372036854775808≤x∧x≤9223372036854775807
structure iq where
 name:Int
 kind:Int
 of:Int
 indexed:Bool
structure qN where
 name:Int
 fields:List iq
structure eD where
 kind:Int
 field:Int
 name:Int
 more:Int
 type:aJ
 expr:Int
 other:Int
structure fL where
 cls:qN
 changes:List eD
structure iE where
 cls:Int
 ver:Int
 cz:List Int
 skip:Int
structure iL where
 name:Int
 id:Int
instance:az iq where
 size:=4
 rep:=fun _ _ cs x=>cs=[.int .i64 x.name, .int .i64 x.kind, .int .i64 x.of, .bool x.indexed]∧I6 x.name∧I6 x.kind∧I6 x.of
 len:=fun h=>by rw[h.1];rfl
 flat:=fun h u hu=>by rw[h.1]at hu;simp at hu;rcases hu with rfl|rfl|rfl|rfl<;>rfl
 ev:=fun h _=>h
instance:az eD where
 size:=8
 rep:=fun _ _ cs x=>cs=[.int .i64 x.kind, .int .i64 x.field, .int .i64 x.name, .int .i64 x.more, .int .i64 x.type.kind, .int .i64 x.type.of, .int .i64 x.expr, .int .i64 x.other]∧I6 x.kind∧I6 x.field∧I6 x.name∧I6 x.more∧I6 x.type.kind∧I6 x.type.of∧I6 x.expr∧I6 x.other
 len:=fun h=>by rw[h.1];rfl
 flat:=fun h u hu=>by rw[h.1]at hu;simp at hu;rcases hu with rfl|rfl|rfl|rfl|rfl|rfl|rfl|rfl<;>rfl
 ev:=fun h _=>h
instance:az iL where
 size:=2
 rep:=fun _ _ cs x=>cs=[.int .i64 x.name, .int .i64 x.id]∧I6 x.name∧I6 x.id
 len:=fun h=>by rw[h.1];rfl
 flat:=fun h u hu=>by rw[h.1]at hu;simp at hu;rcases hu with rfl|rfl<;>rfl
 ev:=fun h _=>h
instance:az qN where
 size:=2
 rep:=fun M w cs x=>∃fv,cs=[.int .i64 x.name,fv]∧ae M w fv x.fields∧I6 x.name
 len:=fun⟨_,h,_⟩=>by rw[h];rfl
 flat:=fun⟨_,h,h1,_⟩u hu=>by rw[h]at hu;simp at hu;rcases hu with rfl|rfl;rfl;exact gk h1
 ev:=fun⟨fv,h,h1,h2⟩k=>⟨fv,h,h1.ev k,h2⟩
instance:az fL where
 size:=3
 rep:=fun M w cs x=>∃fv cv,cs=[.int .i64 x.cls.name,fv,cv]∧ae M w fv x.cls.fields∧ae M w cv x.changes∧I6 x.cls.name
 len:=fun⟨_,_,h,_⟩=>by rw[h];rfl
 flat:=fun⟨_,_,h,h1,h2,_⟩u hu=>by rw[h]at hu;simp at hu;rcases hu with rfl|rfl|rfl;rfl;exact gk h1;exact gk h2
 ev:=fun⟨fv,cv,h,h1,h2,h3⟩k=>⟨fv,cv,h,h1.ev k,h2.ev k,h3⟩
instance:az iE where
 size:=4
 rep:=fun M w cs x=>∃vv,cs=[.int .i64 x.cls, .int .i64 x.ver,vv, .int .i64 x.skip]∧ae M w vv x.cz∧I6 x.cls∧I6 x.ver∧I6 x.skip∧∀y∈x.cz,I6 y
 len:=fun⟨_,h,_⟩=>by rw[h];rfl
 flat:=fun⟨_,h,h1,_⟩u hu=>by rw[h]at hu;simp at hu;rcases hu with rfl|rfl|rfl|rfl;rfl;rfl;exact gk h1;rfl
 ev:=fun⟨vv,h,h1,h2⟩k=>⟨vv,h,h1.ev k,h2⟩
theorem cell_of_heap {W:World}{b:Nat}{cs:Array Value}{t:TypeId}{fr:Nat×Nat}(h:W.heap[b]? =some (.cells cs t fr)){i:Nat}{v:Value}(hv:cs[i]? =some v):W.cell? ⟨b,i,none⟩=some v:=by
 simp[World.cell?,h,hv]
theorem aa {W:World}{b:Nat}{cs:Array Value}{t:TypeId}(h:W.heap[b]? =some (.cells cs t (0,0)))(i:Nat):W.frozen? ⟨b,i,none⟩=false:=by
 simp[World.frozen?,h]
theorem Ev.setCell {M N:Nat→Prop}{w w':World}(h:Ev M w N w'){p:Addr}(hp:M p.block∨w.heap.size≤p.block)(u:Value):Ev M w N (w'.setCell p u):=⟨h.only.setCell hp u,h.sub⟩
theorem Ev.drew {M N:Nat→Prop}{w w':World}(h:Ev M w N w'):Ev M w N w'.drew:=⟨h.only.drew,h.sub⟩
theorem Ev.alloc {M N:Nat→Prop}{w w':World}(h:Ev M w N w')(o:Obj):Ev M w N (w'.alloc o):=⟨h.only.alloc o,h.sub⟩
theorem aK.sD {α:Type} [az α]{M:Nat→Prop}{base:Nat}{e:TypeId}{w:World}{v:Value}{xs:List α}(h:aK M base e w v xs){p:Addr}(hp:M p.block)(hb:p.block<base)(u:Value):aK M base e (w.setCell p u) v xs:=by
 obtain⟨css,h1,h2,h3⟩:=h
 exact⟨css,ownsRow_setCell_below h1 hb u,h2,fun i cs x hc hx=>az.ev (h3 i cs x hc hx) ((Ev.refl _ w).setCell (.inl (.inl hp)) u)⟩
theorem pI {w W:World}{o0:Obj}(hW:W=w.alloc o0):W.heap[w.heap.size]? =some o0∧W.heap.size=w.heap.size+1∧Below w.heap.size w W:=by
 subst hW
 exact⟨heap_alloc_new w o0,by simp,(Below.refl _ w).alloc (Nat.le_refl _) _⟩
theorem iM {w W:World}{o0 o1:Obj}(hW:W=(w.alloc o0).alloc o1):W.heap[w.heap.size]? =some o0∧W.heap[w.heap.size+1]? =some o1∧W.heap.size=w.heap.size+2∧Below w.heap.size w W:=by
 subst hW
 obtain⟨h0,hz,hb⟩:=pI (w:=w) (o0:=o0) rfl
 exact⟨(Below.heap_alloc _ _ _ (by omega)).trans h0,by rw[←hz];exact heap_alloc_new _ _,by rw[World.size_alloc,hz],hb.alloc hb.size _⟩
theorem Ae {w W:World}{o0 o1 o2:Obj}(hW:W=((w.alloc o0).alloc o1).alloc o2):W.heap[w.heap.size]? =some o0∧W.heap[w.heap.size+1]? =some o1∧W.heap[w.heap.size+2]? =some o2∧W.heap.size=w.heap.size+3∧Below w.heap.size w W:=by
 subst hW
 obtain⟨h0,h1,hz,hb⟩:=iM (w:=w) (o0:=o0) (o1:=o1) rfl
 exact⟨(Below.heap_alloc _ _ _ (by omega)).trans h0,(Below.heap_alloc _ _ _ (by omega)).trans h1,by rw[←hz];exact heap_alloc_new _ _,by rw[World.size_alloc,hz],hb.alloc hb.size _⟩
theorem OE {w W:World}{o0 o1 o2 o3:Obj}(hW:W=(((w.alloc o0).alloc o1).alloc o2).alloc o3):W.heap[w.heap.size]? =some o0∧W.heap[w.heap.size+1]? =some o1∧W.heap[w.heap.size+2]? =some o2∧W.heap[w.heap.size+3]? =some o3∧W.heap.size=w.heap.size+4∧Below w.heap.size w W:=by
 subst hW
 obtain⟨h0,h1,h2,hz,hb⟩:=Ae (w:=w) (o0:=o0) (o1:=o1) (o2:=o2) rfl
 exact⟨(Below.heap_alloc _ _ _ (by omega)).trans h0,(Below.heap_alloc _ _ _ (by omega)).trans h1,(Below.heap_alloc _ _ _ (by omega)).trans h2,by rw[←hz];exact heap_alloc_new _ _,by rw[World.size_alloc,hz],hb.alloc hb.size _⟩
def Bx(w:World)(os:List Obj)(wx:World):Prop:=Below w.heap.size w wx∧w.heap.size+os.length≤wx.heap.size∧∀(i:Nat)(o:Obj),os[i]? =some o→wx.heap[w.heap.size+i]? =some o
section
variable {w wx w':World}{os:List Obj}
theorem Bx.nil(w:World):Bx w [] w:=⟨Below.refl _ _,by simp,fun i o h=>by simp at h⟩
theorem Bx.bJ(h:Bx w os wx){o:Obj}(hi:os[0]? =some o):wx.heap[w.heap.size]? =some o:=h.2.2 0 o hi
theorem Bx.bh(h:Bx w os wx){o:Obj}(hi:os[1]? =some o):wx.heap[w.heap.size+1]? =some o:=h.2.2 1 o hi
theorem Bx.df(h:Bx w os wx){o:Obj}(hi:os[2]? =some o):wx.heap[w.heap.size+1+1]? =some o:=h.2.2 2 o hi
theorem Bx.Gr(h:Bx w os wx){o:Obj}(hi:os[3]? =some o):wx.heap[w.heap.size+1+1+1]? =some o:=h.2.2 3 o hi
theorem Bx.at4(h:Bx w os wx){o:Obj}(hi:os[4]? =some o):wx.heap[w.heap.size+1+1+1+1]? =some o:=h.2.2 4 o hi
theorem Bx.b8(h:Bx w os wx):w.heap.size+os.length≤wx.heap.size:=h.2.1
theorem Bx.cJ {B:Nat}(h:Bx w os wx)(k:Below B wx w')(hB:w.heap.size+os.length≤B):Bx w os w':=by
 obtain⟨h1,h2,h3⟩:=h
 refine⟨h1.trans (k.mono (by omega)),by have:=k.size;omega,fun i o hi=> ?_⟩
 have hl:=(List.getElem?_eq_some_iff.1 hi).1
 exact(k.block _ (by omega)).trans (h3 i o hi)
theorem Bx.below(h:Bx w os wx)(k:Below wx.heap.size wx w'):Bx w os w':=h.cJ k h.2.1
theorem Bx.alloc(h:Bx w os wx)(o:Obj):Bx w os (wx.alloc o):=h.below ((Below.refl _ _).alloc (Nat.le_refl _) o)
theorem Bx.drew(h:Bx w os wx):Bx w os wx.drew:=⟨h.1.drew,h.2⟩
theorem Bx.drewN(h:Bx w os wx)(n:Nat):Bx w os (wx.drewN n):=⟨⟨h.1.os,h.1.tape,h.1.output,h.1.size,h.1.block⟩,h.2⟩
theorem Bx.snoc(h:Bx w os wx)(hs:wx.heap.size=w.heap.size+os.length)(o:Obj):Bx w (os++[o]) (wx.alloc o):=by
 obtain⟨h1,h2,h3⟩:=h
 refine⟨h1.alloc h1.size o,by simp;omega,fun i p hi=> ?_⟩
 by_cases hl:i<os.length
 ·rw[List.getElem?_append_left hl]at hi
  exact(Below.heap_alloc wx o _ (by omega)).trans (h3 i p hi)
 ·rw[List.getElem?_append_right (by omega)]at hi
  have h0:i-os.length=0:=by
   cases hq:i-os.length with
   |zero=>rfl
   |succ q=>rw[hq]at hi;simp at hi
  rw[h0]at hi;simp at hi;subst hi
  rw[show w.heap.size+i=wx.heap.size from by omega]
  exact heap_alloc_new wx o
theorem Bx.fA(w:World)(o0:Obj):Bx w [o0] (w.alloc o0):=(Bx.nil w).snoc (by simp) o0
theorem Bx.eO(w:World)(o0 o1:Obj):Bx w [o0,o1] ((w.alloc o0).alloc o1):=(Bx.fA w o0).snoc (by simp) o1
theorem Bx.fB(w:World)(o0 o1 o2:Obj):Bx w [o0,o1,o2] (((w.alloc o0).alloc o1).alloc o2):=(Bx.eO w o0 o1).snoc (by simp) o2
theorem Bx.MW(w:World)(o0 o1 o2 o3:Obj):Bx w [o0,o1,o2,o3] ((((w.alloc o0).alloc o1).alloc o2).alloc o3):=(Bx.fB w o0 o1 o2).snoc (by simp) o3
theorem Bx.S5(w:World)(o0 o1 o2 o3 o4:Obj):Bx w [o0,o1,o2,o3,o4] (((((w.alloc o0).alloc o1).alloc o2).alloc o3).alloc o4):=(Bx.MW w o0 o1 o2 o3).snoc (by simp) o4
theorem Bx.set(h:Bx w os wx)(i j:Nat){cs:Array Value}{t:TypeId}(hi:os[i]? =some (.cells cs t (0,0)))(v:Value):Bx w (os.set i (.cells (cs.setIfInBounds j v) t (0,0))) (wx.setCell ⟨w.heap.size+i,j,none⟩ v):=by
 obtain⟨h1,h2,h3⟩:=h
 refine⟨h1.setCell (by simp) v,by simpa [World.setCell]using h2,fun k o hk=> ?_⟩
 have hl:=(List.getElem?_eq_some_iff.1 hi).1
 by_cases e:k=i
 ·subst e
  rw[List.getElem?_set_self hl]at hk
  cases hk
  have:=heap_setCell_same wx (w.heap.size+k) j cs t v (h3 k _ hi)
  simpa using this
 ·rw[List.getElem?_set_ne (fun h=>e h.symm)]at hk
  exact(heap_setCell_other _ _ _ _ (by simp;omega)).trans (h3 k o hk)
end
def orM(M:Nat→Prop)(B:Nat):Nat→Prop:=fun i=>M i∨i=B
def dp {α:Type} [az α](M:Nat→Prop)(B:Nat)(t:TypeId)(w:World)(n:Nat)(xs:List α):Prop:=
 ∃(cur:Array Value)(css:List (List Value)),w.heap[B]? =some (.cells cur t (0,0))∧cur.size=n*az.size α∧xs.length≤n∧css.length=xs.length∧css.flatten=cur.toList.take (xs.length*az.size α)∧
  ∀(i:Nat)(cs:List Value)(x:α),css[i]? =some cs→xs[i]? =some x→az.rep (orM M B) w cs x
section
variable {α:Type} [az α]{M:Nat→Prop}{B:Nat}{t:TypeId}{w w':World}{n:Nat}{xs:List α}
theorem dp.made(cur:Array Value)(h:w.heap[B]? =some (.cells cur t (0,0)))(hs:cur.size=n*az.size α):dp (α:=α) M B t w n []:=
 ⟨cur,[],h,hs,Nat.zero_le _,rfl,by simp,fun i cs x h=>by simp at h⟩
theorem dp.lt(h:dp M B t w n xs):B<w.heap.size:=by obtain⟨cur,css,h1,_⟩:=h;exact(Array.getElem?_eq_some_iff.1 h1).1
theorem dp.below(h:dp M B t w n xs)(hb:Below w.heap.size w w'):dp M B t w' n xs:=by
 obtain⟨cur,css,h1,h2,h3,h4,h5,h6⟩:=h
 exact⟨cur,css,(hb.block B (Array.getElem?_eq_some_iff.1 h1).1).trans h1,h2,h3,h4,h5,fun i cs x hc hx=>az.ev (h6 i cs x hc hx) (Ev.aj hb)⟩
theorem dp.cell(h:dp M B t w n xs){j:Nat}(hj:j<n*az.size α):∃v,w.cell? ⟨B,j,none⟩=some v∧w.frozen? ⟨B,j,none⟩=false:=by
 obtain⟨cur,css,h1,h2,_⟩:=h
 exact⟨cur[j]'(by omega),cell_of_heap h1 (by simp[h2,hj]),aa h1 j⟩
theorem dp.slice(h:dp M B t w n xs)(hn:xs.length=n)(hB:¬M B)(hm:n≤maxLen):ae M w (.slice (some ⟨B,0,none⟩) n n) xs:=by
 obtain⟨cur,css,h1,h2,h3,h4,h5,h6⟩:=h
 subst hn
 refine⟨css,⟨?_,some ⟨B,0,none⟩,xs.length,rfl,Nat.le_refl _,hm,fun _=>⟨B,0,rfl,hB,(Array.getElem?_eq_some_iff.1 h1).1,fun j u hu=> ?_⟩⟩,h4,fun i cs x hc hx=>az.ev (h6 i cs x hc hx) (Ev.ee w fun i hi=> .inl hi)⟩
 ·rw[h5,List.length_take];simp[h2]
 ·rw[h5]at hu
  have Yq:=jR hu
  rw[Nat.zero_add]
  exact cell_of_heap h1 (by simpa using Yq)
end
theorem S7 {l:List Value}{o:Nat}{a b c d:Value}(h:o+4≤l.length):((((l.set o a).set (o+1) b).set (o+2) c).set (o+3) d).take (o+4)=l.take o++[a,b,c,d]:=by
 apply List.ext_getElem?
 intro i
 rw[List.getElem?_take,List.getElem?_append]
 have hl:(l.take o).length=o:=by simp;omega
 rw[hl]
 by_cases h1:i<o
 ·rw[if_pos (by omega),if_pos h1]
  rw[List.getElem?_set_ne (by omega),List.getElem?_set_ne (by omega),List.getElem?_set_ne (by omega),List.getElem?_set_ne (by omega),List.getElem?_take,if_pos h1]
 ·rw[if_neg h1]
  by_cases h2:i<o+4
  ·rw[if_pos h2]
   have:i=o∨i=o+1∨i=o+2∨i=o+3:=by omega
   rcases this with rfl|rfl|rfl|rfl
   ·rw[List.getElem?_set_ne (by omega),List.getElem?_set_ne (by omega),List.getElem?_set_ne (by omega),List.getElem?_set_self (by omega)];simp
   ·rw[List.getElem?_set_ne (by omega),List.getElem?_set_ne (by omega),List.getElem?_set_self (by simp;omega)];simp
   ·rw[List.getElem?_set_ne (by omega),List.getElem?_set_self (by simp;omega)];simp
   ·rw[List.getElem?_set_self (by simp;omega)];simp
  ·rw[if_neg h2]
   rw[List.getElem?_eq_none (by simp;omega)]
theorem iu {W:World}{K o:Nat}{cur:Array Value}{t:TypeId}(h:W.heap[K]? =some (.cells cur t (0,0)))(a b c d:Value):
 ((((W.setCell ⟨K,o,none⟩ a).setCell ⟨K,o+1,none⟩ b).setCell ⟨K,o+2,none⟩ c).setCell ⟨K,o+3,none⟩ d).heap[K]? =some (.cells ((((cur.setIfInBounds o a).setIfInBounds (o+1) b).setIfInBounds (o+2) c).setIfInBounds (o+3) d) t (0,0)):=
 heap_setCell_same _ K (o+3) _ _ d (heap_setCell_same _ K (o+2) _ _ c (heap_setCell_same _ K (o+1) _ _ b (heap_setCell_same _ K o _ _ a h)))
theorem dp.PQ {α:Type} [az α](h4:az.size α=4){M:Nat→Prop}{B:Nat}{t:TypeId}{w:World}{n k:Nat}{xs:List α}(h:dp M B t w n xs)(hk:xs.length=k)(hn:k<n){x:α}{a b c d:Value}(hx:az.rep (orM M B) w [a,b,c,d] x):
 dp M B t ((((w.setCell ⟨B,k*4,none⟩ a).setCell ⟨B,k*4+1,none⟩ b).setCell ⟨B,k*4+2,none⟩ c).setCell ⟨B,k*4+3,none⟩ d) n (xs++[x]):=by
 obtain⟨cur,css,h1,h2,h3,h5,h6,h7⟩:=h
 subst hk
 rw[h4]at h2 h6
 have E:Ev (orM M B) w (orM M B) ((((w.setCell ⟨B,xs.length*4,none⟩ a).setCell ⟨B,xs.length*4+1,none⟩ b).setCell ⟨B,xs.length*4+2,none⟩ c).setCell ⟨B,xs.length*4+3,none⟩ d):=
  ((((Ev.refl _ w).setCell (.inl (.inr rfl)) a).setCell (.inl (.inr rfl)) b).setCell (.inl (.inr rfl)) c).setCell (.inl (.inr rfl)) d
 refine⟨_,css++[[a,b,c,d]],iu h1 a b c d,by rw[h4];simp[h2],by simp;omega,by simp[h5],?_,fun i cs y hc hy=> ?_⟩
 ·rw[h4]
  simp only[List.flatten_append,List.flatten_cons,List.flatten_nil,List.append_nil,List.length_append,List.length_cons,List.length_nil,h6,Array.toList_setIfInBounds]
  rw[show(xs.length+(0+1))*4=xs.length*4+4 from by omega,S7 (by simp[h2];omega)]
 ·by_cases hi:i<css.length
  ·rw[List.getElem?_append_left hi]at hc
   rw[List.getElem?_append_left (by omega)]at hy
   exact az.ev (h7 i cs y hc hy) E
  ·rw[List.getElem?_append_right (by omega)]at hc
   rw[List.getElem?_append_right (by omega)]at hy
   rw[h5]at hc
   have h0:i-xs.length=0:=by
    cases hq:i-xs.length with
    |zero=>rfl
    |succ q=>rw[hq]at hc;simp at hc
   rw[h0]at hc hy;simp at hc hy;subst hc hy
   exact az.ev hx E
theorem ow {css:List (List Value)}{size:Nat}:(∀(i:Nat)(cs:List Value),css[i]? =some cs→cs.length=size)→∀k,(css.take k).flatten=css.flatten.take (k*size)∧(css.drop k).flatten=css.flatten.drop (k*size):=by
 induction css with
 |nil=>intro _ k;simp
 |cons a r ih=>
  intro hs k
  have ha:a.length=size:=hs 0 a rfl
  cases k with
  |zero=>simp
  |succ k=>
   obtain⟨h1,h2⟩:=ih (fun i c hc=>hs (i+1) c (by simpa using hc)) k
   have e:(k+1)*size=a.length+k*size:=by rw[Nat.succ_mul,ha];omega
   constructor
   ·rw[List.take_succ_cons,List.flatten_cons,List.flatten_cons,h1,e,List.take_length_add_append]
   ·rw[List.drop_succ_cons,List.flatten_cons,h2,e,List.drop_length_add_append]
theorem ae.lens {α:Type} [az α]{M:Nat→Prop}{w:World}{xs:List α}{css:List (List Value)}(h2:css.length=xs.length)(h3:∀(i:Nat)(cs:List Value)(x:α),css[i]? =some cs→xs[i]? =some x→az.rep M w cs x):
 ∀(i:Nat)(cs:List Value),css[i]? =some cs→cs.length=az.size α:=fun i cs bE=>by
 have hi:i<xs.length:=by rw[←h2];exact(List.getElem?_eq_some_iff.1 bE).1
 exact az.len (h3 i cs _ bE (List.getElem?_eq_getElem hi))
theorem ae.upto {α:Type} [az α]{M:Nat→Prop}{w:World}{a:Option Addr}{n cap k:Nat}{xs:List α}(h:ae M w (.slice a n cap) xs)(hn:xs.length=n)(hk:k≤n):ae M w (.slice a k cap) (xs.take k):=by
 subst hn
 obtain⟨css,h1,h2,h3⟩:=h
 refine⟨css.take k,?_,by simp[h2],fun i cs x hc hx=> ?_⟩
 ·rw[(ow (ae.lens h2 h3) k).1,List.length_take,Nat.min_eq_left hk]
  exact ba.upto h1 rfl hk
 ·rw[List.getElem?_take]at hc hx
  split at hc
  ·rename_i hi
   rw[if_pos hi]at hx
   exact h3 i cs x hc hx
  ·cases hc
theorem ae.from_ {α:Type} [az α]{M:Nat→Prop}{w:World}{a:Option Addr}{n cap k:Nat}{xs:List α}(h:ae M w (.slice a n cap) xs)(hn:xs.length=n)(hk:k≤n):
 ae M w (.slice (if cap=k then a else a.map (·.add (k*az.size α))) (n-k) (cap-k)) (xs.drop k):=by
 subst hn
 obtain⟨css,h1,h2,h3⟩:=h
 refine⟨css.drop k,?_,by simp[h2],fun i cs x hc hx=> ?_⟩
 ·rw[(ow (ae.lens h2 h3) k).2,List.length_drop]
  exact ba.from_ h1 rfl hk
 ·rw[List.getElem?_drop]at hc hx
  exact h3 _ cs x hc hx
end
namespace Mk
def aR(ys:List Int)(k:Nat):Int:=ys.getD k 0
def ja(ys:List Int)(i j:Nat):List Int:=(ys.set i (aR ys j)).set j (aR ys i)
theorem xq {ys:List Int}{k:Nat}(h:k<ys.length):ys[k]? =some (aR ys k):=by simp[aR,List.getD,List.getElem?_eq_getElem h]
theorem cN(ys:List Int)(i j:Nat):(ja ys i j).length=ys.length:=by simp[ja]
theorem jE {ys:List Int}{i j:Nat}(hi:i<ys.length)(hj:j<ys.length)(k:Nat):aR (ja ys i j) k=if k=j then aR ys i else if k=i then aR ys j else aR ys k:=by
 unfold ja aR
 simp only[List.getD]
 by_cases h1:k=j
 ·subst h1;simp[List.getElem?_set,hj]
 ·by_cases h2:k=i
  ·subst h2
   rw[List.getElem?_set_ne (by omega)]
   simp[hi,h1]
  ·rw[List.getElem?_set_ne (by omega),List.getElem?_set_ne (by omega)]
   simp[h1,h2]
theorem count_set(ys:List Int)(i:Nat)(h:i<ys.length)(x a:Int):(ys.set i x).count a+(if aR ys i=a then 1 else 0)=ys.count a+(if x=a then 1 else 0):=by
 induction ys generalizing i with
 |nil=>simp at h
 |cons y r ih=>
  cases i with
  |zero=>simp only[List.set_cons_zero,List.count_cons,aR,List.getD];simp;omega
  |succ i=>
   have:=ih i (by simpa using h)
   simp only[List.set_cons_succ,List.count_cons]
   have e:aR (y::r) (i+1)=aR r i:=by simp[aR,List.getD]
   rw[e];omega
theorem jF {ys:List Int}{i j:Nat}(hi:i<ys.length)(hj:j<ys.length):(ja ys i j).Perm ys:=by
 rw[List.perm_iff_count]
 intro a
 have h1:=count_set ys i hi (aR ys j) a
 have h2:=count_set (ys.set i (aR ys j)) j (by simpa using hj) (aR ys i) a
 have e:aR (ys.set i (aR ys j)) j=if j=i then aR ys j else aR ys j:=by
  unfold aR;simp only[List.getD]
  by_cases h:i=j
  ·subst h;simp[hi]
  ·rw[List.getElem?_set_ne h];simp
 have e':aR (ys.set i (aR ys j)) j=aR ys j:=by rw[e];split<;>rfl
 rw[e']at h2
 unfold ja
 omega
def eI(ys:List Int)(n:Nat):Prop:=∀c,1≤c→c<n→aR ys ((c-1)/2)≤aR ys c
structure ux(ys:List Int)(j:Nat):Prop where
 lt:j<ys.length
 far:∀c,1≤c→c<ys.length→c≠j→aR ys ((c-1)/2)≤aR ys c
 near:∀c,1≤c→c<ys.length→(c-1)/2=j→1≤j→aR ys ((j-1)/2)≤aR ys c
theorem Kd {xs:List Int}{x:Int}(h:eI xs xs.length):ux (xs++[x]) xs.length:=by
 have e:∀k,k<xs.length→aR (xs++[x]) k=aR xs k:=fun k hk=>by simp[aR,List.getD,List.getElem?_append_left hk]
 refine⟨by simp,fun c h1 h2 h3=> ?_,fun c h1 h2 h3 h4=> ?_⟩
 ·simp at h2
  rw[e _ (by omega),e _ (by omega)]
  exact h c h1 (by omega)
 ·simp at h2;omega
theorem Fx {ys:List Int}{j:Nat}(h:ux ys j)(hs:j=0∨¬aR ys j<aR ys ((j-1)/2)):eI ys ys.length:=by
 intro c h1 h2
 by_cases hc:c=j
 ·subst hc
  rcases hs with hs|hs
  ·omega
  ·omega
 ·exact h.far c h1 h2 hc
theorem Ng {ys:List Int}{j:Nat}(h:ux ys j)(hj:1≤j)(hs:aR ys j<aR ys ((j-1)/2)):ux (ja ys ((j-1)/2) j) ((j-1)/2):=by
 have aT:=h.lt
 have hi:(j-1)/2<ys.length:=by omega
 have e:=jE hi aT
 refine⟨by rw[cN];exact hi,fun c h1 h2 h3=> ?_,fun c h1 h2 h3 h4=> ?_⟩
 ·rw[cN]at h2
  rw[e,e]
  by_cases MA:c=j
  ·subst MA
   rw[if_neg (by omega),if_pos rfl,if_pos rfl];omega
  ·rw[if_neg MA,if_neg h3]
   by_cases hp:(c-1)/2=j
   ·rw[if_pos hp];exact h.near c h1 h2 hp hj
   ·rw[if_neg hp]
    have hf:=h.far c h1 h2 MA
    by_cases Zq:(c-1)/2=(j-1)/2
    ·rw[if_pos Zq];rw[Zq]at hf;omega
    ·rw[if_neg Zq];exact hf
 ·rw[cN]at h2
  have Zr:aR ys (((j-1)/2-1)/2)≤aR ys ((j-1)/2):=h.far _ h4 hi (by omega)
  rw[e,e]
  rw[if_neg (show((j-1)/2-1)/2≠j by omega),if_neg (show((j-1)/2-1)/2≠(j-1)/2 by omega)]
  by_cases MA:c=j
  ·rw[if_pos MA];exact Zr
  ·rw[if_neg MA,if_neg (by omega)]
   have hf:=h.far c h1 h2 MA
   rw[h3]at hf;omega
structure nD(ys:List Int)(i n:Nat):Prop where
 le:n≤ys.length
 far:∀c,1≤c→c<n→(c-1)/2≠i→aR ys ((c-1)/2)≤aR ys c
 near:∀c,1≤c→c<n→(c-1)/2=i→1≤i→aR ys ((i-1)/2)≤aR ys c
theorem nF {ys:List Int}{i n:Nat}(h:nD ys i n)(hs:∀c,1≤c→c<n→(c-1)/2=i→aR ys i≤aR ys c):eI ys n:=by
 intro c h1 h2
 by_cases hc:(c-1)/2=i
 ·rw[hc];exact hs c h1 h2 hc
 ·exact h.far c h1 h2 hc
theorem rr {ys:List Int}{i n j:Nat}(h:nD ys i n)(Za:1≤j)(TB:j<n)(SF:(j-1)/2=i)(hs:aR ys j<aR ys i)(ho:∀c,1≤c→c<n→(c-1)/2=i→aR ys j≤aR ys c):nD (ja ys i j) j n:=by
 have hle:=h.le
 have e:=jE (ys:=ys) (i:=i) (j:=j) (by omega) (by omega)
 refine⟨by rw[cN];exact hle,fun c h1 h2 h3=> ?_,fun c h1 h2 h3 h4=> ?_⟩
 ·rw[e,e]
  by_cases hp:(c-1)/2=i
  ·rw[if_neg (by omega),if_pos hp]
   by_cases MA:c=j
   ·rw[if_pos MA];omega
   ·rw[if_neg MA,if_neg (by omega)];exact ho c h1 h2 hp
  ·rw[if_neg (by omega),if_neg hp]
   rw[if_neg (show c≠j by rintro rfl;exact hp SF)]
   by_cases UH:c=i
   ·rw[if_pos UH]
    have h5:=h.near j Za TB SF (by omega)
    rw[UH];exact h5
   ·rw[if_neg UH];exact h.far c h1 h2 hp
 ·rw[e,e,SF,if_neg (by omega),if_pos rfl,if_neg (by omega),if_neg (by omega)]
  have:=h.far c h1 h2 (by omega)
  rw[h3]at this;exact this
theorem DI {ys:List Int}{n:Nat}(h:eI ys n):∀c,c<n→aR ys 0≤aR ys c:=by
 intro c
 induction c using Nat.strongRecOn with
 |ind c ih=>
  intro hc
  rcases Nat.eq_zero_or_pos c with h0|h0
  ·subst h0;omega
  ·have:=h c h0 hc
   have:=ih ((c-1)/2) (by omega) (by omega)
   omega
theorem DJ {xs:List Int}{n:Nat}(h:eI xs xs.length)(hn:xs.length=n+1):nD (ja xs 0 n) 0 n:=by
 have e:=jE (ys:=xs) (i:=0) (j:=n) (by omega) (by omega)
 refine⟨by rw[cN];omega,fun c h1 h2 h3=> ?_,fun c h1 h2 h3 h4=>by omega⟩
 rw[e,e,if_neg (by omega),if_neg (by omega),if_neg (by omega),if_neg (by omega)]
 exact h c h1 (by omega)
theorem eI.take {ys:List Int}{n:Nat}(h:eI ys n)(hn:n≤ys.length):eI (ys.take n) (ys.take n).length:=by
 rw[List.length_take,Nat.min_eq_left hn]
 intro c h1 h2
 have e:∀k,k<n→aR (ys.take n) k=aR ys k:=fun k hk=>by simp[aR,List.getD,List.getElem?_take,hk]
 rw[e _ (by omega),e _ h2];exact h c h1 h2
theorem G5 {ys:List Int}{n:Nat}(h:ys.length=n+1):ys=ys.take n++[aR ys n]:=by
 have h1:=List.take_append_drop n ys
 have h2:ys.drop n=[aR ys n]:=by
  rw[List.drop_eq_getElem_cons (by omega),List.drop_of_length_le (by omega)]
  have:=xq (ys:=ys) (k:=n) (by omega)
  rw[List.getElem?_eq_getElem (by omega)]at this
  simpa using this
 rw[h2]at h1;exact h1.symm
end Mk
end Go.Proofs.YtlkjnefenialbaaGreatDoor
