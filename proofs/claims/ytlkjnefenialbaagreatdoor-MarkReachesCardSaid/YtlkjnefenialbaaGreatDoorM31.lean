/- Maps with keys; no condition beyond each theorem's own. -/
import Derived.Test.YtlkjnefenialbaaGreatDoorM16
import Derived.Test.YtlkjnefenialbaaGreatDoorProg
import Derived.Maps.Own
import Derived.DeepKeys3
set_option linter.unusedVariables false
set_option linter.unusedSimpArgs false
set_option maxHeartbeats 8000000
set_option maxRecDepth 100000
namespace Go.Proofs.YtlkjnefenialbaaGreatDoor
open Go.RowKit
def lF {α:Type}(K:α→Value)(p:α×Value×Nat):MapEntry:=⟨K p.1,p.2.1,p.2.2⟩
theorem kL {α:Type} [DecidableEq α](K:α→Value)(td:TypeDesc)(hK:∀x y,Instr.sameNow td (K x) (K y)=some (decide (x=y)))(x:α):∀(es:List (α×Value×Nat))(i:Nat),Instr.findNow td (K x) (es.map (lF K)) i=some ((es.findIdx? fun p=>decide (x=p.1)).map fun j=>(i+j,(es[j]?.map (·.2.1)).getD undef))
 |[],i=>by simp[Instr.findNow]
 |p::r,i=>by
  simp only[List.map_cons,Instr.findNow]
  rw[show(lF K p).key=K p.1 from rfl,hK]
  by_cases h:x=p.1
  ·simp[h,List.findIdx?_cons,lF]
  ·simp only[h,decide_false]
   rw[kL K td hK x r (i+1)]
   simp only[List.findIdx?_cons,h,decide_false,Bool.false_eq_true,if_false,Option.map_map]
   congr 2
   funext j
   simp
   omega
theorem kM(x y:ByteArray):Instr.sameNow .string (.string x) (.string y)=some (decide (x=y)):=by
 simp only[Instr.sameNow]
 congr 1
 cases x with
 |mk a=>
  cases y with
  |mk b=>
   have h1:((⟨a⟩:ByteArray)==⟨b⟩)=(a==b):=by first|rfl|simp[BEq.beq]
   rw[h1,Bool.eq_iff_iff]
   simp
theorem uG(x y:Int):Instr.sameNow (.int .i64) (.int .i64 x) (.int .i64 y)=some (decide (x=y)):=by
 simp only[Instr.sameNow,if_true]
 congr 1
section
variable {α:Type} [DecidableEq α](K:α→Value)(td:TypeDesc)(hK:∀x y,Instr.sameNow td (K x) (K y)=some (decide (x=y)))
variable {P:Program}{kt et mt:TypeId}{w:World}{b:Nat}{es:List (α×Value×Nat)}{clk:Nat}
def bA(es:List (α×Value×Nat))(x:α):Option Value:=(es.find? fun p=>decide (x=p.1)).map (·.2.1)
theorem fg(x:α)(es:List (α×Value×Nat)):((es.findIdx? fun p=>decide (x=p.1)).map fun j=>(es[j]?.map (·.2.1)).getD undef)=bA es x:=by
 unfold bA
 induction es with
 |nil=>rfl
 |cons p r ih=>
  by_cases h:x=p.1
  ·simp[List.findIdx?_cons,h]
  ·simp only[List.findIdx?_cons,h,decide_false,Bool.false_eq_true,if_false,List.find?_cons,Option.map_map]
   rw[←ih]
   congr 1
def bq(w:World)(b:Nat)(es:List (α×Value×Nat))(clk:Nat):Prop:=w.heap[b]? =some (.map (es.map (lF K)).toArray clk)
variable(hm:P.underlying mt=some (.map kt et))(hk:P.underlying kt=some td)(hchk:∀(e:Bool)(x:α)(w:World),(Instr.checkKey e 10000 kt (K x)).run P w= .ok () w)
include hK hm hk hchk
theorem bq.lookup(h:bq K w b es clk)(x:α)(v:Value)(hv:bA es x=some v):(Instr.lookup mt (.map (some b)) (K x) false).run P w= .ok v w:=by
 have hf:(Instr.findKey kt (K x) (es.map (lF K)).toArray.toList).run P w= .ok ((es.findIdx? fun p=>decide (x=p.1)).map fun j=>(0+j,(es[j]?.map (·.2.1)).getD undef)) w:=by
  simp only[Instr.findKey,Sem.run_bind,run_underlying hk,Result.andThen_ok]
  rw[kL K td hK x es 0]
  rfl
 simp only[Instr.lookup,Sem.run_bind,run_underlying hm,Result.andThen_ok,MapKept.run_getObj_map h,Sem.run_pure,hchk]
 rw[hf]
 have h2:=fg x es
 rw[hv]at h2
 cases hq:es.findIdx? fun p=>decide (x=p.1)with
 |none=>rw[hq]at h2;cases h2
 |some j=>
  rw[hq]at h2
  simp only[Option.map_some,Option.some.injEq]at h2
  simp[h2]
theorem bq.XX(h:bq K w b es clk)(x:α)(z:Value)(hz:(zeroValue et).run P w= .ok z w)(hv:bA es x=none):(Instr.lookup mt (.map (some b)) (K x) false).run P w= .ok z w:=by
 have hf:(Instr.findKey kt (K x) (es.map (lF K)).toArray.toList).run P w= .ok ((es.findIdx? fun p=>decide (x=p.1)).map fun j=>(0+j,(es[j]?.map (·.2.1)).getD undef)) w:=by
  simp only[Instr.findKey,Sem.run_bind,run_underlying hk,Result.andThen_ok]
  rw[kL K td hK x es 0]
  rfl
 simp only[Instr.lookup,Sem.run_bind,run_underlying hm,Result.andThen_ok,MapKept.run_getObj_map h,Sem.run_pure,hchk]
 rw[hf]
 have h2:=fg x es
 rw[hv]at h2
 cases hq:es.findIdx? fun p=>decide (x=p.1)with
 |some j=>rw[hq]at h2;cases h2
 |none=>simp[hz]
theorem bq.insert(h:bq K w b es clk)(x:α)(v:Value)(hv:bA es x=none):(Instr.mapUpdate mt (.map (some b)) (K x) v).run P w= .ok () (w.putObj b (.map ((es++[(x,v,clk)]).map (lF K)).toArray (clk+1)))∧bq K (w.putObj b (.map ((es++[(x,v,clk)]).map (lF K)).toArray (clk+1))) b (es++[(x,v,clk)]) (clk+1):=by
 have hf:(Instr.findKey kt (K x) (es.map (lF K)).toArray.toList).run P w= .ok ((es.findIdx? fun p=>decide (x=p.1)).map fun j=>(0+j,(es[j]?.map (·.2.1)).getD undef)) w:=by
  simp only[Instr.findKey,Sem.run_bind,run_underlying hk,Result.andThen_ok]
  rw[kL K td hK x es 0]
  rfl
 refine⟨?_,World.putObj_heap_same (Array.getElem?_eq_some_iff.1 h).1⟩
 simp only[Instr.mapUpdate,Sem.run_bind,run_underlying hm,Result.andThen_ok,MapKept.run_getObj_map h,Sem.run_pure,hchk]
 rw[hf]
 have h2:=fg x es
 rw[hv]at h2
 cases hq:es.findIdx? fun p=>decide (x=p.1)with
 |some j=>rw[hq]at h2;cases h2
 |none=>
  have hh:w.heap[b]? =some (.map (es.map (lF K)).toArray clk):=h
  simp[setObj,Sem.run,World.putObj,hh,lF]
end
section
variable {α:Type} [DecidableEq α](K:α→Value)(td:TypeDesc)
variable {P:Program}{kt et mt:TypeId}{w:World}{b:Nat}{es:List (α×Value×Nat)}{clk:Nat}
def uQ(P:Program)(kt:TypeId):Prop:=∀(x:α)(es:List (α×Value×Nat))(w:World),(Instr.findKey kt (K x) (es.map (lF K)).toArray.toList).run P w= .ok ((es.findIdx? fun p=>decide (x=p.1)).map fun j=>(0+j,(es[j]?.map (·.2.1)).getD undef)) w
theorem Hv(hK:∀x y,Instr.sameNow td (K x) (K y)=some (decide (x=y)))(hk:P.underlying kt=some td):uQ K P kt:=fun x es w=>by
 simp only[Instr.findKey,Sem.run_bind,run_underlying hk,Result.andThen_ok]
 rw[kL K td hK x es 0]
 rfl
theorem xJ(hE:∀(x y:α)(w:World),(Op.equal kt (K x) (K y)).run P w= .ok (decide (x=y)) w)(x:α)(w:World):∀(es:List (α×Value×Nat))(i:Nat),(Instr.findAsking kt (K x) (es.map (lF K)) i).run P w= .ok ((es.findIdx? fun p=>decide (x=p.1)).map fun j=>(i+j,(es[j]?.map (·.2.1)).getD undef)) w
 |[],i=>by simp[Instr.findAsking]
 |p::r,i=>by
  simp only[List.map_cons,Instr.findAsking,Sem.run_bind]
  rw[show(lF K p).key=K p.1 from rfl,hE]
  simp only[Result.andThen_ok]
  by_cases h:x=p.1
  ·simp[h,List.findIdx?_cons,lF]
  ·simp only[h,decide_false,Bool.false_eq_true,if_false]
   rw[xJ hE x w r (i+1)]
   simp only[List.findIdx?_cons,h,decide_false,Bool.false_eq_true,if_false,Option.map_map]
   congr 2
   funext j
   simp
   omega
theorem Hw(hN:∀x y,Instr.sameNow td (K x) (K y)=none)(hk:P.underlying kt=some td)(hE:∀(x y:α)(w:World),(Op.equal kt (K x) (K y)).run P w= .ok (decide (x=y)) w):uQ K P kt:=fun x es w=>by
 simp only[Instr.findKey,Sem.run_bind,run_underlying hk,Result.andThen_ok]
 cases es with
 |nil=>simp[Instr.findNow]
 |cons p r=>
  simp only[List.map_cons,Instr.findNow]
  rw[show(lF K p).key=K p.1 from rfl,hN]
  have h:=xJ K hE x w (p::r) 0
  simp only[List.map_cons]at h
  exact h
variable(hm:P.underlying mt=some (.map kt et))(hF:uQ K P kt)(hchk:∀(e:Bool)(x:α)(w:World),(Instr.checkKey e 10000 kt (K x)).run P w= .ok () w)
include hm hF hchk
theorem bq.OP(h:bq K w b es clk)(x:α)(v:Value)(hv:bA es x=some v):(Instr.lookup mt (.map (some b)) (K x) true).run P w= .ok (.tuple #[v, .bool true]) w:=by
 have hf:=hF x es w
 simp only[Instr.lookup,Sem.run_bind,run_underlying hm,Result.andThen_ok,MapKept.run_getObj_map h,Sem.run_pure,hchk]
 rw[hf]
 have h2:=fg x es
 rw[hv]at h2
 cases hq:es.findIdx? fun p=>decide (x=p.1)with
 |none=>rw[hq]at h2;cases h2
 |some j=>
  rw[hq]at h2
  simp only[Option.map_some,Option.some.injEq]at h2
  simp[h2]
theorem bq.Ts(h:bq K w b es clk)(x:α)(v:Value)(hv:bA es x=some v):(Instr.lookup mt (.map (some b)) (K x) false).run P w= .ok v w:=by
 have hf:=hF x es w
 simp only[Instr.lookup,Sem.run_bind,run_underlying hm,Result.andThen_ok,MapKept.run_getObj_map h,Sem.run_pure,hchk]
 rw[hf]
 have h2:=fg x es
 rw[hv]at h2
 cases hq:es.findIdx? fun p=>decide (x=p.1)with
 |none=>rw[hq]at h2;cases h2
 |some j=>
  rw[hq]at h2
  simp only[Option.map_some,Option.some.injEq]at h2
  simp[h2]
theorem bq.Tt(h:bq K w b es clk)(x:α)(z:Value)(hz:(zeroValue et).run P w= .ok z w)(hv:bA es x=none):(Instr.lookup mt (.map (some b)) (K x) true).run P w= .ok (.tuple #[z, .bool false]) w:=by
 have hf:=hF x es w
 simp only[Instr.lookup,Sem.run_bind,run_underlying hm,Result.andThen_ok,MapKept.run_getObj_map h,Sem.run_pure,hchk]
 rw[hf]
 have h2:=fg x es
 rw[hv]at h2
 cases hq:es.findIdx? fun p=>decide (x=p.1)with
 |some j=>rw[hq]at h2;cases h2
 |none=>simp[hz]
theorem bq.Qb(h:bq K w b es clk)(x:α)(v:Value)(hv:bA es x=none):∃w',(Instr.mapUpdate mt (.map (some b)) (K x) v).run P w= .ok () w'∧bq K w' b (es++[(x,v,clk)]) (clk+1)∧ag (fun i=>i=b) w w':=by
 have hf:=hF x es w
 refine⟨w.putObj b (.map ((es++[(x,v,clk)]).map (lF K)).toArray (clk+1)),?_,World.putObj_heap_same (Array.getElem?_eq_some_iff.1 h).1,(ag.refl (fun i=>i=b) w).putObj (.inl rfl) _⟩
 simp only[Instr.mapUpdate,Sem.run_bind,run_underlying hm,Result.andThen_ok,MapKept.run_getObj_map h,Sem.run_pure,hchk]
 rw[hf]
 have h2:=fg x es
 rw[hv]at h2
 cases hq:es.findIdx? fun p=>decide (x=p.1)with
 |some j=>rw[hq]at h2;cases h2
 |none=>
  have hh:w.heap[b]? =some (.map (es.map (lF K)).toArray clk):=h
  simp[setObj,Sem.run,World.putObj,hh,lF]
end
theorem xK {α:Type} [DecidableEq α]{es:List (α×Value×Nat)}{x:α}{v:Value}{clk:Nat}(y:α)(h:bA es x=none):bA (es++[(x,v,clk)]) y=if y=x then some v else bA es y:=by
 unfold bA at h⊢
 rw[List.find?_append]
 by_cases e:y=x
 ·subst e
  rw[Option.map_eq_none_iff]at h
  rw[h];simp
 ·cases hq:es.find? fun p=>decide (y=p.1)<;>simp[e]
end Go.Proofs.YtlkjnefenialbaaGreatDoor
