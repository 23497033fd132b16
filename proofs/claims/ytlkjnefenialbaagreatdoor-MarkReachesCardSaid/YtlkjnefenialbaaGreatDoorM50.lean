/- What a set owns; no condition beyond each theorem's own. -/
import Derived.Test.YtlkjnefenialbaaGreatDoorM40
import Derived.Shelf.SlIterI.Nil
set_option linter.unusedVariables false
set_option linter.unusedSimpArgs false
set_option maxHeartbeats 8000000
set_option maxRecDepth 100000
namespace Go.Proofs.YtlkjnefenialbaaGreatDoor
open Go.RowKit Go.Maps Go.Sort Go.Shelf
theorem B4 {S ss:List Int}(hp:ss.Perm S)(hn:S.Nodup):Mk.gj (ss.mergeSort (fun x y=>decide (x≤y)))∧∀x,x∈ss.mergeSort (fun x y=>decide (x≤y))↔x∈S:=by
 have tr:∀a b c:Int,(decide (a≤b))=true→(decide (b≤c))=true→(decide (a≤c))=true:=fun a b c h1 h2=>by simp only[decide_eq_true_eq]at*;exact Int.le_trans h1 h2
 have tot:∀a b:Int,(decide (a≤b)||decide (b≤a))=true:=fun a b=>by simp only[Bool.or_eq_true,decide_eq_true_eq];exact Int.le_total a b
 have h1:=List.pairwise_mergeSort (le:=fun x y:Int=>decide (x≤y)) tr tot ss
 have h2:=(List.mergeSort_perm ss (fun x y=>decide (x≤y))).trans hp
 have h3:(ss.mergeSort (fun x y=>decide (x≤y))).Nodup:=h2.nodup_iff.2 hn
 refine⟨?_,fun x=>h2.mem_iff⟩
 refine(List.Pairwise.and h1 h3).imp ?_
 intro a b⟨hab,hne⟩
 simp only[decide_eq_true_eq]at hab
 have:a≠b:=hne
 omega
theorem K7 {w:World}{b:Nat}{S:List Int}(h:Mk.cL w b S)(hS:∀x∈S,1≤x∧x≤100000)(hl:S.length≤maxLen):
 ∃D0:DataW Unit,w.ownsMap Tryz.prog 3 (plainElem Tryz.prog 4) b S.length D0∧(intKeys D0).Perm S∧Maps.size D0=S.length:=by
 obtain⟨es,clk,⟨hb,h1,h2,h3⟩,rfl⟩:=h
 have hrd:∀p∈es,Go.WideElems.rd (H:=Unit) Tryz.prog 3 (plainElem Tryz.prog 4) (Mk.nU p)=some (.int .i64 p.1, .lit (.bool true)):=fun p hp=>by
  have hb:=hS p.1 (List.mem_map_of_mem hp)
  have hw:(Lit.int .i64 p.1).wf=true:=by
   simp only[Lit.wf,Bool.and_eq_true,decide_eq_true_eq]
   have e1:IntKind.i64.min= -9223372036854775808:=by decide
   have e2:IntKind.i64.max=9223372036854775807:=by decide
   rw[e1,e2]
   omega
  exact Go.WideElems.rd_mk (keyOf_int_mk Tryz.underlying3 hw) (plainElem_bool Tryz.underlying4 true)
 have Oc:(es.map Mk.nU).map (Go.WideElems.rg (H:=Unit) Tryz.prog 3 (plainElem Tryz.prog 4))=es.map (fun p=>(Lit.int .i64 p.1,DataW.lit (.bool true))):=by
  rw[List.map_map]
  exact List.map_congr_left fun p hp=>Go.WideElems.rg_of (hrd p hp)
 have hk:(es.map Mk.nU).map (·.key)=es.map (fun p=>Value.int .i64 p.1):=by rw[List.map_map];rfl
 have zP:(es.map Mk.nU).map (·.born)=es.map (·.2):=by rw[List.map_map];rfl
 refine⟨_,⟨(es.map Mk.nU).toArray,clk,hb,⟨by simpa using hl,⟨?_,?_,?_⟩,?_⟩,by simp,rfl⟩,?_,?_⟩
 ·intro x hx
  obtain⟨p,hp,rfl⟩:=List.mem_map.1 (show x∈es.map Mk.nU from by simpa using hx)
  exact h3 p hp
 ·show((es.map Mk.nU).map (·.born)).Nodup
  rw[zP];exact h2
 ·show((es.map Mk.nU).map (·.key)).Nodup
  rw[hk]
  have:es.map (fun p=>Value.int .i64 p.1)=(es.map (·.1)).map (fun x=>Value.int .i64 x):=by rw[List.map_map];rfl
  rw[this]
  exact List.Pairwise.map _ (fun a b hab e=>hab (by simpa using e)) h1
 ·intro x hx
  obtain⟨p,hp,rfl⟩:=List.mem_map.1 (show x∈es.map Mk.nU from by simpa using hx)
  exact⟨_,hrd p hp⟩
 ·show(((((es.map Mk.nU).map _).foldr DataW.insert [])).map fun p=>intOf p.1).Perm _
  refine((Go.WideShapes.sorted_perm _).map _).trans ?_
  rw[Oc,List.map_map]
  exact List.Perm.of_eq rfl
 ·rw[Maps.size_eq]
  have:=(Go.WideShapes.sorted_perm ((es.map Mk.nU).map (Go.WideElems.rg (H:=Unit) Tryz.prog 3 (plainElem Tryz.prog 4)))).length_eq
  simpa using this
end Go.Proofs.YtlkjnefenialbaaGreatDoor
