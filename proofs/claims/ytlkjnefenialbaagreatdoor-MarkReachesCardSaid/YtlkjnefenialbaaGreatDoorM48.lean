/- A drawn region around one call; no condition beyond each theorem's own. -/
import Derived.Test.YtlkjnefenialbaaGreatDoorM01
import Derived.StillTail
import Derived.BigQuiet
import Derived.Deep.Quiet
set_option linter.unusedVariables false
set_option linter.unusedSimpArgs false
set_option maxHeartbeats 8000000
set_option maxRecDepth 100000
namespace Go.Proofs.YtlkjnefenialbaaGreatDoor
open Go Go.RowKit
section
variable {P:Program}{md:Region.Mode}{hd:List Oper}{last:Oper}{Q:Exit→Act→World→Prop}
def Qt(P:Program)(last:Oper)(Q:Exit→Act→World→Prop):Exit→Act→World→Prop
 | .normal,a,w=>last.wp P a w (fun a' w'=>Q .normal a' w') Q
 |e,a,w=>Q e a w
theorem Tz {o:Oper}{a:Act}{w:World}{K:Act→World→Prop}(hh:o.wp P a w K (Qt P last Q)):o.wp P a w K Q:=by
 unfold Oper.wp at*
 generalize(execOp a.eval o).run P w=r at*
 cases r with
 |ok n w'=>
  cases n<;>simp only[Oper.upon]at hh⊢<;>
   first
    |exact hh
    |exact Calls.mono hh (fun e w'' he=>by cases e<;>exact he)
 |halt x w'=>cases x<;>simp only[Oper.upon]at hh⊢<;>exact hh
theorem sj {o:Oper}(h:o.guard=none)(y:Nat→Option Bool):Region.wanted o y=true:=by simp[Region.wanted,h]
theorem OQ {i:Nat}(hi:i<hd.length):(hd++[last]).toArray[i]? =hd.toArray[i]? :=by
 simp[List.getElem?_append_left hi]
theorem FL:(hd++[last]).toArray[hd.length]? =some last:=by simp
theorem jo {listed:Array Bool}{n i:Nat}(hs:listed.size=n)(hi:i<n)(d:Bool):(listed.push false).getD i d=listed.getD i d:=by
 have h:i<listed.size:=by omega
 simp[Array.getElem?_push,h,show i≠listed.size from by omega]
theorem Ib {listed:Array Bool}{n:Nat}(hs:listed.size=n)(d:Bool):(listed.push false).getD n d=false:=by
 subst hs;simp
theorem xR {listed:Array Bool}{i:Nat}(hi:i<listed.size)(d d':Bool):listed.getD i d=listed.getD i d':=by
 simp[hi]
theorem uY {listed:Array Bool}(cB:listed.size=hd.length)(gW:∀i o,hd[i]? =some o→∀e∈o.after,Region.binds md e=true→e.on<i){i:Nat}(hi:i<hd.length):
 i∈Region.ready md (hd++[last]).toArray (listed.push false)↔i∈Region.ready md hd.toArray listed:=by
 rw[mem_ready,mem_ready,OQ hi,jo cB hi]
 refine and_congr Iff.rfl ⟨fun⟨o,ho,h⟩=>⟨o,ho,fun e he hb=> ?_⟩,fun⟨o,ho,h⟩=>⟨o,ho,fun e he hb=> ?_⟩⟩
 ·have aT:=gW i o (by simpa using ho) e he hb
  rw[←jo cB (by omega)];exact h e he hb
 ·have aT:=gW i o (by simpa using ho) e he hb
  rw[jo cB (by omega)];exact h e he hb
theorem Et {listed:Array Bool}(cB:listed.size=hd.length)(gW:∀i o,hd[i]? =some o→∀e∈o.after,Region.binds md e=true→e.on<i)(hr:Region.ready md hd.toArray listed=[]):∀i,i<hd.length→listed.getD i true=true:=by
 intro i
 induction i using Nat.strongRecOn with
 |_ i ih=>
  intro hi
  cases hc:listed.getD i true with
  |true=>rfl
  |false=>
   have:i∈Region.ready md hd.toArray listed:=by
    obtain⟨o,ho⟩:∃o,hd[i]? =some o:=⟨_,List.getElem?_eq_getElem hi⟩
    refine mem_ready.2 ⟨hc,o,by simpa using ho,fun e he hb=> ?_⟩
    have aT:=gW i o ho e he hb
    rw[xR (by omega) false true]
    exact ih e.on aT (by omega)
   rw[hr]at this;cases this
theorem Eu {listed:Array Bool}(cB:listed.size=hd.length)(ha:∀i,i<hd.length→listed.getD i true=true):Region.ready md (hd++[last]).toArray ((listed.push false).setIfInBounds hd.length true)=[]:=by
 rw[List.eq_nil_iff_forall_not_mem]
 intro j hj
 obtain⟨h1,o,ho,_⟩:=mem_ready.1 hj
 have v8:j<(hd++[last]).toArray.size:=(Array.getElem?_eq_some_iff.1 ho).1
 simp at v8
 by_cases TB:j=hd.length
 ·subst TB
  have:hd.length<(listed.push false).size:=by simp[cB]
  simp[cB]at h1
 ·rw[getD_set_ne true (by omega),jo cB (by omega),ha j (by omega)]at h1
  cases h1
theorem Ew {listed:Array Bool}(cB:listed.size=hd.length)(qB:∀e∈last.after,Region.binds md e=true→e.on<hd.length)(ha:∀i,i<hd.length→listed.getD i true=true):hd.length∈Region.ready md (hd++[last]).toArray (listed.push false):=by
 refine mem_ready.2 ⟨Ib cB _,last,FL,fun e he hb=> ?_⟩
 have aT:=qB e he hb
 rw[jo cB aT,xR (by omega) false true]
 exact ha _ aT
theorem BY(F1:last.guard=none){listed:Array Bool}(cB:listed.size=hd.length)(ha:∀i,i<hd.length→listed.getD i true=true){fuel:Nat}{a:Act}{w:World}(h:Qt P last Q .normal a w):
 wpOp P (hd++[last]).toArray Q hd.length (wpAny P md (hd++[last]).toArray Q fuel ((listed.push false).setIfInBounds hd.length true)) a w:=by
 unfold wpOp
 rw[FL]
 simp only[sj F1,if_true]
 refine .inl (Oper.wp_mono (fun a' w' hq=> ?_) h)
 have hn:=Eu (md:=md) (last:=last) cB ha
 cases fuel with
 |zero=>exact⟨hn,hq⟩
 |succ f=>exact⟨fun _=>hq,fun i hi=>by rw[hn]at hi;cases hi⟩
theorem Ic(hg:∀o∈hd,o.guard=none)(F1:last.guard=none)(hs:Region.sinkB md (hd++[last]).toArray hd.length=true)
 (gW:∀i o,hd[i]? =some o→∀e∈o.after,Region.binds md e=true→e.on<i)(qB:∀e∈last.after,Region.binds md e=true→e.on<hd.length):
 ∀(fuel:Nat)(listed:Array Bool)(a:Act)(w:World),HeadInv md (hd++[last]).toArray hd.length (listed.push false)→listed.size=hd.length→
  wpAny P md hd.toArray (Qt P last Q) fuel listed a w→wpAny P md (hd++[last]).toArray Q (fuel+1) (listed.push false) a w:=by
 have hc:Region.chainB md (hd++[last]).toArray hd.length=true:=by
  unfold Region.chainB
  rw[List.all_eq_true]
  intro t ht
  have:t<hd.length+1:=by simpa using ht
  simp only[Bool.or_eq_true,decide_eq_true_eq]
  exact .inl (by omega)
 have hn:hd.length<(hd++[last]).toArray.size:=by simp
 have full:∀(listed:Array Bool),HeadInv md (hd++[last]).toArray hd.length (listed.push false)→listed.size=hd.length→hd.length∈Region.ready md (hd++[last]).toArray (listed.push false)→∀i,i<hd.length→listed.getD i true=true:=by
  intro listed inv cB hr i hi
  cases UH:listed.getD i true with
  |true=>rfl
  |false=>exact absurd hr (tail_waits hs hc hn inv _ i rfl hi (by rw[jo cB hi];exact UH) hd.length (Nat.le_refl _))
 have some_:∀(listed:Array Bool),listed.size=hd.length→Region.ready md (hd++[last]).toArray (listed.push false)≠[]:=by
  intro listed cB he
  have hh:Region.ready md hd.toArray listed=[]:=by
   rw[List.eq_nil_iff_forall_not_mem]
   intro j hj
   obtain⟨_,o,ho,_⟩:=mem_ready.1 hj
   have v8:j<hd.length:=by simpa using(Array.getElem?_eq_some_iff.1 ho).1
   have:=(uY (last:=last) cB gW v8).2 hj
   rw[he]at this;cases this
  have:=Ew cB qB (Et cB gW hh)
  rw[he]at this;cases this
 have Mj:∀(listed:Array Bool)(i:Nat),i∈Region.ready md (hd++[last]).toArray (listed.push false)→i<hd.length∨i=hd.length:=by
  intro listed i hi
  obtain⟨_,o,ho,_⟩:=mem_ready.1 hi
  have:i<hd.length+1:=by simpa using(Array.getElem?_eq_some_iff.1 ho).1
  omega
 intro fuel
 induction fuel with
 |zero=>
  intro listed a w inv cB h
  refine⟨fun he=>absurd he (some_ listed cB),fun i hi=> ?_⟩
  rcases Mj listed i hi with aT|rfl
  ·have:=(uY (last:=last) cB gW aT).1 hi
   rw[h.1]at this;cases this
  ·exact BY F1 cB (full listed inv cB hi) h.2
 |succ fuel ih=>
  intro listed a w inv cB h
  refine⟨fun he=>absurd he (some_ listed cB),fun i hi=> ?_⟩
  rcases Mj listed i hi with aT|rfl
  ·have h1:=h.2 i ((uY (last:=last) cB gW aT).1 hi)
   have inv2:=inv.set hi aT
   have e:(listed.push false).setIfInBounds i true=(listed.setIfInBounds i true).push false:=by
    apply Array.ext_getElem?
    intro j
    simp only[Array.getElem?_setIfInBounds,Array.getElem?_push,Array.size_push,Array.size_setIfInBounds]
    grind
   rw[e]at inv2⊢
   obtain⟨o,ho⟩:∃o,hd[i]? =some o:=⟨_,List.getElem?_eq_getElem aT⟩
   have ei:hd.toArray[i]? =some o:=by simpa using ho
   have fK:(hd++[last]).toArray[i]? =some o:=(OQ aT).trans ei
   have hw:=hg o (List.mem_of_getElem? ho)
   unfold wpOp at h1⊢
   simp only[ei,fK,sj hw,if_true]at h1⊢
   refine h1.imp (fun h2=>Oper.wp_mono (fun a' w' h3=>ih _ a' w' inv2 (by simpa using cB) h3) (Tz h2)) (fun h2=>⟨h2.1,h2.2⟩)
  ·have ha:=full listed inv cB hi
   have hr:Region.ready md hd.toArray listed=[]:=by
    rw[List.eq_nil_iff_forall_not_mem]
    intro j hj
    obtain⟨h1,o,ho,_⟩:=mem_ready.1 hj
    have v8:j<hd.length:=by simpa using(Array.getElem?_eq_some_iff.1 ho).1
    rw[ha j v8]at h1;cases h1
   exact BY F1 cB ha (h.1 hr)
def BZ(hd:List Oper)(last:Oper):Bool:=
 hd.all (fun o=>o.guard.isNone)&&last.guard.isNone&&Region.sinkB .any (hd++[last]).toArray hd.length&&
 (List.range hd.length).all (fun i=>match hd[i]? with|some o=>o.after.all (fun e=> !Region.binds .any e||decide (e.on<i))|none=>true)&&
 last.after.all (fun e=> !Region.binds .any e||decide (e.on<hd.length))
theorem rD(hB:BZ hd last=true){fuel:Nat}{a:Act}{w:World}(h:wpAny P .any hd.toArray (Qt P last Q) fuel (Array.replicate hd.length false) a w):wpAny P .any (hd++[last]).toArray Q (fuel+1) (Array.replicate (hd++[last]).length false) a w:=by
 unfold BZ at hB
 simp only[Bool.and_eq_true]at hB
 obtain⟨⟨⟨⟨b1,b2⟩,b3⟩,b4⟩,b5⟩:=hB
 have hg:∀o∈hd,o.guard=none:=fun o ho=>by simpa using List.all_eq_true.1 b1 o ho
 have F1:last.guard=none:=by simpa using b2
 have gW:∀i o,hd[i]? =some o→∀e∈o.after,Region.binds .any e=true→e.on<i:=fun i o ho e he hb=>by
  have h1:=List.all_eq_true.1 b4 i (List.mem_range.2 (List.getElem?_eq_some_iff.1 ho).1)
  rw[ho]at h1
  have h2:=Array.all_eq_true_iff_forall_mem.1 h1 e he
  simpa [hb]using h2
 have qB:∀e∈last.after,Region.binds .any e=true→e.on<hd.length:=fun e he hb=>by
  have h2:=Array.all_eq_true_iff_forall_mem.1 b5 e he
  simpa [hb]using h2
 have e:(Array.replicate hd.length false).push false=Array.replicate (hd++[last]).length false:=by simp[Array.replicate_succ]
 have qa9:HeadInv .any (hd++[last]).toArray hd.length ((Array.replicate hd.length false).push false):=by
  rw[e]
  exact⟨by simp,fun j oj _ hl=>(by rw[getD_replicate_false]at hl;cases hl),fun t _ ht=>getD_in (by simpa using ht) (getD_replicate_false _ _)⟩
 have oY:=Ic hg F1 b3 gW qB _ _ a w qa9 (by simp) h
 rw[e]at oY
 exact oY
theorem uZ {id:Nat}{a:Act}{w:World}{c p s:Oper}{l:List Oper}(n:Nat)(hl:l=((l.take n++[c])++[p])++[s])(hm:P.follows .mixedOrders=true)(hB1:BZ (l.take n) c=true)(hB2:BZ (l.take n++[c]) p=true)(hB3:BZ ((l.take n++[c])++[p]) s=true)(hB:Region.lexB .any (l.take n).toArray=true)
 (h:∀(ι:Type) [Nonempty ι](F:ι→World),(∀i,Below w.heap.size w (F i))→(∀W,Below w.heap.size w W→∃j,W=F j)→wpQuiet P (l.take n).toArray (fun w'=>∃n,w'=F n) (fun a'=>∀w',(∃n,w'=F n)→c.wp P a' w' (fun a1 w1=>p.wp P a1 w1 (fun a2 w2=>s.wp P a2 w2 (fun a3 w3=>Q .normal a3 w3) Q) (Qt P s Q)) (Qt P p (Qt P s Q))) (l.take n) a):(Code.region id l.toArray true).wp P Q a w:=by
 haveI:Nonempty {W:World//Below w.heap.size w W}:=⟨⟨_,Below.refl _ w⟩⟩
 have hq:=h {W:World//Below w.heap.size w W} Subtype.val (fun i=>i.2) (fun W hW=>⟨⟨W,hW⟩,rfl⟩)
 generalize l.take n=hd at*
 subst hl
 simp only[Region.lexB,Bool.and_eq_true]at hB
 have qba:=wpAnyQ_lex (md:= .any) hB.1 hd 0 (Array.replicate hd.length false) a (by simp) (by simpa using hB.2) hq
 have qbb:=wpAny_of_quiet (Q':=Qt P c (Qt P p (Qt P s Q))) (fun _ w' hw' h=>h w' hw') _ _ _ (w.drew) ⟨⟨_,(Below.refl _ w).drew⟩,rfl⟩ qba
 have h1:=rD hB3 (rD hB2 (rD hB1 qbb))
 refine wp_region_any hm ?_
 have es:(((hd++[c])++[p])++[s]).toArray.size=(((hd++[c])++[p])++[s]).length:=by simp
 rw[es]
 have ef:(((hd++[c])++[p])++[s]).length=hd.length+1+1+1:=by simp
 rw[show hd.length+1+1+1=(((hd++[c])++[p])++[s]).length from ef.symm]at h1
 exact h1
end
end Go.Proofs.YtlkjnefenialbaaGreatDoor
