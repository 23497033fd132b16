/- A part of the proof; no condition. -/
import Derived.Test.YtepaofffbkfodaaGreatDoorM01
import Derived.StillTail
set_option linter.all false
set_option maxHeartbeats 8000000
set_option maxRecDepth 100000
namespace Go.Proofs.YtepaofffbkfodaaGreatDoor
open Go Go.RowKit
variable{w:ax}{i:Nat}
section
variable {P:Program}{md:Region.Mode}{hd:List Oper}{last:Oper}{Q:Exit->Act->ax->Prop}
def Qt(P:Program)(last:Oper)(Q:Exit->Act->ax->Prop):Exit->Act->ax->Prop
 | .normal,a,w=>last.wp P a w (λa' w'=>Q .normal a' w') Q
 |e,a,w=>Q e a w
def YZ {o:Oper}{a:Act}{K:Act->ax->Prop}(hh:o.wp P a w K (Qt P last Q)):o.wp P a w K Q:=by
 unfold Oper.wp at*;generalize(execOp a.eval o).run P w=r at*;cases r with
 |ok n w'=>
  cases n<;>simp only[Oper.upon]at hh⊢<;>
   first
    |exact hh
    |exact Calls.mono hh (λe w'' he=>by cases e<;>exact he)
 |halt x w'=>cases x<;>simp only[Oper.upon]at hh⊢<;>exact hh
def uX {o:Oper}(h:o.guard=none)(y:Nat->Option Bool):Region.wanted o y=true:=by simp[Region.wanted,h]
def Tr(hi:i<hd.length):(hd++[last]).toArray[i]? =hd.toArray[i]? :=by
 simp[Qbc hi]
def JO:(hd++[last]).toArray[hd.length]? =some last:=by simp
def kR {listed:Array Bool}{n:Nat}(hs:listed.size=n)(hi:i<n)(d:Bool):(listed.push false).getD i d=listed.getD i d:=by
 have h:i<listed.size:=by omega
 simp[Array.getElem?_push,h,show i≠listed.size from by omega]
def LX {listed:Array Bool}{n:Nat}(hs:listed.size=n)(d:Bool):(listed.push false).getD n d=false:=by
 subst hs;simp
def AM {listed:Array Bool}(hi:i<listed.size)(d d':Bool):listed.getD i d=listed.getD i d':=by
 simp[hi]
def yj {listed:Array Bool}(hsz:listed.size=hd.length)(iK:∀i o,hd[i]? =some o->∀e∈o.after,Region.binds md e=true->e.on<i)(hi:i<hd.length):
 i∈Region.ready md (hd++[last]).toArray (listed.push false)↔i∈Region.ready md hd.toArray listed:=by
 rw[mem_ready,mem_ready,Tr hi,kR hsz hi];refine and_congr Iff.rfl ⟨λ⟨o,ho,h⟩=>⟨o,ho,λe he hb=> ?_⟩,λ⟨o,ho,h⟩=>⟨o,ho,λe he hb=> ?_⟩⟩
 .have bH:=iK i o (by simpa using ho) e he hb;rw[<-kR hsz (by omega)];exact h e he hb
 .have bH:=iK i o (by simpa using ho) e he hb;rw[kR hsz (by omega)];exact h e he hb
def Ig {listed:Array Bool}(hsz:listed.size=hd.length)(iK:∀i o,hd[i]? =some o->∀e∈o.after,Region.binds md e=true->e.on<i)(hr:Region.ready md hd.toArray listed=[]):∀i,i<hd.length->listed.getD i true=true:=by
 intro i;induction i using Nat.strongRecOn with
 |_ i ih=>
  intro hi;cases hc:listed.getD i true with
  |true=>rfl
  |false=>
   have:i∈Region.ready md hd.toArray listed:=by
    have⟨o,ho⟩:=eG hd i hi;refine mem_ready.2 ⟨hc,o,by simpa using ho,λe he hb=> ?_⟩;have bH:=iK i o ho e he hb;rw[AM (by omega) false true];exact ih e.on bH (by omega)
   rw[hr]at this;cases this
def Ih {listed:Array Bool}(hsz:listed.size=hd.length)(ha:∀i,i<hd.length->listed.getD i true=true):Region.ready md (hd++[last]).toArray ((listed.push false).setIfInBounds hd.length true)=[]:=by
 rw[List.eq_nil_iff_forall_not_mem];intro j hj;have⟨h1,o,ho,_⟩:=mem_ready.1 hj;have Ck:j<(hd++[last]).toArray.size:=(Qaa.1 ho).1;simp at Ck;by_cases hjn:j=hd.length
 .subst hjn;have:hd.length<(listed.push false).size:=by simp[hsz]
  simp[hsz]at h1
 .rw[getD_set_ne true (by omega),kR hsz (by omega),ha j (by omega)]at h1;cases h1
def Ii {listed:Array Bool}(hsz:listed.size=hd.length)(Fv:∀e∈last.after,Region.binds md e=true->e.on<hd.length)(ha:∀i,i<hd.length->listed.getD i true=true):hd.length∈Region.ready md (hd++[last]).toArray (listed.push false):=by
 refine mem_ready.2 ⟨LX hsz _,last,JO,λe he hb=> ?_⟩;have bH:=Fv e he hb;rw[kR hsz bH,AM (by omega) false true];exact ha _ bH
def ED(hgl:last.guard=none){listed:Array Bool}(hsz:listed.size=hd.length)(ha:∀i,i<hd.length->listed.getD i true=true){fuel:Nat}{a:Act}(h:Qt P last Q .normal a w):
 wpOp P (hd++[last]).toArray Q hd.length (wpAny P md (hd++[last]).toArray Q fuel ((listed.push false).setIfInBounds hd.length true)) a w:=by
 unfold wpOp;rw[JO];simp only[uX hgl,if_true];refine .inl (Oper.wp_mono (λa' w' hq=> ?_) h);have hn:=Ih (md:=md) (last:=last) hsz ha;cases fuel with
 |zero=>exact⟨hn,hq⟩
 |succ f=>exact⟨λ_=>hq,λi hi=>by rw[hn]at hi;cases hi⟩
def LY(hg:∀o∈hd,o.guard=none)(hgl:last.guard=none)(hs:Region.sinkB md (hd++[last]).toArray hd.length=true)
 (iK:∀i o,hd[i]? =some o->∀e∈o.after,Region.binds md e=true->e.on<i)(Fv:∀e∈last.after,Region.binds md e=true->e.on<hd.length):
 ∀(fuel:Nat)(listed:Array Bool)(a:Act)(w:ax),HeadInv md (hd++[last]).toArray hd.length (listed.push false)->listed.size=hd.length->
  wpAny P md hd.toArray (Qt P last Q) fuel listed a w->wpAny P md (hd++[last]).toArray Q (fuel+1) (listed.push false) a w:=by
 have hc:Region.chainB md (hd++[last]).toArray hd.length=true:=by
  unfold Region.chainB;rw[List.all_eq_true];intro t ht;have:t<hd.length+1:=by simpa using ht
  simp only[Bool.or_eq_true,decide_eq_true_eq];exact .inl (by omega)
 have hn:hd.length<(hd++[last]).toArray.size:=by simp
 have full:∀(listed:Array Bool),HeadInv md (hd++[last]).toArray hd.length (listed.push false)->listed.size=hd.length->hd.length∈Region.ready md (hd++[last]).toArray (listed.push false)->∀i,i<hd.length->listed.getD i true=true:=by
  intro listed inv hsz hr i hi;cases hci:listed.getD i true with
  |true=>rfl
  |false=>exact absurd hr (tail_waits hs hc hn inv _ i rfl hi (by rw[kR hsz hi];exact hci) hd.length bT)
 have some_:∀(listed:Array Bool),listed.size=hd.length->Region.ready md (hd++[last]).toArray (listed.push false)≠[]:=by
  intro listed hsz he;have hh:Region.ready md hd.toArray listed=[]:=by
   rw[List.eq_nil_iff_forall_not_mem];intro j hj;have⟨_,o,ho,_⟩:=mem_ready.1 hj;have Ck:j<hd.length:=by simpa using(Qaa.1 ho).1
   have:=(yj (last:=last) hsz iK Ck).2 hj;rw[he]at this;cases this
  have:=Ii hsz Fv (Ig hsz iK hh);rw[he]at this;cases this
 have QH:∀(listed:Array Bool)(i:Nat),i∈Region.ready md (hd++[last]).toArray (listed.push false)->i<hd.length\/i=hd.length:=by
  intro listed i hi;have⟨_,o,ho,_⟩:=mem_ready.1 hi;have:i<hd.length+1:=by simpa using(Qaa.1 ho).1
  omega
 intro fuel;induction fuel with
 |zero=>
  intro listed a w inv hsz h;refine⟨λhe=>absurd he (some_ listed hsz),λi hi=> ?_⟩;rcases QH listed i hi with bH|rfl
  .have:=(yj (last:=last) hsz iK bH).1 hi;rw[h.1]at this;cases this
  .exact ED hgl hsz (full listed inv hsz hi) h.2
 |succ fuel ih=>
  intro listed a w inv hsz h;refine⟨λhe=>absurd he (some_ listed hsz),λi hi=> ?_⟩;rcases QH listed i hi with bH|rfl
  .have h1:=h.2 i ((yj (last:=last) hsz iK bH).1 hi);have inv2:=inv.set hi bH;have e:(listed.push false).setIfInBounds i true=(listed.setIfInBounds i true).push false:=by
    apply Array.ext_getElem?;intro j;simp only[Array.getElem?_setIfInBounds,Array.getElem?_push,Array.size_push,Array.size_setIfInBounds];grind
   rw[e]at inv2⊢;have⟨o,ho⟩:=eG hd i bH;have ho1:hd.toArray[i]? =some o:=by simpa using ho
   have ho2:(hd++[last]).toArray[i]? =some o:=(Tr bH).trans ho1;have hw:=hg o (Qaf ho);unfold wpOp at h1⊢;simp only[ho1,ho2,uX hw,if_true]at h1⊢;refine h1.imp (λh2=>Oper.wp_mono (λa' w' h3=>ih _ a' w' inv2 (by simpa using hsz) h3) (YZ h2)) (λh2=>⟨h2.1,h2.2⟩)
  .have ha:=full listed inv hsz hi;have hr:Region.ready md hd.toArray listed=[]:=by
    rw[List.eq_nil_iff_forall_not_mem];intro j hj;have⟨h1,o,ho,_⟩:=mem_ready.1 hj;have Ck:j<hd.length:=by simpa using(Qaa.1 ho).1
    rw[ha j Ck]at h1;cases h1
   exact ED hgl hsz ha (h.1 hr)
def AN(hd:List Oper)(last:Oper):Bool:=
 hd.all (λo=>o.guard.isNone)&&last.guard.isNone&&Region.sinkB .any (hd++[last]).toArray hd.length&&
 (List.range hd.length).all (λi=>match hd[i]? with|some o=>o.after.all (λe=> !Region.binds .any e||decide (e.on<i))|none=>true)&&
 last.after.all (λe=> !Region.binds .any e||decide (e.on<hd.length))
def qd(hB:AN hd last=true){fuel:Nat}{a:Act}(h:wpAny P .any hd.toArray (Qt P last Q) fuel (Array.replicate hd.length false) a w):wpAny P .any (hd++[last]).toArray Q (fuel+1) (Array.replicate (hd++[last]).length false) a w:=by
 unfold AN at hB;simp only[Qce]at hB;obtain⟨⟨⟨⟨b1,b2⟩,b3⟩,b4⟩,b5⟩:=hB;have hg:∀o∈hd,o.guard=none:=λo ho=>by simpa using List.all_eq_true.1 b1 o ho
 have hgl:last.guard=none:=by simpa using b2
 have iK:∀i o,hd[i]? =some o->∀e∈o.after,Region.binds .any e=true->e.on<i:=λi o ho e he hb=>by
  have h1:=List.all_eq_true.1 b4 i (List.mem_range.2 (Qad.1 ho).1);rw[ho]at h1;have h2:=Array.all_eq_true_iff_forall_mem.1 h1 e he;simpa [hb]using h2
 have Fv:∀e∈last.after,Region.binds .any e=true->e.on<hd.length:=λe he hb=>by
  have h2:=Array.all_eq_true_iff_forall_mem.1 b5 e he;simpa [hb]using h2
 have e:(Array.replicate hd.length false).push false=Array.replicate (hd++[last]).length false:=by simp[Array.replicate_succ]
 have qd5:HeadInv .any (hd++[last]).toArray hd.length ((Array.replicate hd.length false).push false):=by
  rw[e];exact⟨by simp,λj oj _ hl=>(by rw[getD_replicate_false]at hl;cases hl),λt _ ht=>getD_in (by simpa using ht) (getD_replicate_false _ _)⟩
 have Fj:=LY hg hgl b3 iK Fv _ _ a w qd5 (by simp) h;rw[e]at Fj;exact Fj
def ym {id:Nat}{a:Act}{c p s:Oper}{l:List Oper}(n:Nat)(hl:l=((l.take n++[c])++[p])++[s])(hm:P.follows .mixedOrders=true)(hB1:AN (l.take n) c=true)(hB2:AN (l.take n++[c]) p=true)(hB3:AN ((l.take n++[c])++[p]) s=true)(hB:Region.lexB .any (l.take n).toArray=true)
 (h:∀(ι:Type) [Nonempty ι](F:ι->ax),(∀i,aC w (F i))->(∀W,aC w W->∃j,W=F j)->wpQuiet P (l.take n).toArray (λw'=>∃n,w'=F n) (λa'=>∀w',(∃n,w'=F n)->c.wp P a' w' (λa1 w1=>p.wp P a1 w1 (λa2 w2=>s.wp P a2 w2 (λa3 w3=>Q .normal a3 w3) Q) (Qt P s Q)) (Qt P p (Qt P s Q))) (l.take n) a):(Code.region id l.toArray true).wp P Q a w:=by
 haveI:Nonempty {W:ax//aC w W}:=⟨⟨_,Qbg _ w⟩⟩;have hq:=h {W:ax//aC w W} Subtype.val (λi=>i.2) (λW hW=>⟨⟨W,hW⟩,rfl⟩);generalize l.take n=hd at*;subst hl;simp only[Region.lexB,Qce]at hB;have WM:=wpAnyQ_lex (md:= .any) hB.1 hd 0 (Array.replicate hd.length false) a (by simp) (by simpa using hB.2) hq;have WN:=wpAny_of_quiet (Q':=Qt P c (Qt P p (Qt P s Q))) (λ_ w' hw' h=>h w' hw') _ _ _ (w.drew) ⟨⟨_,(Qbg _ w).drew⟩,rfl⟩ WM;have h1:=qd hB3 (qd hB2 (qd hB1 WN));refine wp_region_any hm ?_;have es:(((hd++[c])++[p])++[s]).toArray.size=(((hd++[c])++[p])++[s]).length:=by simp
 rw[es];have ef:(((hd++[c])++[p])++[s]).length=hd.length+1+1+1:=by simp
 rw[show hd.length+1+1+1=(((hd++[c])++[p])++[s]).length from ef.symm]at h1;exact h1
end
def ir {P:Program}{id:Nat}{Q:Exit->Act->ax->Prop}{a:Act}{l:List Oper}(hm:P.follows .mixedOrders=true)(hB:Region.lexB .any l.toArray=true)
 (h:∀(ι:Type) [Nonempty ι](F:ι->ax),(∀i,aC w (F i))->(∀W,aC w W->∃j,W=F j)->wpQuiet P l.toArray (λw'=>∃n,w'=F n) (λa'=>∀w',(∃n,w'=F n)->Q .normal a' w') l a):(Code.region id l.toArray true).wp P Q a w:=
 wp_region_quiet (C:=λw'=>∃n:{W:ax//aC w W},w'=n.1) hm hB ⟨⟨_,(Qbg _ w).drew⟩,rfl⟩ (by haveI:Nonempty {W:ax//aC w W}:=⟨⟨_,Qbg _ w⟩⟩;simpa using h {W:ax//aC w W} Subtype.val (λi=>i.2) (λW hW=>⟨⟨W,hW⟩,rfl⟩))
def lu {P:Program}{Q:Exit->Act->ax->Prop}{id:Nat}{a:Act}{s:Oper}{l:List Oper}(n:Nat)(hl:l=l.take n++[s])(hm:P.follows .mixedOrders=true)(hB1:AN (l.take n) s=true)(hB:Region.lexB .any (l.take n).toArray=true)
 (h:∀(ι:Type) [Nonempty ι](F:ι->ax),(∀i,aC w (F i))->(∀W,aC w W->∃j,W=F j)->wpQuiet P (l.take n).toArray (λw'=>∃n,w'=F n) (λa'=>∀w',(∃n,w'=F n)->s.wp P a' w' (λa3 w3=>Q .normal a3 w3) Q) (l.take n) a):(Code.region id l.toArray true).wp P Q a w:=by
 haveI:Nonempty {W:ax//aC w W}:=⟨⟨_,Qbg _ w⟩⟩;have hq:=h {W:ax//aC w W} Subtype.val (λi=>i.2) (λW hW=>⟨⟨W,hW⟩,rfl⟩);generalize l.take n=hd at*;subst hl;simp only[Region.lexB,Qce]at hB;have WM:=wpAnyQ_lex (md:= .any) hB.1 hd 0 (Array.replicate hd.length false) a (by simp) (by simpa using hB.2) hq;have WN:=wpAny_of_quiet (Q':=Qt P s Q) (λ_ w' hw' h=>h w' hw') _ _ _ (w.drew) ⟨⟨_,(Qbg _ w).drew⟩,rfl⟩ WM;have h1:=qd hB1 WN;refine wp_region_any hm ?_;have es:(hd++[s]).toArray.size=(hd++[s]).length:=by simp
 rw[es];have ef:(hd++[s]).length=hd.length+1:=by simp
 rw[show hd.length+1=(hd++[s]).length from ef.symm]at h1;exact h1
end Go.Proofs.YtepaofffbkfodaaGreatDoor
