/- A part of OpReads's proof; no condition. -/
import Derived.Test.YtepaofffbkfodaaGreatDoorM01
import Derived.StillTail
set_option linter.all false
set_option maxHeartbeats 8000000
set_option maxRecDepth 100000
namespace Go.Proofs.YtepaofffbkfodaaGreatDoor
open Go Go.RowKit
variable{w:aj}{i:Nat}
section
variable {P:Program}{md:Region.Mode}{hd:List Oper}{last:Oper}{Q:Exit->Act->aj->Prop}
def Qt(P:Program)(last:Oper)(Q:Exit->Act->aj->Prop):Exit->Act->aj->Prop
 | .normal,a,w=>last.wp P a w (λa' w'=>Q .normal a' w') Q
 |e,a,w=>Q e a w
def ZL {o:Oper}{a:Act}{K:Act->aj->Prop}(hh:o.wp P a w K (Qt P last Q)):o.wp P a w K Q:=by
 unfold Oper.wp at*;generalize(execOp a.eval o).run P w=r at*;cases r with
 |ok n w'=>
  cases n<;>simp only[Oper.upon]at hh⊢<;>
   first
    |exact hh
    |exact Calls.mono hh (λe w'' he=>by cases e<;>exact he)
 |halt x w'=>cases x<;>simp only[Oper.upon]at hh⊢<;>exact hh
def vj {o:Oper}(h:o.guard=none)(y:Nat->Option Bool):Region.wanted o y=true:=by simp[Region.wanted,h]
def Ui(hi:i<hd.length):(hd++[last]).toArray[i]? =hd.toArray[i]? :=by
 simp[Qbc hi]
def Km:(hd++[last]).toArray[hd.length]? =some last:=by simp
def kH {listed:Array Bool}{n:Nat}(hs:listed.size=n)(hi:i<n)(d:Bool):(listed.push false).getD i d=listed.getD i d:=by
 have h:i<listed.size:=by omega
 simp[Array.getElem?_push,h,show i≠listed.size from by omega]
def Mz {listed:Array Bool}{n:Nat}(hs:listed.size=n)(d:Bool):(listed.push false).getD n d=false:=by
 subst hs;simp
def AZ {listed:Array Bool}(hi:i<listed.size)(d d':Bool):listed.getD i d=listed.getD i d':=by
 simp[hi]
def yo {listed:Array Bool}(hsz:listed.size=hd.length)(ik:∀i o,hd[i]? =some o->∀e∈o.after,Region.binds md e=true->e.on<i)(hi:i<hd.length):
 i∈Region.ready md (hd++[last]).toArray (listed.push false)↔i∈Region.ready md hd.toArray listed:=by
 rw[mem_ready,mem_ready,Ui hi,kH hsz hi];refine and_congr Iff.rfl ⟨λ⟨o,ho,h⟩=>⟨o,ho,λe he hb=> ?_⟩,λ⟨o,ho,h⟩=>⟨o,ho,λe he hb=> ?_⟩⟩
 .have bu:=ik i o (by simpa using ho) e he hb;rw[<-kH hsz (by omega)];exact h e he hb
 .have bu:=ik i o (by simpa using ho) e he hb;rw[kH hsz (by omega)];exact h e he hb
def IM {listed:Array Bool}(hsz:listed.size=hd.length)(ik:∀i o,hd[i]? =some o->∀e∈o.after,Region.binds md e=true->e.on<i)(hr:Region.ready md hd.toArray listed=[]):∀i,i<hd.length->listed.getD i true=true:=by
 intro i;induction i using Nat.strongRecOn with
 |_ i ih=>
  intro hi;cases hc:listed.getD i true with
  |true=>rfl
  |false=>
   have:i∈Region.ready md hd.toArray listed:=by
    obtain⟨o,ho⟩:=eB hd i hi;refine mem_ready.2 ⟨hc,o,by simpa using ho,λe he hb=> ?_⟩;have bu:=ik i o ho e he hb;rw[AZ (by omega) false true];exact ih e.on bu (by omega)
   rw[hr]at this;cases this
def IN {listed:Array Bool}(hsz:listed.size=hd.length)(ha:∀i,i<hd.length->listed.getD i true=true):Region.ready md (hd++[last]).toArray ((listed.push false).setIfInBounds hd.length true)=[]:=by
 rw[List.eq_nil_iff_forall_not_mem];intro j hj;obtain⟨h1,o,ho,_⟩:=mem_ready.1 hj;have CJ:j<(hd++[last]).toArray.size:=(Qaa.1 ho).1;simp at CJ;by_cases hjn:j=hd.length
 .subst hjn;have:hd.length<(listed.push false).size:=by simp[hsz]
  simp[hsz]at h1
 .rw[getD_set_ne true (by omega),kH hsz (by omega),ha j (by omega)]at h1;cases h1
def IP {listed:Array Bool}(hsz:listed.size=hd.length)(FI:∀e∈last.after,Region.binds md e=true->e.on<hd.length)(ha:∀i,i<hd.length->listed.getD i true=true):hd.length∈Region.ready md (hd++[last]).toArray (listed.push false):=by
 refine mem_ready.2 ⟨Mz hsz _,last,Km,λe he hb=> ?_⟩;have bu:=FI e he hb;rw[kH hsz bu,AZ (by omega) false true];exact ha _ bu
def ET(yV:last.guard=none){listed:Array Bool}(hsz:listed.size=hd.length)(ha:∀i,i<hd.length->listed.getD i true=true){fuel:Nat}{a:Act}(h:Qt P last Q .normal a w):
 wpOp P (hd++[last]).toArray Q hd.length (wpAny P md (hd++[last]).toArray Q fuel ((listed.push false).setIfInBounds hd.length true)) a w:=by
 unfold wpOp;rw[Km];simp only[vj yV,if_true];refine .inl (Oper.wp_mono (λa' w' hq=> ?_) h);have hn:=IN (md:=md) (last:=last) hsz ha;cases fuel with
 |zero=>exact⟨hn,hq⟩
 |succ f=>exact⟨λ_=>hq,λi hi=>by rw[hn]at hi;cases hi⟩
def MA(hg:∀o∈hd,o.guard=none)(yV:last.guard=none)(hs:Region.sinkB md (hd++[last]).toArray hd.length=true)
 (ik:∀i o,hd[i]? =some o->∀e∈o.after,Region.binds md e=true->e.on<i)(FI:∀e∈last.after,Region.binds md e=true->e.on<hd.length):
 ∀(fuel:Nat)(listed:Array Bool)(a:Act)(w:aj),HeadInv md (hd++[last]).toArray hd.length (listed.push false)->listed.size=hd.length->
  wpAny P md hd.toArray (Qt P last Q) fuel listed a w->wpAny P md (hd++[last]).toArray Q (fuel+1) (listed.push false) a w:=by
 have hc:Region.chainB md (hd++[last]).toArray hd.length=true:=by
  unfold Region.chainB;rw[List.all_eq_true];intro t ht;have:t<hd.length+1:=by simpa using ht
  simp only[Bool.or_eq_true,decide_eq_true_eq];exact .inl (by omega)
 have hn:hd.length<(hd++[last]).toArray.size:=by simp
 have full:∀(listed:Array Bool),HeadInv md (hd++[last]).toArray hd.length (listed.push false)->listed.size=hd.length->hd.length∈Region.ready md (hd++[last]).toArray (listed.push false)->∀i,i<hd.length->listed.getD i true=true:=by
  intro listed inv hsz hr i hi;cases hci:listed.getD i true with
  |true=>rfl
  |false=>exact absurd hr (tail_waits hs hc hn inv _ i rfl hi (by rw[kH hsz hi];exact hci) hd.length bN)
 have some_:∀(listed:Array Bool),listed.size=hd.length->Region.ready md (hd++[last]).toArray (listed.push false)≠[]:=by
  intro listed hsz he;have hh:Region.ready md hd.toArray listed=[]:=by
   rw[List.eq_nil_iff_forall_not_mem];intro j hj;obtain⟨_,o,ho,_⟩:=mem_ready.1 hj;have CJ:j<hd.length:=by simpa using(Qaa.1 ho).1
   have:=(yo (last:=last) hsz ik CJ).2 hj;rw[he]at this;cases this
  have:=IP hsz FI (IM hsz ik hh);rw[he]at this;cases this
 have Ri:∀(listed:Array Bool)(i:Nat),i∈Region.ready md (hd++[last]).toArray (listed.push false)->i<hd.length\/i=hd.length:=by
  intro listed i hi;obtain⟨_,o,ho,_⟩:=mem_ready.1 hi;have:i<hd.length+1:=by simpa using(Qaa.1 ho).1
  omega
 intro fuel;induction fuel with
 |zero=>
  intro listed a w inv hsz h;refine⟨λhe=>absurd he (some_ listed hsz),λi hi=> ?_⟩;rcases Ri listed i hi with bu|rfl
  .have:=(yo (last:=last) hsz ik bu).1 hi;rw[h.1]at this;cases this
  .exact ET yV hsz (full listed inv hsz hi) h.2
 |succ fuel ih=>
  intro listed a w inv hsz h;refine⟨λhe=>absurd he (some_ listed hsz),λi hi=> ?_⟩;rcases Ri listed i hi with bu|rfl
  .have h1:=h.2 i ((yo (last:=last) hsz ik bu).1 hi);have inv2:=inv.set hi bu;have e:(listed.push false).setIfInBounds i true=(listed.setIfInBounds i true).push false:=by
    apply Array.ext_getElem?;intro j;simp only[Array.getElem?_setIfInBounds,Array.getElem?_push,Array.size_push,Array.size_setIfInBounds];grind
   rw[e]at inv2⊢;obtain⟨o,ho⟩:=eB hd i bu;have kg:hd.toArray[i]? =some o:=by simpa using ho
   have nZ:(hd++[last]).toArray[i]? =some o:=(Ui bu).trans kg;have hw:=hg o (Qaf ho);unfold wpOp at h1⊢;simp only[kg,nZ,vj hw,if_true]at h1⊢;refine h1.imp (λh2=>Oper.wp_mono (λa' w' h3=>ih _ a' w' inv2 (by simpa using hsz) h3) (ZL h2)) (λh2=>⟨h2.1,h2.2⟩)
  .have ha:=full listed inv hsz hi;have hr:Region.ready md hd.toArray listed=[]:=by
    rw[List.eq_nil_iff_forall_not_mem];intro j hj;obtain⟨h1,o,ho,_⟩:=mem_ready.1 hj;have CJ:j<hd.length:=by simpa using(Qaa.1 ho).1
    rw[ha j CJ]at h1;cases h1
   exact ET yV hsz ha (h.1 hr)
def A0(hd:List Oper)(last:Oper):Bool:=
 hd.all (λo=>o.guard.isNone)&&last.guard.isNone&&Region.sinkB .any (hd++[last]).toArray hd.length&&
 (List.range hd.length).all (λi=>match hd[i]? with|some o=>o.after.all (λe=> !Region.binds .any e||decide (e.on<i))|none=>true)&&
 last.after.all (λe=> !Region.binds .any e||decide (e.on<hd.length))
def qe(hB:A0 hd last=true){fuel:Nat}{a:Act}(h:wpAny P .any hd.toArray (Qt P last Q) fuel (Array.replicate hd.length false) a w):wpAny P .any (hd++[last]).toArray Q (fuel+1) (Array.replicate (hd++[last]).length false) a w:=by
 unfold A0 at hB;simp only[Qce]at hB;obtain⟨⟨⟨⟨b1,b2⟩,b3⟩,b4⟩,b5⟩:=hB;have hg:∀o∈hd,o.guard=none:=λo ho=>by simpa using List.all_eq_true.1 b1 o ho
 have yV:last.guard=none:=by simpa using b2
 have ik:∀i o,hd[i]? =some o->∀e∈o.after,Region.binds .any e=true->e.on<i:=λi o ho e he hb=>by
  have h1:=List.all_eq_true.1 b4 i (List.mem_range.2 (Qad.1 ho).1);rw[ho]at h1;have h2:=Array.all_eq_true_iff_forall_mem.1 h1 e he;simpa [hb]using h2
 have FI:∀e∈last.after,Region.binds .any e=true->e.on<hd.length:=λe he hb=>by
  have h2:=Array.all_eq_true_iff_forall_mem.1 b5 e he;simpa [hb]using h2
 have e:(Array.replicate hd.length false).push false=Array.replicate (hd++[last]).length false:=by simp[Array.replicate_succ]
 have qex:HeadInv .any (hd++[last]).toArray hd.length ((Array.replicate hd.length false).push false):=by
  rw[e];exact⟨by simp,λj oj _ hl=>(by rw[getD_replicate_false]at hl;cases hl),λt _ ht=>getD_in (by simpa using ht) (getD_replicate_false _ _)⟩
 have Fw:=MA hg yV b3 ik FI _ _ a w qex (by simp) h;rw[e]at Fw;exact Fw
def yp {id:Nat}{a:Act}{c p s:Oper}{l:List Oper}(n:Nat)(hl:l=((l.take n++[c])++[p])++[s])(hm:P.follows .mixedOrders=true)(hB1:A0 (l.take n) c=true)(hB2:A0 (l.take n++[c]) p=true)(hB3:A0 ((l.take n++[c])++[p]) s=true)(hB:Region.lexB .any (l.take n).toArray=true)
 (h:∀(ι:Type) [Nonempty ι](F:ι->aj),(∀i,aq w (F i))->(∀W,aq w W->∃j,W=F j)->wpQuiet P (l.take n).toArray (λw'=>∃n,w'=F n) (λa'=>∀w',(∃n,w'=F n)->c.wp P a' w' (λa1 w1=>p.wp P a1 w1 (λa2 w2=>s.wp P a2 w2 (λa3 w3=>Q .normal a3 w3) Q) (Qt P s Q)) (Qt P p (Qt P s Q))) (l.take n) a):(Code.region id l.toArray true).wp P Q a w:=by
 haveI:Nonempty {W:aj//aq w W}:=⟨⟨_,Qbg _ w⟩⟩;have hq:=h {W:aj//aq w W} Subtype.val (λi=>i.2) (λW hW=>⟨⟨W,hW⟩,rfl⟩);generalize l.take n=hd at*;subst hl;simp only[Region.lexB,Qce]at hB;have XJ:=wpAnyQ_lex (md:= .any) hB.1 hd 0 (Array.replicate hd.length false) a (by simp) (by simpa using hB.2) hq;have XK:=wpAny_of_quiet (Q':=Qt P c (Qt P p (Qt P s Q))) (λ_ w' hw' h=>h w' hw') _ _ _ (w.drew) ⟨⟨_,(Qbg _ w).drew⟩,rfl⟩ XJ;have h1:=qe hB3 (qe hB2 (qe hB1 XK));refine wp_region_any hm ?_;have es:(((hd++[c])++[p])++[s]).toArray.size=(((hd++[c])++[p])++[s]).length:=by simp
 rw[es];have ef:(((hd++[c])++[p])++[s]).length=hd.length+1+1+1:=by simp
 rw[show hd.length+1+1+1=(((hd++[c])++[p])++[s]).length from ef.symm]at h1;exact h1
end
def ib {P:Program}{id:Nat}{Q:Exit->Act->aj->Prop}{a:Act}{l:List Oper}(hm:P.follows .mixedOrders=true)(hB:Region.lexB .any l.toArray=true)
 (h:∀(ι:Type) [Nonempty ι](F:ι->aj),(∀i,aq w (F i))->(∀W,aq w W->∃j,W=F j)->wpQuiet P l.toArray (λw'=>∃n,w'=F n) (λa'=>∀w',(∃n,w'=F n)->Q .normal a' w') l a):(Code.region id l.toArray true).wp P Q a w:=
 wp_region_quiet (C:=λw'=>∃n:{W:aj//aq w W},w'=n.1) hm hB ⟨⟨_,(Qbg _ w).drew⟩,rfl⟩ (by haveI:Nonempty {W:aj//aq w W}:=⟨⟨_,Qbg _ w⟩⟩;simpa using h {W:aj//aq w W} Subtype.val (λi=>i.2) (λW hW=>⟨⟨W,hW⟩,rfl⟩))
def pD {P:Program}{Q:Exit->Act->aj->Prop}{id:Nat}{a:Act}{s:Oper}{l:List Oper}(n:Nat)(hl:l=l.take n++[s])(hm:P.follows .mixedOrders=true)(hB1:A0 (l.take n) s=true)(hB:Region.lexB .any (l.take n).toArray=true)
 (h:∀(ι:Type) [Nonempty ι](F:ι->aj),(∀i,aq w (F i))->(∀W,aq w W->∃j,W=F j)->wpQuiet P (l.take n).toArray (λw'=>∃n,w'=F n) (λa'=>∀w',(∃n,w'=F n)->s.wp P a' w' (λa3 w3=>Q .normal a3 w3) Q) (l.take n) a):(Code.region id l.toArray true).wp P Q a w:=by
 haveI:Nonempty {W:aj//aq w W}:=⟨⟨_,Qbg _ w⟩⟩;have hq:=h {W:aj//aq w W} Subtype.val (λi=>i.2) (λW hW=>⟨⟨W,hW⟩,rfl⟩);generalize l.take n=hd at*;subst hl;simp only[Region.lexB,Qce]at hB;have XJ:=wpAnyQ_lex (md:= .any) hB.1 hd 0 (Array.replicate hd.length false) a (by simp) (by simpa using hB.2) hq;have XK:=wpAny_of_quiet (Q':=Qt P s Q) (λ_ w' hw' h=>h w' hw') _ _ _ (w.drew) ⟨⟨_,(Qbg _ w).drew⟩,rfl⟩ XJ;have h1:=qe hB1 XK;refine wp_region_any hm ?_;have es:(hd++[s]).toArray.size=(hd++[s]).length:=by simp
 rw[es];have ef:(hd++[s]).length=hd.length+1:=by simp
 rw[show hd.length+1=(hd++[s]).length from ef.symm]at h1;exact h1
end Go.Proofs.YtepaofffbkfodaaGreatDoor
