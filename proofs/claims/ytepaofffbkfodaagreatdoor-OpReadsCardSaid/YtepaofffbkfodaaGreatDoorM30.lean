/- a part; no condition -/
import Derived.Test.YtepaofffbkfodaaGreatDoorM29
import Derived.Test.YtepaofffbkfodaaGreatDoorM32
import Derived.Shelf.SlSortCmp.NoneTotal
import Derived.Shelf.SlIterI.Nil
import Derived.Shelf.SortM.Plain
import Derived.Shelf.SortM.SortNone
set_option linter.all false
set_option maxHeartbeats 8000000
set_option maxRecDepth 100000
namespace Go.Proofs.YtepaofffbkfodaaGreatDoor
open Go.Proofs.Tryz
variable{i g cap j p B b:Nat}{W W' w3 wx w' w w1 w2:aj}{M:aN}{t:TypeId}{c0 c1 c2 c3 sv fv v:an}{ls:List aH}{l:List aA}{many:Int}{S:List Int}
section
open Go.RowKit Go.Shelf Go.Lib
open Go.Sort (flatK size_flatK get_flatK HoldsK PermIn SortedIn SWO putRowK mapBlock grow)
section
variable {α β:Type}
def sy(R:β->α->Prop):List β->List α->Prop
 |[],[]=>True
 |b::d,x::xs=>R b x/\sy R d xs
 |_,_=>False
theorem sy.length {R:β->α->Prop}:∀{d:List β}{xs:List α},sy R d xs->d.length=xs.length
 |[],[],_=>rfl
 |_::_,_::_,h=>by simp[sy.length h.2]
 |[],_::_,h=>h.elim
 |_::_,[],h=>h.elim
theorem sy.at_ {R:β->α->Prop}:∀{d:List β}{xs:List α},sy R d xs->∀(i:Nat)(b:β)(x:α),d[i]? =some b->xs[i]? =some x->R b x
 |[],[],_,i,b,x,h,_=>by simp at h
 |a::d,y::xs,h,0,b,x,h1,h2=>by
  simp at h1 h2;subst h1;subst h2;exact h.1
 |a::d,y::xs,h,i+1,b,x,h1,h2=>sy.at_ h.2 i b x (by simpa using h1) (by simpa using h2)
 |[],_::_,h,_,_,_,_,_=>h.elim
 |_::_,[],h,_,_,_,_,_=>h.elim
theorem sy.perm {R:β->α->Prop}{d d':List β}(hp:d.Perm d'):∀{xs:List α},sy R d xs->∃ys,xs.Perm ys/\sy R d' ys:=by
 induction hp with
 |nil=>
  intro xs h;cases xs with
  |nil=>exact⟨[], .refl _,trivial⟩
  |cons a r=>exact h.elim
 |cons b _ ih=>
  intro xs h;cases xs with
  |nil=>exact h.elim
  |cons a r=>
   obtain⟨ys,h1,h2⟩:=ih h.2;exact⟨a::ys,h1.cons a,h.1,h2⟩
 |swap b c l=>
  intro xs h;match xs,h with
  |a::e::r,h=>exact⟨e::a::r, .swap _ _ _,h.2.1,h.1,h.2.2⟩
 |trans _ _ ih1 ih2=>
  intro xs h;obtain⟨ys,h1,h2⟩:=ih1 h;obtain⟨zs,h3,h4⟩:=ih2 h2;exact⟨zs,h1.trans h3,h4⟩
end
def getD_at {α:Type} [Inhabited α]{l:List α}{x:α}(h:l[i]? =some x):l.toArray[i]! =x:=by
 obtain⟨h1,h2⟩:=Qad.1 h;rw[getElem!_pos l.toArray i (by simpa using h1)];simpa using h2
structure D4(α:Type) [au α](β:Type)(κ:Type)where
 enc:β->List an
 key:β->κ
 keyA:α->κ
 len:∀b,(enc b).length=au.size α
 one:∀b,∀v∈enc b,v.oneCell'=true
 dec:∀{M:aN}{w:aj}{cs:List an}{x:α},au.rep M w cs x->∃b,enc b=cs/\key b=keyA x
section
variable {α:Type} [au α]{β:Type} [Inhabited β]{κ:Type}(E:D4 α β κ)
omit [Inhabited β] in
theorem D4.Zs {N:Nat->Prop}{w:World}:∀{css:List (List Value)}{xs:List α},css.length=xs.length->(∀(i:Nat)(cs:List Value)(x:α),css[i]? =some cs->xs[i]? =some x->au.rep N w cs x)->∃d:List β,d.map E.enc=css/\sy (λb x=>au.rep N w (E.enc b) x/\E.key b=E.keyA x) d xs
 |[],[],_,_=>⟨[],rfl,trivial⟩
 |cs::css,x::xs,hl,h=>by
  obtain⟨b,h1,h2⟩:=E.dec (h 0 cs x rfl rfl);obtain⟨d,h3,h4⟩:=D4.Zs (css:=css) (xs:=xs) (by simpa using hl) λi c y hc hy=>h (i+1) c y (by simpa using hc) (by simpa using hy);refine⟨b::d,by simp[h1,h3],⟨by rw[h1];exact h 0 cs x rfl rfl,h2⟩,h4⟩
 |[],_::_,hl,_=>by simp at hl
 |_::_,[],hl,_=>by simp at hl
theorem D4.holds {w:World}{base g n cap:Nat}{e:TypeId}{d:List β}(hn:d.length=n)(h:w.ownsRow base e (au.size α) (.slice (some ⟨g,0,none⟩) n cap) n (d.map E.enc).flatten):HoldsK E.enc (au.size α) w g 0 d.toArray:=by
 intro j hj;rw[size_flatK]at hj;have hj':j<n*au.size α:=by simpa [hn]using hj
 rw[Nat.zero_add,h.cellAt j hj'];refine⟨?_,h.frozenAt j⟩;have Kv:0<au.size α:=by
  rcases Nat.eq_zero_or_pos (au.size α)with h0|h0
  .rw[h0]at hj';simp at hj'
  .exact h0
 have hq:j/au.size α<d.length:=by
  rw[hn];exact(Nat.div_lt_iff_lt_mul Kv).2 hj'
 have hb:d[j/au.size α]? =some d[j/au.size α]:=Qac hq;have hm:j%au.size α<(E.enc d[j/au.size α]).length:=by rw[E.len];exact Nat.mod_lt _ Kv
 have h1:=iu (css:=d.map E.enc) (size:=au.size α) (λi cs bJ=>by
  rw[List.getElem?_map]at bJ;obtain⟨b,_,rfl⟩:=Option.map_eq_some_iff.1 bJ;exact E.len b) (j/au.size α) (E.enc d[j/au.size α]) (j%au.size α) _ (by rw[List.getElem?_map,hb];rfl) (Qac hm);rw[show j/au.size α*au.size α+j%au.size α=j from Nat.div_add_mod' _ _]at h1;rw[h1,id,get_flatK _ _ _ _ hj,getD_at hb,getElem!_pos (E.enc d[j/au.size α]) (j%au.size α) hm]
theorem D4.slice {n:Nat}{d:Array β}{ys:List α}(hd:d.size=n)(hn:n<=cap)(hc:cap<=maxLen)(hg:g<W.heap.size)(hM:¬M g)(h:HoldsK E.enc (au.size α) W g 0 d)(hr:sy (λb x=>au.rep M W (E.enc b) x) d.toList ys):ab M W (xL (some ⟨g,0,none⟩) n cap) ys:=by
 have UM:=hr.length;rw[Array.length_toList,hd]at UM;have hlen:∀(i:Nat)(cs:List an),(d.toList.map E.enc)[i]? =some cs->cs.length=au.size α:=λi cs bJ=>by
  rw[List.getElem?_map]at bJ;obtain⟨b,_,rfl⟩:=Option.map_eq_some_iff.1 bJ;exact E.len b
 have Np:∀(l:List β),(l.map E.enc).flatten.length=l.length*au.size α:=λl=>by
  induction l with
  |nil=>simp
  |cons a r ih=>rw[List.map_cons,List.flatten_cons,Qda,ih,E.len,Qcc,Nat.succ_mul,Nat.add_comm]
 refine⟨d.toList.map E.enc,⟨?_,_,cap,by rw[UM],by omega,hc,λh0=>⟨g,0,rfl,hM,hg,λj u hu=> ?_⟩⟩,by rw[Qdc,Array.length_toList,hd,UM],λi cs x bJ hx=> ?_⟩
 .rw[Np,Array.length_toList,hd,UM]
 .have hj:=(Qad.1 hu).1;rw[Np,Array.length_toList]at hj;have Kv:0<au.size α:=by
   rcases Nat.eq_zero_or_pos (au.size α)with h0|h0
   .rw[h0]at hj;simp at hj
   .exact h0
  have hq:j/au.size α<d.size:=(Nat.div_lt_iff_lt_mul Kv).2 hj;have hb:d.toList[j/au.size α]? =some d[j/au.size α]:=by rw[Array.getElem?_toList];exact Array.getElem?_eq_getElem hq
  have hm:j%au.size α<(E.enc d[j/au.size α]).length:=by rw[E.len];exact Nat.mod_lt _ Kv
  have h1:=iu (css:=d.toList.map E.enc) (size:=au.size α) hlen (j/au.size α) (E.enc d[j/au.size α]) (j%au.size α) _ (by rw[List.getElem?_map,hb];rfl) (Qac hm);rw[show j/au.size α*au.size α+j%au.size α=j from Nat.div_add_mod' _ _,hu]at h1;have h2:=(h j (by rw[size_flatK];exact hj)).1;rw[h2,id,get_flatK _ _ _ _ hj,getElem!_pos d (j/au.size α) hq,getElem!_pos (E.enc d[j/au.size α]) (j%au.size α) hm];exact h1.symm
 .rw[List.getElem?_map]at bJ;obtain⟨b,hb,rfl⟩:=Option.map_eq_some_iff.1 bJ;exact hr.at_ i b x hb hx
omit [au α] in
def Hq {enc:β->List Value}{k:Nat}{w:World}{g n:Nat}{d:Array β}{os:Array Obj}:ai (λi=>i=g) w (sortWorldK enc k w g 0 n d os):=by
 refine⟨rfl,rfl,rfl,?_,λi hi hS=> ?_⟩
 .exact size_sortWorldK_c enc k w g 0 n d os
 .unfold sortWorldK grow putRowK Go.Sort.putRow mapBlock;show((w.heap.modify g _)++os)[i]? =_;rw[Array.getElem?_append_left (by simpa using hi),Array.getElem?_modify];rw[if_neg (λe=>hS e.symm)]
def xO {P:Program}{ρ:Ren}(L:SlLaysF0.n6 P ρ)(aE:∀w,(isAgg (ρ.t 24)).run P w= .ok true w)(zE:∀w,(Go.sizeOf (ρ.t 24)).run P w= .ok (au.size α) w)(cf:β->β->Int)(lt:κ->κ->Bool)(bu:∀b c,ltOf cf b c=lt (E.key b) (E.key c))(hO:SWO (ltOf cf))(G:Nat)
 (eg:∀args w,(callFunc G args).run P w= .ok (.enter G args) w)(l8:∀(x y:β)(W:World),Calls P G #[.agg (E.enc x).toArray, .agg (E.enc y).toArray] W λe w'=>e= .returned (.int .i64 (cf x y))/\∃q os',w'=grow (W.drewN q) os')
 (M:Nat->Prop)(base:Nat)(e:TypeId)(w:World)(v:Value)(xs:List α)(h:aK M base e w v xs)(hM:∀g,v.ownBlock=some g->¬M g)(hx:xs.length<1000000):
 Calls P (ρ.f 6) #[v, .func (.func G) #[] #[]] w λe w'=>e= .returned (.tuple #[])/\∃ys,xs.Perm ys/\(ys.map E.keyA).Pairwise (λa b=>lt b a=false)/\ab M w' v ys/\ai (λi=>v.ownBlock=some i) w w':=by
 obtain⟨css,lY,qd3,bV⟩:=h;have qax:=lY;rcases qax.2 with⟨rfl,h0⟩|⟨g,cap,cur,rfl,hb,hh,ZV,M9,bJ,htk⟩
 .have QB:xs=[]:=List.length_eq_zero_iff.1 h0;subst QB;refine(AnyF.slices_SortFunc_none L none 0 _ w).mono ?_;rintro e w'⟨rfl,rfl⟩;exact⟨rfl,[], .refl _,by simp,ab.nil _ _,ai.refl _ _⟩
 .obtain⟨d,hd,hR⟩:=E.Zs qd3 bV;subst hd;have Yh:=hR.length;have hH:=E.holds Yh lY;have yV:=(Qaa.1 hh).1;have hsz:d.toArray.size=xs.length:=by simpa using Yh
  have UN:=AnyQ.slices_SortFunc L (au.size α) aE zE E.enc E.len E.one cf hO G #[] g 0 cap d.toArray w eg (λ_ _ _ _ x y=>by
   have:=l8 x y (sortWorldK E.enc (au.size α) w g 0 ‹_› ‹_› ‹_›);exact this) hH yV (by omega);rw[hsz]at UN;refine UN.mono ?_;rintro e w'⟨rfl,d',n,os,hp,hs,rfl⟩;obtain⟨j5,_,ij⟩:=hp;have UO:∀a:Array β,a.size=xs.length->a.extract 0 xs.length=a:=λa ha=>by rw[<-ha];exact Array.extract_size
  rw[UO _ (by rw[j5,hsz]),UO _ hsz]at ij;obtain⟨ys,RJ,QL⟩:=hR.perm ij.symm;have hO':=Hq (enc:=E.enc) (k:=au.size α) (w:=w) (g:=g) (n:=n) (d:=d') (os:=os);have hyl:=QL.length;refine⟨rfl,ys,RJ,?_,?_,hO'.mono (λi hi=>by subst hi;rfl)⟩
  .refine List.pairwise_iff_getElem.2 λi j hi hj hij=> ?_;rw[Qdc]at hi hj;rw[List.getElem_map,List.getElem_map];rw[Array.length_toList]at hyl;have hdi:d'.toList[i]? =some d'[i]:=by rw[Array.getElem?_toList];exact Array.getElem?_eq_getElem (by omega)
   have hdj:d'.toList[j]? =some d'[j]:=by rw[Array.getElem?_toList];exact Array.getElem?_eq_getElem (by omega)
   have k1:=(QL.at_ i _ _ hdi (Qac hi)).2;have k2:=(QL.at_ j _ _ hdj (Qac hj)).2;have fu:=hs i j (Qbf _) hij (by omega);rw[getElem!_pos d' j (by omega),getElem!_pos d' i (by omega),bu,k1,k2]at fu;exact fu
  .have hgM:¬M g:=hM g rfl;refine E.slice (by rw[j5,hsz]) ZV M9 (Qde yV hO'.size) hgM (holdsK_sortWorldK_c E.enc (au.size α) w g 0 d.toArray d' n os hH yV j5) ?_;have hEv:Ev (bg (.slice (some ⟨g,0,none⟩) xs.length cap) M) w M (sortWorldK E.enc (au.size α) w g 0 n d' os):=⟨hO'.mono (λi hi=>by subst hi;exact .inr rfl),λi hi=> .inl (.inl hi)⟩;have mono:∀{l:List β}{zs:List α},sy (λb x=>au.rep (bg (.slice (some ⟨g,0,none⟩) xs.length cap) M) w (E.enc b) x/\E.key b=E.keyA x) l zs->sy (λb x=>au.rep M (sortWorldK E.enc (au.size α) w g 0 n d' os) (E.enc b) x) l zs:=by
    intro l;induction l with
    |nil=>intro zs hz;cases zs with
     |nil=>trivial
     |cons _ _=>exact hz.elim
    |cons b l ih=>intro zs hz;cases zs with
     |nil=>exact hz.elim
     |cons z zs=>exact⟨au.ev hz.1.1 hEv,ih hz.2⟩
   exact mono QL
end
end
section
open Go.RowKit Go.Shelf
abbrev rh(o:bE)(vv:an):an:= .agg #[xI o.id,xI o.cls,xI o.ver,vv]
def fW(M:aN)(w:aj)(b:Nat)(l:List bE):Prop:=∃es clk,fq dC w b es clk/\(∀p∈es,∃o vv,o∈l/\p.1=o.id/\p.2.1=rh o vv/\ab M w vv o.aR)/\(∀o∈l,o.id∈es.map (·.1))
def ia(w:aj)(b:Nat)(l:List aV):Prop:=∃es clk,fq fe w b es clk/\(∀p∈es,∃r,r∈l/\p.1=r.name/\p.2.1=xI r.id)/\(∀r∈l,r.name∈es.map (·.1))
section
variable {M M':aN}{w w':aj}{b:Nat}{l:List bE}{rs:List aV}
theorem fW.lt(h:fW M w b l):b<w.heap.size:=by obtain⟨es,clk,h1,_⟩:=h;exact h1.lt
theorem ia.lt(h:ia w b rs):b<w.heap.size:=by obtain⟨es,clk,h1,_⟩:=h;exact h1.lt
theorem fW.ev(h:fW M w b l)(hv:Ev M w M' w')(hb:w'.heap[b]? =w.heap[b]?):fW M' w' b l:=by
 obtain⟨es,clk,h1,h2,h3⟩:=h;refine⟨es,clk,h1.same _ hb,λp hp=> ?_,h3⟩;obtain⟨o,vv,k1,k2,k3,k4⟩:=h2 p hp;exact⟨o,vv,k1,k2,k3,k4.ev hv⟩
theorem ia.ev(h:ia w b rs)(hb:w'.heap[b]? =w.heap[b]?):ia w' b rs:=by
 obtain⟨es,clk,h1,h2,h3⟩:=h;exact⟨es,clk,h1.same _ hb,h2,h3⟩
theorem fW.below(h:fW M w b l)(hb:aq w w'):fW M w' b l:=h.ev (Ev.ao hb) (hb.block _ h.lt)
theorem ia.below(h:ia w b rs)(hb:aq w w'):ia w' b rs:=h.ev (hb.block _ h.lt)
theorem fW.ext(h:fW M w b l){l':List bE}(he:∀o,o∈l↔o∈l'):fW M w b l':=by
 obtain⟨es,clk,h1,h2,h3⟩:=h;refine⟨es,clk,h1,λp hp=> ?_,λo ho=>h3 o ((he o).2 ho)⟩;obtain⟨o,vv,k1,k2⟩:=h2 p hp;exact⟨o,vv,(he o).1 k1,k2⟩
theorem ia.ext(h:ia w b rs){l':List aV}(he:∀o,o∈rs↔o∈l'):ia w b l':=by
 obtain⟨es,clk,h1,h2,h3⟩:=h;refine⟨es,clk,h1,λp hp=> ?_,λo ho=>h3 o ((he o).2 ho)⟩;obtain⟨o,k1,k2⟩:=h2 p hp;exact⟨o,(he o).1 k1,k2⟩
theorem fW.at_(h:bR w b (.map #[] 0)):fW M w b []:=⟨[],0,⟨h,by simp,by simp,by simp⟩,by simp,by simp⟩
theorem ia.at_(h:bR w b (.map #[] 0)):ia w b []:=⟨[],0,⟨h,by simp,by simp,by simp⟩,by simp,by simp⟩
def AV(x:Int)(w:aj):(Instr.keyThatStays (dC x) (dC x)).run prog w= .ok (dC x) w:=by
 have hsb:Instr.sameBits 10000 (xI x) (xI x)=true:=by
  show Instr.sameBits (9999+1) _ _=true;rw[Instr.sameBits]<;>simp
 simp[Instr.keyThatStays,dC,hsb]
def AW(x:aM)(w:aj):(Instr.keyThatStays (fe x) (fe x)).run prog w= .ok (fe x) w:=by
 have hsb:Instr.sameBits 10000 (xS x) (xS x)=true:=by
  have h:∀n,Instr.sameBits n (xS x) (xS x)=true:=λn=>by
   have hx:(x==x)=true:=by
    first
    |(exact beq_self_eq_true x)
    |(cases x with|mk d=>show(d==d)=true;simp;done)
    |(cases x with|mk d=>simp[BEq.beq];done)
    |(unfold BEq.beq;rfl)
   cases n<;>(rw[Instr.sameBits];exact hx)
  exact h 10000
 simp[Instr.keyThatStays,fe,hsb]
def qd:lS fe prog 9:=AK fe .string kR underlying9
theorem fW.put {o:bE}{vv:an}(h:fW M w b l)(hM:M b)(hv:ab M w vv o.aR):∃w',(Instr.mapUpdate 113 (.map (some b)) (xI o.id) (rh o vv)).run prog w= .ok () w'/\fW M w' b (qA l o)/\ai (λi=>i=b) w w':=by
 obtain⟨es,clk,h1,h2,h3⟩:=h;obtain⟨w',TM,Jw,k1,k2,k3,_,k5⟩:=fq.put (K:=dC) (P:=prog) underlying113 dW ey AV h1 o.id (rh o vv);have hE:Ev M w M w':=⟨k5.mono λi hi=>by rw[show i=b from hi];exact hM,λi hi=> .inl hi⟩;refine⟨w',k1,⟨TM,Jw,k2,λp hp=> ?_,λq hq=> ?_⟩,k5⟩
 .have e:=mH k2.keys hp;rw[k3]at e;by_cases RN:p.1=o.id
  .rw[if_pos RN]at e;exact⟨o,vv,sL.2 (.inr rfl),RN,(Option.some.inj e).symm,hv.ev hE⟩
  .rw[if_neg RN]at e;obtain⟨q,hq,e1,e2⟩:=mI e;obtain⟨o',vv',j1,j2,j3,j4⟩:=h2 q hq;exact⟨o',vv',sL.2 (.inl ⟨j1,by rw[<-j2,e1];exact RN⟩),by rw[<-e1];exact j2,by rw[<-e2];exact j3,j4.ev hE⟩
 .have e:=k3 q.id;refine Classical.byContradiction λhn=> ?_;rw[dH.2 hn]at e;rcases sL.1 hq with⟨j1,j2⟩|rfl
  .rw[if_neg j2]at e;exact dH.1 e.symm (h3 q j1)
  .rw[if_pos rfl]at e;cases e
theorem ia.put {r:aV}(h:ia w b rs):∃w',(Instr.mapUpdate 114 (.map (some b)) (xS r.name) (xI r.id)).run prog w= .ok () w'/\ia w' b (sM rs r)/\ai (λi=>i=b) w w':=by
 obtain⟨es,clk,h1,h2,h3⟩:=h;obtain⟨w',TM,Jw,k1,k2,k3,_,k5⟩:=fq.put (K:=fe) (P:=prog) underlying114 qd jJ AW h1 r.name (.int .i64 r.id);refine⟨w',k1,⟨TM,Jw,k2,λp hp=> ?_,λq hq=> ?_⟩,k5⟩
 .have e:=mH k2.keys hp;rw[k3]at e;by_cases RN:p.1=r.name
  .rw[if_pos RN]at e;exact⟨r,sN.2 (.inr rfl),RN,(Option.some.inj e).symm⟩
  .rw[if_neg RN]at e;obtain⟨q,hq,e1,e2⟩:=mI e;obtain⟨r',j1,j2,j3⟩:=h2 q hq;exact⟨r',sN.2 (.inl ⟨j1,by rw[<-j2,e1];exact RN⟩),by rw[<-e1];exact j2,by rw[<-e2];exact j3⟩
 .have e:=k3 q.name;refine Classical.byContradiction λhn=> ?_;rw[dH.2 hn]at e;rcases sN.1 hq with⟨j1,j2⟩|rfl
  .rw[if_neg j2]at e;exact dH.1 e.symm (h3 q j1)
  .rw[if_pos rfl]at e;cases e
end
def EO {l ys zs:List bE}{ks:List Int}(hl:(cL l).Pairwise (·< ·))(hk:ks.Nodup)(hy:cL ys=ks)(kp:∀o∈ys,o∈l)(mR:∀o∈l,o.id∈ks)(hp:ys.Perm zs)(hs:(zs.map bE.id).Pairwise (λa b=>decide (b<a)=false)):zs=l:=by
 have hzn:(zs.map bE.id).Nodup:=(hp.map bE.id).nodup_iff.1 (by unfold cL at hy;rw[hy];exact hk);have hz:(cL zs).Pairwise (·< ·):=by
  unfold cL;rw[List.pairwise_iff_getElem]at hs⊢;intro i j hi hj hij;have h1:=hs i j hi hj hij;have h2:(zs.map bE.id)[i]≠(zs.map bE.id)[j]:=λe=>by
   exact List.pairwise_iff_getElem.1 hzn i j hi hj hij e
  simp only[decide_eq_false_iff_not]at h1;omega
 refine PE hz hl λo=>⟨λho=>kp o (hp.mem_iff.2 ho),λho=> ?_⟩;have h1:=mR o ho;rw[<-hy]at h1;obtain⟨y,RJ,QL⟩:=List.mem_map.1 h1;have h3:=kp y RJ;obtain⟨i,hi⟩:=List.getElem?_of_mem h3;obtain⟨j,hj⟩:=List.getElem?_of_mem ho;have:=jt hl hi hj QL;subst this;rw[hi]at hj;cases hj;exact hp.mem_iff.1 RJ
def pA {l:List aV}(h:gJ l){o p:aV}(hi:l[i]? =some o)(hj:l[j]? =some p)(he:o.name=p.name):i=j:=by
 have e1:(l.map aV.name)[i]? =some o.name:=by rw[List.getElem?_map,hi];rfl
 have e2:(l.map aV.name)[j]? =some p.name:=by rw[List.getElem?_map,hj];rfl
 obtain⟨l1,g1⟩:=Qad.1 e1;obtain⟨l2,g2⟩:=Qad.1 e2;have key:∀{a b:Nat}(ha:a<(l.map aV.name).length)(hb:b<(l.map aV.name).length),a<b->(l.map aV.name)[a]≠(l.map aV.name)[b]:=λha hb hab e=>by
  have:=List.pairwise_iff_getElem.1 h _ _ ha hb hab;rw[e,dj]at this;cases this
 rcases Nat.lt_trichotomy i j with hl|hl|hl
 .exact absurd (by rw[g1,g2,he]) (key l1 l2 hl)
 .exact hl
 .exact absurd (by rw[g1,g2,he]) (key l2 l1 hl)
def Ca {l ys zs:List aV}{ks:List aM}(hl:gJ l)(hk:ks.Nodup)(hy:ys.map aV.name=ks)(kp:∀o∈ys,o∈l)(mR:∀o∈l,o.name∈ks)(hp:ys.Perm zs)(hs:(zs.map aV.name).Pairwise (λa b=>fz b a=false)):zs=l:=by
 have hzn:(zs.map aV.name).Nodup:=(hp.map aV.name).nodup_iff.1 (by rw[hy];exact hk);have hz:gJ zs:=by
  unfold gJ;rw[List.pairwise_iff_getElem]at hs⊢;intro i j hi hj hij;have h1:=hs i j hi hj hij;have h2:(zs.map aV.name)[i]≠(zs.map aV.name)[j]:=λe=>by
   exact List.pairwise_iff_getElem.1 hzn i j hi hj hij e
  rcases mK (zs.map aV.name)[i] (zs.map aV.name)[j]with e|e|e
  .exact e
  .exact absurd e h2
  .rw[h1]at e;cases e
 refine Mm hz hl λo=>⟨λho=>kp o (hp.mem_iff.2 ho),λho=> ?_⟩;have h1:=mR o ho;rw[<-hy]at h1;obtain⟨y,RJ,QL⟩:=List.mem_map.1 h1;have h3:=kp y RJ;obtain⟨i,hi⟩:=List.getElem?_of_mem h3;obtain⟨j,hj⟩:=List.getElem?_of_mem ho;have:=pA hl hi hj QL;subst this;rw[hi]at hj;cases hj;exact hp.mem_iff.1 RJ
def bnO(sv:an)(p mo mr:Nat)(next:Int):Obj:=xK #[sv,xP p, .map (some mo), .map (some mr),xI next] 168
def dX {c4:an}(h:bR W g (xK #[c0,c1,c2,c3,c4] t)):bt W g 0 c0/\bt W g 1 c1/\bt W g 2 c2/\bt W g 3 c3/\bt W g 4 c4:=by simp[World.cell?,h]
def kX(M:aN)(B b mo mr:Nat):Nat->Prop:=λi=>M i\/i=B\/i=b\/i=mo\/i=mr
structure Cb(w:aj)(B p b mo mr:Nat):Prop where
 B0:w.heap.size<=B
 p0:w.heap.size<=p
 b0:w.heap.size<=b
 o0:w.heap.size<=mo
 r0:w.heap.size<=mr
 pb:p≠b
 Bp:B≠p
 Bb:B≠b
 Bo:B≠mo
 Br:B≠mr
 op:mo≠p
 ob:mo≠b
 or:mo≠mr
 rp:mr≠p
 rb:mr≠b
structure cP(x:aX)(M:aN)(B p b mo mr:Nat)(sv:an)(W:aj):Prop where
 cell:W.heap[B]? =some (bnO sv p mo mr x.next)
 book:je x.lines M p b sv W
 objs:fW M W mo x.objs
 roots:ia W mr x.roots
theorem je.lt {M:aN}{b:Nat}{w:aj}(h:je ls M p b sv w):p<w.heap.size/\b<w.heap.size:=by
 obtain⟨h1,_,es,clk,h3,_⟩:=h;exact⟨(Qaa.1 h1).1,(Qaa.1 h3).1⟩
theorem cP.ev {x:aX}{M M':aN}{b mo mr:Nat}(h:cP x M B p b mo mr sv W)(hv:Ev M W M' W')(hB:W'.heap[B]? =W.heap[B]?)(hp:W'.heap[p]? =W.heap[p]?)(hb:W'.heap[b]? =W.heap[b]?)(ho:W'.heap[mo]? =W.heap[mo]?)(hr:W'.heap[mr]? =W.heap[mr]?):cP x M' B p b mo mr sv W':=
 ⟨hB.trans h.cell,h.book.ev hv hp hb,h.objs.ev hv ho,h.roots.ev hr⟩
theorem cP.below {x:aX}{M:aN}{b mo mr:Nat}(h:cP x M B p b mo mr sv W)(hb:aq W W'):cP x M B p b mo mr sv W':=
 h.ev (Ev.ao hb) (hb.block _ (Qaa.1 h.cell).1) (hb.block _ h.book.lt.1) (hb.block _ h.book.lt.2) (hb.block _ h.objs.lt) (hb.block _ h.roots.lt)
end
section
open Go.RowKit Go.Shelf Go.Lib
open Go.Sort (SWO grow alloc_eq_grow grow_grow)
def IH:Go.Shelf.Ren:=⟨λ|6=>89|15=>131|14=>158|28=>196|29=>197|20=>219|21=>220|22=>221|23=>222|24=>223|25=>224|26=>225|27=>226|46=>263|47=>249|48=>250|49=>264|50=>265|57=>307|n=>n,λ|22=>32|24=>66|25=>177|3=>3|39=>216|0=>0|53=>279|55=>281|4=>4|46=>272|45=>271|50=>63|5=>5|9=>9|66=>329|70=>333|76=>366|77=>367|n=>n,λ|n=>n⟩
def VL:Go.Proofs.SlLaysF0.n6 prog IH:={
 mixed:=by kernel_rfl
 f6:=⟨Tryz.f89.name,by decide,Tryz.func89.trans (congrArg some (by kernel_rfl))⟩
 f14:=⟨Tryz.f158.name,by decide,Tryz.func158.trans (congrArg some (by kernel_rfl))⟩
 f15:=Tryz.func131.trans (congrArg some (by kernel_rfl))
 f20:=⟨Tryz.f219.name,by decide,Tryz.func219.trans (congrArg some (by kernel_rfl))⟩
 f21:=⟨Tryz.f220.name,by decide,Tryz.func220.trans (congrArg some (by kernel_rfl))⟩
 f22:=⟨Tryz.f221.name,by decide,Tryz.func221.trans (congrArg some (by kernel_rfl))⟩
 f23:=⟨Tryz.f222.name,by decide,Tryz.func222.trans (congrArg some (by kernel_rfl))⟩
 f24:=⟨Tryz.f223.name,by decide,Tryz.func223.trans (congrArg some (by kernel_rfl))⟩
 f25:=⟨Tryz.f224.name,by decide,Tryz.func224.trans (congrArg some (by kernel_rfl))⟩
 f26:=⟨Tryz.f225.name,by decide,Tryz.func225.trans (congrArg some (by kernel_rfl))⟩
 f27:=⟨Tryz.f226.name,by decide,Tryz.func226.trans (congrArg some (by kernel_rfl))⟩
 f28:=Tryz.func196.trans (congrArg some (by kernel_rfl))
 f29:=Tryz.func197.trans (congrArg some (by kernel_rfl))
 f46:=⟨Tryz.f263.name,by decide,Tryz.func263.trans (congrArg some (by kernel_rfl))⟩
 f47:=Tryz.func249.trans (congrArg some (by kernel_rfl))
 f48:=Tryz.func250.trans (congrArg some (by kernel_rfl))
 f49:=⟨Tryz.f264.name,by decide,Tryz.func264.trans (congrArg some (by kernel_rfl))⟩
 f50:=⟨Tryz.f265.name,by decide,Tryz.func265.trans (congrArg some (by kernel_rfl))⟩
 f57:=⟨Tryz.f307.name,by decide,Tryz.func307.trans (congrArg some (by kernel_rfl))⟩
 t0:=underlying0
 a0:=isAgg0
 z0:=sizeOf0
 v0:=zeroValue0
 t3:=underlying3
 a3:=isAgg3
 z3:=sizeOf3
 v3:=zeroValue3
 t4:=underlying4
 a4:=isAgg4
 z4:=sizeOf4
 v4:=zeroValue4
 t5:=underlying5
 a5:=isAgg5
 z5:=sizeOf5
 v5:=zeroValue5
 t9:=underlying9
 a9:=isAgg9
 z9:=sizeOf9
 v9:=zeroValue9
 t22:=underlying32
 a22:=isAgg32
 z22:=sizeOf32
 v22:=zeroValue32
 t25:=underlying177
 a25:=isAgg177
 z25:=sizeOf177
 v25:=zeroValue177
 t39:=underlying216
 a39:=isAgg216
 z39:=sizeOf216
 v39:=zeroValue216
 t45:=underlying271
 a45:=isAgg271
 z45:=sizeOf271
 v45:=zeroValue271
 t46:=underlying272
 a46:=isAgg272
 z46:=sizeOf272
 v46:=zeroValue272
 t50:=underlying63
 a50:=isAgg63
 z50:=sizeOf63
 v50:=zeroValue63
 t53:=underlying279
 a53:=isAgg279
 z53:=sizeOf279
 v53:=zeroValue279
 t55:=underlying281
 a55:=isAgg281
 z55:=sizeOf281
 v55:=zeroValue281
 t66:=underlying329
 a66:=isAgg329
 z66:=sizeOf329
 v66:=zeroValue329
 t70:=underlying333
 a70:=isAgg333
 z70:=sizeOf333
 v70:=zeroValue333
 t76:=underlying366
 a76:=isAgg366
 z76:=sizeOf366
 v76:=zeroValue366
 t77:=underlying367
 a77:=isAgg367
 z77:=sizeOf367
 v77:=zeroValue367}
def II:Go.Shelf.Ren:=⟨λ|6=>91|15=>131|14=>159|28=>196|29=>197|20=>227|21=>228|22=>229|23=>230|24=>231|25=>232|26=>233|27=>234|46=>266|47=>249|48=>250|49=>267|50=>268|57=>308|n=>n,λ|22=>33|24=>86|25=>179|3=>3|39=>216|0=>0|53=>279|55=>281|4=>4|46=>272|45=>271|50=>63|5=>5|9=>9|66=>329|70=>333|76=>366|77=>367|n=>n,λ|n=>n⟩
def VM:Go.Proofs.SlLaysF0.n6 prog II:={
 mixed:=by kernel_rfl
 f6:=⟨Tryz.f91.name,by decide,Tryz.func91.trans (congrArg some (by kernel_rfl))⟩
 f14:=⟨Tryz.f159.name,by decide,Tryz.func159.trans (congrArg some (by kernel_rfl))⟩
 f15:=Tryz.func131.trans (congrArg some (by kernel_rfl))
 f20:=⟨Tryz.f227.name,by decide,Tryz.func227.trans (congrArg some (by kernel_rfl))⟩
 f21:=⟨Tryz.f228.name,by decide,Tryz.func228.trans (congrArg some (by kernel_rfl))⟩
 f22:=⟨Tryz.f229.name,by decide,Tryz.func229.trans (congrArg some (by kernel_rfl))⟩
 f23:=⟨Tryz.f230.name,by decide,Tryz.func230.trans (congrArg some (by kernel_rfl))⟩
 f24:=⟨Tryz.f231.name,by decide,Tryz.func231.trans (congrArg some (by kernel_rfl))⟩
 f25:=⟨Tryz.f232.name,by decide,Tryz.func232.trans (congrArg some (by kernel_rfl))⟩
 f26:=⟨Tryz.f233.name,by decide,Tryz.func233.trans (congrArg some (by kernel_rfl))⟩
 f27:=⟨Tryz.f234.name,by decide,Tryz.func234.trans (congrArg some (by kernel_rfl))⟩
 f28:=Tryz.func196.trans (congrArg some (by kernel_rfl))
 f29:=Tryz.func197.trans (congrArg some (by kernel_rfl))
 f46:=⟨Tryz.f266.name,by decide,Tryz.func266.trans (congrArg some (by kernel_rfl))⟩
 f47:=Tryz.func249.trans (congrArg some (by kernel_rfl))
 f48:=Tryz.func250.trans (congrArg some (by kernel_rfl))
 f49:=⟨Tryz.f267.name,by decide,Tryz.func267.trans (congrArg some (by kernel_rfl))⟩
 f50:=⟨Tryz.f268.name,by decide,Tryz.func268.trans (congrArg some (by kernel_rfl))⟩
 f57:=⟨Tryz.f308.name,by decide,Tryz.func308.trans (congrArg some (by kernel_rfl))⟩
 t0:=underlying0
 a0:=isAgg0
 z0:=sizeOf0
 v0:=zeroValue0
 t3:=underlying3
 a3:=isAgg3
 z3:=sizeOf3
 v3:=zeroValue3
 t4:=underlying4
 a4:=isAgg4
 z4:=sizeOf4
 v4:=zeroValue4
 t5:=underlying5
 a5:=isAgg5
 z5:=sizeOf5
 v5:=zeroValue5
 t9:=underlying9
 a9:=isAgg9
 z9:=sizeOf9
 v9:=zeroValue9
 t22:=underlying33
 a22:=isAgg33
 z22:=sizeOf33
 v22:=zeroValue33
 t25:=underlying179
 a25:=isAgg179
 z25:=sizeOf179
 v25:=zeroValue179
 t39:=underlying216
 a39:=isAgg216
 z39:=sizeOf216
 v39:=zeroValue216
 t45:=underlying271
 a45:=isAgg271
 z45:=sizeOf271
 v45:=zeroValue271
 t46:=underlying272
 a46:=isAgg272
 z46:=sizeOf272
 v46:=zeroValue272
 t50:=underlying63
 a50:=isAgg63
 z50:=sizeOf63
 v50:=zeroValue63
 t53:=underlying279
 a53:=isAgg279
 z53:=sizeOf279
 v53:=zeroValue279
 t55:=underlying281
 a55:=isAgg281
 z55:=sizeOf281
 v55:=zeroValue281
 t66:=underlying329
 a66:=isAgg329
 z66:=sizeOf329
 v66:=zeroValue329
 t70:=underlying333
 a70:=isAgg333
 z70:=sizeOf333
 v70:=zeroValue333
 t76:=underlying366
 a76:=isAgg366
 z76:=sizeOf366
 v76:=zeroValue366
 t77:=underlying367
 a77:=isAgg367
 z77:=sizeOf367
 v77:=zeroValue367}
def sR(a b:Int)(w:aj):xC 79 #[xI a,xI b] w (ji (xI (Lib.compareInt a b)) w):=by
 rcases Int.lt_trichotomy a b with h|h|h;all_goals
  have h1:Lib.compareInt a b=(if a<b then-1 else if a>b then 1 else 0):=rfl;first
   |rw[if_pos h]at h1
   |(rw[if_neg (by omega),if_neg (by omega)]at h1)
   |(rw[if_neg (by omega),if_pos (by omega)]at h1)
  rw[h1];go_enter func79,ntmps79;go_wp2_with fail;refine cT (L9 _ _) ?_;go_wp2_with fail;refine cT (L9 _ _) ?_;go_wp2;go_ret;exact⟨rfl,rfl⟩
def pB(a b:aM):Int:=if fz a b then-1 else if fz b a then 1 else 0
def Kk(a b:aM)(w:aj):xC 81 #[xS a,xS b] w (ji (xI (pB a b)) w):=by
 have hc:pB a b=(if fz a b then-1 else if fz b a then 1 else 0):=rfl;rcases mK a b with h|h|h
 .rw[if_pos h]at hc;rw[hc];have h1:Op.bytesLess a.toList b.toList=true:=h;go_enter func81,ntmps81;go_wp2_with fail;refine cT (zu _ _) ?_;go_wp2_with fail;refine cT (zu _ _) ?_;go_wp2;go_ret;exact⟨rfl,rfl⟩
 .subst h;rw[dj,if_neg (by simp),if_neg (by simp)]at hc;rw[hc];have h1:Op.bytesLess a.toList a.toList=false:=dj a;go_enter func81,ntmps81;go_wp2_with fail;refine cT (zu _ _) ?_;go_wp2_with fail;refine cT (zu _ _) ?_;go_wp2;go_ret;exact⟨rfl,rfl⟩
 .have h0:fz a b=false:=by
   cases hq:fz a b with
   |false=>rfl
   |true=>have:=ju hq h;rw[dj]at this;cases this
  rw[h0,if_neg (by simp),if_pos h]at hc;rw[hc];have h1:Op.bytesLess a.toList b.toList=false:=h0;have h2:Op.bytesLess b.toList a.toList=true:=h;have h3:(a.toList==b.toList)=false:=by
   rw[beq_eq_false_iff_ne];intro e;rw[ByteArray.toList_eq,ByteArray.toList_eq]at e;have:=Eu e;subst this;rw[dj]at h;cases h
  go_enter func81,ntmps81;go_wp2_with fail;refine cT (zu _ _) ?_;go_wp2_with fail;refine cT (zu _ _) ?_;go_wp2;go_ret;exact⟨rfl,rfl⟩
structure OB where
 id:Int
 cls:Int
 ver:Int
 a:Option Addr
 n:Nat
 c:Nat
instance:Inhabited OB:=⟨⟨0,0,0,none,0,0⟩⟩
def PS:D4 bE OB Int where
 enc b:=[xI b.id,xI b.cls,xI b.ver,xL b.a b.n b.c]
 key b:=b.id
 keyA:=bE.id
 len _:=rfl
 one b v hv:=by simp at hv;rcases hv with rfl|rfl|rfl|rfl<;>rfl
 dec:=λ⟨vv,h,h1⟩=>by
  obtain⟨a,c,rfl,_⟩:=h1.open_;exact⟨⟨_,_,_,a,_,c⟩,h.symm,rfl⟩
instance:Inhabited (aM×Int):=⟨(⟨#[]⟩,0)⟩
def PT:D4 aV (aM×Int) aM where
 enc b:=[xS b.1,xI b.2]
 key b:=b.1
 keyA:=aV.name
 len _:=rfl
 one b v hv:=by simp at hv;rcases hv with rfl|rfl<;>rfl
 dec:=λ⟨h,_⟩=>⟨(_,_),h.symm,rfl⟩
def qcz(x y:OB)(W:aj):xC 90 #[.agg (PS.enc x).toArray, .agg (PS.enc y).toArray] W λe w'=>e=xR (xI (Lib.compareInt x.id y.id))/\∃q os',w'=grow (W.drewN q) os':=by
 have Rf:=λW'=>sR x.id y.id W';generalize Lib.compareInt x.id y.id=r at Rf⊢;show Calls _ _ #[.agg #[xI x.id,xI x.cls,xI x.ver,xL x.a x.n x.c], .agg #[xI y.id,xI y.cls,xI y.ver,xL y.a y.n y.c]] _ _;have bW:=af (Bx.dq W (xK #[xI x.id,xI x.cls,xI x.ver,xL x.a x.n x.c] 66) (xK #[xI y.id,xI y.cls,xI y.ver,xL y.a y.n y.c] 66));obtain⟨c0,-,-,-⟩:=ae (bW.o.bG rfl);obtain⟨d0,-,-,-⟩:=ae (bW.o.bU rfl);go_enter func90,ntmps90;go_wp2_with fail;refine cT (Rf _) ?_;go_wp2;go_ret;exact⟨rfl,0,_,by rw[alloc_eq_grow,alloc_eq_grow,grow_grow];rfl⟩
def qc0(x y:aM×Int)(W:aj):xC 92 #[.agg (PT.enc x).toArray, .agg (PT.enc y).toArray] W λe w'=>e=xR (xI (pB x.1 y.1))/\∃q os',w'=grow (W.drewN q) os':=by
 have Rf:=λW'=>Kk x.1 y.1 W';generalize pB x.1 y.1=r at Rf⊢;show Calls _ _ #[.agg #[xS x.1,xI x.2], .agg #[xS y.1,xI y.2]] _ _;have bW:=af (Bx.dq W (xK #[xS x.1,xI x.2] 86) (xK #[xS y.1,xI y.2] 86));obtain⟨c0,-⟩:=ah (bW.o.bG rfl);obtain⟨d0,-⟩:=ah (bW.o.bU rfl);go_enter func92,ntmps92;go_wp2_with fail;refine cT (Rf _) ?_;go_wp2;go_ret;exact⟨rfl,0,_,by rw[alloc_eq_grow,alloc_eq_grow,grow_grow];rfl⟩
def ltInt(x y:Int):(decide (Lib.compareInt x y<0))=decide (x<y):=by
 unfold Lib.compareInt;by_cases h1:x<y
 .simp[h1]
 .by_cases h2:y<x<;>simp[h1,h2]
def ZC:SWO (ltOf λx y:OB=>Lib.compareInt x.id y.id)where
 irrefl x:=by unfold ltOf;rw[ltInt];simp
 trans x y z h1 h2:=by unfold ltOf at*;rw[ltInt]at*;simp at*;omega
 ntrans x y z h1 h2:=by unfold ltOf at*;rw[ltInt]at*;simp at*;omega
def PU(x y:aM):(decide (pB x y<0))=fz x y:=by
 unfold pB;cases fz x y with
 |true=>simp
 |false=>cases fz y x<;>simp
def vg {a b c:aM}(h:fz a b=false)(k:fz b c=false):fz a c=false:=by
 cases hq:fz a c with
 |false=>rfl
 |true=>
  rcases mK a b with e|e|e
  .rw[h]at e;cases e
  .subst e;rw[k]at hq;cases hq
  .have:=ju e hq;rw[k]at this;cases this
def ZD:SWO (ltOf λx y:aM×Int=>pB x.1 y.1)where
 irrefl x:=by unfold ltOf;rw[PU];exact dj _
 trans x y z h1 h2:=by unfold ltOf at*;rw[PU]at*;exact ju h1 h2
 ntrans x y z h1 h2:=by unfold ltOf at*;rw[PU]at*;exact vg h1 h2
def IJ(M:aN)(base:Nat)(w:aj)(v:an)(xs:List bE)(h:aK M base 66 w v xs)(hM:∀g,v.ownBlock=some g->¬M g)(hx:xs.length<1000000):
 xC 89 #[v, .func (.func 90) #[] #[]] w λe w'=>e=xR (.tuple #[])/\∃ys,xs.Perm ys/\(ys.map bE.id).Pairwise (λa b=>decide (b<a)=false)/\ab M w' v ys/\ai (λi=>v.ownBlock=some i) w w':=by
 have h1:=xO PS VL isAgg66 sizeOf66 (λx y=>Lib.compareInt x.id y.id) (λa b=>decide (a<b)) (λb c=>ltInt _ _) ZC 90 (enters_of func90 (by kernel_rfl) rfl) qcz M base 66 w v xs h hM hx;exact h1
def EP(M:aN)(base:Nat)(w:aj)(v:an)(xs:List aV)(h:aK M base 86 w v xs)(hM:∀g,v.ownBlock=some g->¬M g)(hx:xs.length<1000000):
 xC 91 #[v, .func (.func 92) #[] #[]] w λe w'=>e=xR (.tuple #[])/\∃ys,xs.Perm ys/\(ys.map aV.name).Pairwise (λa b=>fz b a=false)/\ab M w' v ys/\ai (λi=>v.ownBlock=some i) w w':=by
 have h1:=xO PT VM isAgg86 sizeOf86 (λx y=>pB x.1 y.1) fz (λb c=>PU _ _) ZD 92 (enters_of func92 (by kernel_rfl) rfl) qc0 M base 86 w v xs h hM hx;exact h1
end
section
open Go.RowKit Go.Shelf
def Mv {l:List bE}(h:(cL l).Pairwise (·< ·)){i:Nat}{o:bE}(ho:l[i]? =some o)(q:bE):q∈qA (l.take i) o↔q∈l.take (i+1):=by
 rw[sL,Qbb,ho];simp only[Option.toList_some,Qch,List.mem_singleton];constructor
 .rintro(⟨h1,_⟩|h1)
  .exact .inl h1
  .exact .inr h1
 .rintro(h1|h1)
  .refine .inl ⟨h1,λe=> ?_⟩;obtain⟨j,hj⟩:=List.getElem?_of_mem h1;rw[List.getElem?_take]at hj;split at hj
   .rename_i bu;have:=jt h hj ho e;omega
   .cases hj
  .exact .inr h1
def Mw {l:List aV}(h:gJ l){i:Nat}{o:aV}(ho:l[i]? =some o)(q:aV):q∈sM (l.take i) o↔q∈l.take (i+1):=by
 rw[sN,Qbb,ho];simp only[Option.toList_some,Qch,List.mem_singleton];constructor
 .rintro(⟨h1,_⟩|h1)
  .exact .inl h1
  .exact .inr h1
 .rintro(h1|h1)
  .refine .inl ⟨h1,λe=> ?_⟩;obtain⟨j,hj⟩:=List.getElem?_of_mem h1;rw[List.getElem?_take]at hj;split at hj
   .rename_i bu;have:=pA h hj ho e;omega
   .cases hj
  .exact .inr h1
def ZI(sv:an)(p:Nat)(next:Int):Obj:=xK #[sv,xP p, .map none, .map none,xI next] 168
structure X9(ls:List aH)(nx:Int)(M:aN)(w:aj)(o0:Obj)(B p b:Nat)(lv:an)(wx:aj):Prop where
 cell:wx.heap[B]? =some (ZI lv p nx)
 book:∀N:aN,(∀i,N i->M i\/w.heap.size+1<=i)->je ls N p b lv wx
 bx:Bx w [o0] wx
 B0:w.heap.size+1<=B
 p0:w.heap.size+1<=p
 b0:w.heap.size+1<=b
 pb:p≠b
 Bp:B≠p
 Bb:B≠b
theorem X9.of {nx:Int}{M:aN}{w:aj}{o0:Obj}{p b:Nat}{lv:an}(tt:Bx w [o0] w3)(yT:∀N:aN,(∀i,N i->M i\/w.heap.size+1<=i)->je ls N p b lv w3)(hp:w.heap.size+1<=p)(hb:w.heap.size+1<=b)(yW:p≠b):X9 ls nx M w o0 w3.heap.size p b lv (w3.alloc (ZI lv p nx)):=by
 have hl:=(yT M (λi hi=> .inl hi)).lt;have hz:=tt.bF;simp only[Qcc,Qcd]at hz;have cR:aq w3 (w3.alloc (ZI lv p nx)):=bM;exact⟨Qbh w3 _,λN hN=>(yT N hN).ev (Ev.ao cR) (cR.block _ hl.1) (cR.block _ hl.2),tt.alloc _,by omega,hp,hb,yW,by omega,by omega⟩
def VT(wx:aj)(B:Nat):aj:=(((wx.setCell ⟨B,2,none⟩ (.map (some wx.heap.size))).setCell ⟨B,3,none⟩ (.map (some (wx.heap.size+1)))).alloc (.map #[] 0)).alloc (.map #[] 0)
theorem X9.start {nx:Int}{M:aN}{w:aj}{o0:Obj}{B p b:Nat}{lv:an}(h:X9 ls nx M w o0 B p b lv wx)(hM:Bd M w):
 Bx w [o0] (VT wx B)/\cP ⟨ls,[],[],nx⟩ (kX M B b wx.heap.size (wx.heap.size+1)) B p b wx.heap.size (wx.heap.size+1) lv (VT wx B)/\Cb w B p b wx.heap.size (wx.heap.size+1):=by
 have hBl:=(Qaa.1 h.cell).1;have hl:=(h.book M (λi hi=> .inl hi)).lt;have h0:=h.B0;have h1:=h.p0;have h2:=h.b0;have h3:=h.pb;have h4:=h.Bp;have h5:=h.Bb;obtain⟨W1,bT⟩:=bS ((wx.setCell ⟨B,2,none⟩ (.map (some wx.heap.size))).setCell ⟨B,3,none⟩ (.map (some (wx.heap.size+1))));have dO:W1.heap.size=wx.heap.size:=by rw[bT];simp
 have ho:ai (λi=>i=B) wx W1:=by rw[bT];exact((ai.refl (λi=>i=B) _).setCell (.inl rfl) _).setCell (.inl rfl) _
 have aL:bR W1 B (bnO lv p wx.heap.size (wx.heap.size+1) nx):=by
  have e1:=Qca wx B 2 _ _ (.map (some wx.heap.size)) h.cell;have e2:=Qca _ B 3 _ _ (.map (some (wx.heap.size+1))) e1;rw[bT];simpa [bnO]using e2
 have UM:VT wx B=(W1.alloc (.map #[] 0)).alloc (.map #[] 0):=by unfold VT;rw[bT]
 have b2:aq W1 (VT wx B):=by rw[UM];exact bM.alloc (by simp) _
 have hC:Cb w B p b wx.heap.size (wx.heap.size+1):=⟨by omega,by omega,by omega,by have:=h.bx.1.size;omega,by have:=h.bx.1.size;omega,h3,h4,h5,by omega,by omega,by omega,by omega,by omega,by omega,by omega⟩;refine⟨(h.bx.only ho (λi hi=>by subst hi;simp;omega)).below b2,⟨(b2.block B (by omega)).trans aL,?_,?_,?_⟩,hC⟩
 .refine((h.book (kX M B b wx.heap.size (wx.heap.size+1)) (λi hi=> ?_)).ev ⟨ho.mono (λi hi=> .inr (.inl hi)),λi hi=> .inl hi⟩ (ho.block _ hl.1 (by omega)) (ho.block _ hl.2 (by omega))).ev (Ev.ao b2) (b2.block _ (by omega)) (b2.block _ (by omega));have hz:=h.bx.bF;simp only[Qcc,Qcd]at hz;rcases hi with hi|hi|hi|hi|hi
  .exact .inl hi
  all_goals(right;omega)
 .refine fW.at_ ?_;rw[UM,<-dO];exact(((Qbg _ (W1.alloc (.map #[] 0))).alloc bN _).block W1.heap.size (by simp)).trans (Qbh W1 _)
 .refine ia.at_ ?_;rw[UM];have:=Qbh (W1.alloc (.map #[] 0)) (.map #[] 0);simpa [dO]using this
structure FU(x:aX)(M:aN)(w:aj)(o0:Obj)(B p b mo mr:Nat)(lv:an)(i j:Nat)(wr:aj):Prop where
 bx:Bx w [o0] wr
 bn:cP ⟨x.lines,x.objs.take i,x.roots.take j,x.next⟩ (kX M B b mo mr) B p b mo mr lv wr
section
variable {x:aX}{M:aN}{w wr W:aj}{o0:Obj}{B p b mo mr:Nat}{lv:an}{i j:Nat}
theorem FU.below(h:FU x M w o0 B p b mo mr lv i j wr)(hb:aq wr W):FU x M w o0 B p b mo mr lv i j W:=⟨h.bx.below hb,h.bn.below hb⟩
theorem FU.put(h:FU x M w o0 B p b mo mr lv i j wr)(c:Cb w B p b mo mr)(hr:(cL x.objs).Pairwise (·< ·))(hM:Bd M w)(h0:w.heap.size+1<=mo){o:bE}(ho:x.objs[i]? =some o){vv:an}(hv:ab M w vv o.aR):∃W',(Instr.mapUpdate 113 (.map (some mo)) (xI o.id) (rh o vv)).run prog wr= .ok () W'/\FU x M w o0 B p b mo mr lv (i+1) j W':=by
 have c1:=c.B0;have c2:=c.b0;have c3:=c.o0;have c4:=c.r0;have hE:Ev M w (kX M B b mo mr) wr:=⟨ai.ao h.bx.1,λk hk=>by
  rcases hk with hk|hk|hk|hk|hk
  .exact .inl hk
  all_goals(right;omega)⟩;obtain⟨W',e1,e2,e3⟩:=h.bn.objs.put (o:=o) (vv:=vv) (.inr (.inr (.inr (.inl rfl)))) (hv.ev hE);refine⟨W',e1,h.bx.only e3 (λk hk=>by have:k=mo:=hk;simp;omega),?_,?_,e2.ext (Mv hr ho),?_⟩
 .exact(e3.block _ (Qaa.1 h.bn.cell).1 c.Bo).trans h.bn.cell
 .exact h.bn.book.ev ⟨e3.mono (λk hk=> .inr (.inr (.inr (.inl hk)))),λk hk=> .inl hk⟩ (e3.block _ h.bn.book.lt.1 (λe=>c.op e.symm)) (e3.block _ h.bn.book.lt.2 (λe=>c.ob e.symm))
 .exact h.bn.roots.ev (e3.block _ h.bn.roots.lt (λe=>c.or e.symm))
theorem FU.sM(h:FU x M w o0 B p b mo mr lv i j wr)(c:Cb w B p b mo mr)(hn:gJ x.roots)(h0:w.heap.size+1<=mr){r:aV}(ho:x.roots[j]? =some r):∃W',(Instr.mapUpdate 114 (.map (some mr)) (xS r.name) (xI r.id)).run prog wr= .ok () W'/\FU x M w o0 B p b mo mr lv i (j+1) W':=by
 obtain⟨W',e1,e2,e3⟩:=h.bn.roots.put (r:=r);have hE:Ev (kX M B b mo mr) wr (kX M B b mo mr) W':=⟨e3.mono (λk hk=> .inr (.inr (.inr (.inr hk)))),λk hk=> .inl hk⟩;refine⟨W',e1,h.bx.only e3 (λk hk=>by have:k=mr:=hk;simp;omega),?_,?_,?_,e2.ext (Mw hn ho)⟩
 .exact(e3.block _ (Qaa.1 h.bn.cell).1 c.Br).trans h.bn.cell
 .exact h.bn.book.ev hE (e3.block _ h.bn.book.lt.1 (λe=>c.rp e.symm)) (e3.block _ h.bn.book.lt.2 (λe=>c.rb e.symm))
 .exact h.bn.objs.ev hE (e3.block _ h.bn.objs.lt c.or)
end
def VU(x:aX)(hr:(cL x.objs).Pairwise (·< ·))(hn:gJ x.roots)(Wo:x.objs.length<=1000)(hr5:x.roots.length<=1000)(M:aN)(w:aj)(hM:Bd M w)(lv ov rv:an)(ja:ab M w lv x.lines)(kq:ab M w ov x.objs)(iM:ab M w rv x.roots):
 xC 32 #[.agg #[lv,ov,rv,xI x.next]] w λe w'=>∃B p b mo mr,e=xR (xP B)/\Cb w B p b mo mr/\cP x (kX M B b mo mr) B p b mo mr lv w'/\aq w w':=by
 have NY:=gG (w:=w) (λW hb=>Ki x.lines M W (hM.below hb) lv (ja.below hb));have HO:Hd (∀i o,x.objs[i]? =some o->_):=λi o ho=>jq kq ho;have HR:Hd (∀i r,x.roots[i]? =some r->_):=λi r hr=>iF iM hr;have lM:=af hM;have N0:=af hr;have Gc:=af hn;have wj:=λw=>eQ 113 w;have qhw:=λw=>eQ 114 w;obtain⟨la,lc,rfl,_⟩:=ja.open_;obtain⟨oa,oc,rfl,YX,hom,_⟩:=kq.open_;obtain⟨ra,rc,rfl,Tj,hrm,_⟩:=iM.open_;clear ja kq iM hM hr hn;generalize yU:x.objs.length=n at*;generalize hmm:x.roots.length=m at*;generalize tJ:x.next=nx at*;have tz:=af yU;clear yU;have yX:=af hmm;clear hmm;have uK:=af tJ;clear tJ;obtain⟨q0,hq0⟩:=bS (cw (xL la x.lines.length lc) (xL oa n oc) (xL ra m rc) nx);have HQ0:=af hq0;have mf:Hd (∀W,Bx w [q0] W->di W w (cw (xL la x.lines.length lc) (xL oa n oc) (xL ra m rc) nx)):=λW hb=>by rw[<-HQ0.o];exact hb.bG rfl
 clear hq0;go_enter func32,ntmps32;go_upto_region 1 with fail;obtain⟨W0,vT⟩:=bS (w.alloc (cw (xL la x.lines.length lc) (xL oa n oc) (xL ra m rc) nx));have bW:=af (show Bx w [q0] W0 by rw[vT,HQ0.o];exact Bx.eD w _);have HZE:=af (show W0.heap.size=w.heap.size+1 by rw[vT];simp);unfold cw at vT;rw[<-vT];clear vT;obtain⟨c0,c1,c2,c3⟩:=ae (mf.o _ bW.o);have HJ:Hd (aq W0 W0):=dQ;have dr:Hd (∀W,aq W0 W->ox W w 0 (xL la x.lines.length lc)/\ox W w 3 (xI nx)):=λW hb=>by
  obtain⟨k0,k1,k2,k3⟩:=ae (mf.o _ (bW.o.below hb));exact⟨k0,k3⟩
 have jN:Hd (∀W,aq W0 W->aq w W):=λW hb=>(bW.o.below hb).1;have ej:=bW.o.bF;simp only[Qcc,Qcd]at ej;have KP:=af ej;go_cut [3](λs3 wx=>∃B p b,s3=xP B/\Hd (X9 x.lines nx M w q0 B p b (xL la x.lines.length lc) wx));case first=>
  go_region_held3(λw'=>w'.cell? ⟨w.heap.size,0,none⟩=some (xL la x.lines.length lc)/\w'.cell? ⟨w.heap.size,3,none⟩=some (xI nx))
   (with_reducible first|exact dr.o _ dE.o|exact dr.o _ dE.o.drew|exact dr.o _ HJ.o|exact dr.o _ HJ.o.drew|exact dr.o _ (dE.o.alloc dE.o.size _)|fail)
   (first
     |(go_at_call 55;refine(NY.o _ (by with_reducible first|exact jN.o _ HJ.o|exact jN.o _ HJ.o.drew)).mono ?_;rintro e w3⟨p,b,rfl,uE,aF,yW,F5,bP,KX,tm⟩;have Gh:=af KX;have HPB:=af (And.intro uE (And.intro aF yW));have dE:Hd (aq W0 w3):=(by with_reducible first|exact af tm|exact af (VP tm));clear KX tm uE aF yW F5 bP)
     |fail);all_goals(go_wp2;go_meet)
  all_goals
   have hze:=HZE.o;have uE:W0.heap.size<=p:=HPB.o.1;have aF:W0.heap.size<=b:=HPB.o.2.1;exact⟨_,p,b,rfl,af (X9.of (bW.o.below dE.o) (λN hN=>Gh.o N (λi hi=>(hN i hi).imp_right λh=>(by show W0.heap.size<=i;omega))) (by omega) (by omega) HPB.o.2.2)⟩
 case rest=>
  obtain⟨B,p,b,rfl,HL⟩:=hcut;have Uq:=af (HL.o.start lM.o);have hBl:=(Qaa.1 HL.o.cell).1;have bC:∀o o',((wc.alloc o).alloc o').heap[B]? =some (ZI (xL la x.lines.length lc) p nx):=λo o'=>((((Qbg _ wc).alloc bN o).alloc (by simp) o').block B hBl).trans HL.o.cell;have bP:∀u o o',(((wc.setCell ⟨B,2,none⟩ u).alloc o).alloc o').heap[B]? =some (xK #[xL la x.lines.length lc,xP p,u, .map none,xI nx] 168):=λu o o'=>((((Qbg _ (wc.setCell ⟨B,2,none⟩ u)).alloc bN o).alloc (by simp) o').block B (by simpa using hBl)).trans (by have:=Qca wc B 2 _ _ u HL.o.cell;simpa [ZI]using this);have v0:=λo o'=>dX (bC o o');have v1:=λo o'=>ag (bC o o') 2;have v3:=λu o o'=>dX (bP u o o');have v2:=λu o o'=>ag (bP u o o') 3;clear c0 c1 c2 c3 bC bP;go_upto_region 3 with fail;clear v0 v1 v2 v3 hBl;obtain⟨W2,gS⟩:=bS (VT wc B);rw[<-gS]at Uq;unfold VT at gS;rw[<-gS];clear gS;have KB:w.heap.size+1<=wc.heap.size:=by have h1:=HL.o.bx.bF;simpa using h1
  generalize wc.heap.size=mo at*;have HC:Hd (Cb w B p b mo (mo+1)):=Uq.o.2.2;have gM:Hd (FU x M w q0 B p b mo (mo+1) (xL la x.lines.length lc) 0 0 W2):=⟨Uq.o.1,by simpa [uK.o]using Uq.o.2.1⟩;have Bk:=af KB;clear KB;clear Uq HL;obtain⟨c0,c1,c2,c3⟩:=ae (mf.o _ gM.o.bx);go_wp2_with fail;clear c0 c1 c2 c3;go_loopg [5,28]n(λgg _ iv wr=>∃i:Nat,i<=n/\gg=n-i/\iv=xI i/\Hd (FU x M w q0 B p b mo (mo+1) (xL la x.lines.length lc) i 0 wr));case atStart=>exact⟨0,Qbf _,rfl,rfl,gM⟩
  case round=>
   obtain⟨i,hi,rfl,rfl,HS⟩:=hrel;by_cases bu:i<n
   .obtain⟨o,ho⟩:=eB x.objs i (by rw[tz.o];exact bu);obtain⟨b',off,cap,va,vc,hv,cR,dA,ay⟩:=HO.o i o ho;obtain⟨rfl,rfl⟩:oa=some ⟨b',off,none⟩/\oc=cap:=by first|simpa using hv|(rw[tz.o]at hv;simpa using hv)
    obtain⟨q0',q1',q2',q3'⟩:=ay wr HS.o.bx.1;clear hv ay;go_upto_region 6 with fail;obtain⟨W6,nY⟩:=bS (wr.alloc (dV o (xL va o.aR.length vc)));have C3:=af (show di W6 wr (dV o (xL va o.aR.length vc))by rw[nY];exact Qbh wr _);have vw:=af (show FU x M w q0 B p b mo (mo+1) (xL la x.lines.length lc) i 0 W6 by rw[nY];exact HS.o.below bM);have zU:Hd (FU x M w q0 B p b mo (mo+1) (xL la x.lines.length lc) i 0 W6.drew):=vw.o.below dQ.drew;unfold dV at nY;rw[<-nY];clear nY q0' q1' q2' q3';obtain⟨wa,ea,ma⟩:=vw.o.put HC.o N0.o lM.o Bk.o ho dA;obtain⟨wb,eb,mb⟩:=zU.o.put HC.o N0.o lM.o Bk.o ho dA;have R4:=af ma;have Cy:=af mb;clear ma mb dA;dsimp only[rh]at ea eb;obtain⟨x0,x1,x2,x3⟩:=ae C3.o;obtain⟨y0,y1,y2,y3,y4⟩:=dX vw.o.bn.cell;go_region_law fail;all_goals
     clear x0 x1 x2 x3 y0 y1 y2 y3 y4 ea eb;go_wp2;go_roundg(n-(i+1));case measure=>omega
     case rel=>first|exact⟨i+1,by omega,rfl,by go_num,Cy⟩|exact⟨i+1,by omega,rfl,by go_num,R4⟩
   .obtain rfl:i=n:=by omega
    obtain⟨c0,c1,c2,c3⟩:=ae (mf.o _ HS.o.bx);go_wp2_with fail;clear c0 c1 c2 c3;go_loopg [7,43]m(λgg _ iv wr=>∃j:Nat,j<=m/\gg=m-j/\iv=xI j/\Hd (FU x M w q0 B p b mo (mo+1) (xL la x.lines.length lc) i j wr));case atStart=>exact⟨0,Qbf _,rfl,rfl,HS⟩
    case round=>
     obtain⟨j,hj,rfl,rfl,HT⟩:=hrel;by_cases bu:j<m
     .obtain⟨r,hr⟩:=eB x.roots j (by rw[yX.o];exact bu);obtain⟨b',off,cap,hv,cR,_,ay⟩:=HR.o j r hr;obtain⟨rfl,rfl⟩:ra=some ⟨b',off,none⟩/\rc=cap:=by first|simpa using hv|(rw[yX.o]at hv;simpa using hv)
      obtain⟨q0',q1'⟩:=ay wr HT.o.bx.1;clear hv ay;go_upto_region 11 with fail;obtain⟨W6,nY⟩:=bS (wr.alloc (xK #[xS r.name,xI r.id] 86));have C3:=af (show di W6 wr (xK #[xS r.name,xI r.id] 86)by rw[nY];exact Qbh wr _);have vw:=af (show FU x M w q0 B p b mo (mo+1) (xL la x.lines.length lc) i j W6 by rw[nY];exact HT.o.below bM);have zU:Hd (FU x M w q0 B p b mo (mo+1) (xL la x.lines.length lc) i j W6.drew):=vw.o.below dQ.drew;rw[<-nY];clear nY q0' q1';obtain⟨wa,ea,ma⟩:=vw.o.sM HC.o Gc.o (by have:=Bk.o;omega) hr;obtain⟨wb,eb,mb⟩:=zU.o.sM HC.o Gc.o (by have:=Bk.o;omega) hr;have R4:=af ma;have Cy:=af mb;clear ma mb;obtain⟨x0,x1⟩:=ah C3.o;obtain⟨y0,y1,y2,y3,y4⟩:=dX vw.o.bn.cell;go_region_law fail;all_goals
       clear x0 x1 y0 y1 y2 y3 y4 ea eb;go_wp2;go_roundg(m-(j+1));case measure=>omega
       case rel=>first|exact⟨j+1,by omega,rfl,by go_num,Cy⟩|exact⟨j+1,by omega,rfl,by go_num,R4⟩
     .obtain rfl:j=m:=by omega
      go_wp2;go_ret;refine⟨B,p,b,mo,mo+1,rfl,HC.o,?_,HT.o.bx.1⟩;have hb:=HT.o.bn;rw[Qah (by rw[tz.o];exact bN),Qah (by rw[yX.o];exact bN)]at hb;exact hb
abbrev zC(r:eW)(vv fv:an):an:= .agg #[xI r.kind,xI r.obj.id,xI r.obj.cls,xI r.obj.ver,vv,xI r.id,xI r.ver,xS r.name,xS r.cls.name,fv,xI r.chg.kind,xS r.chg.field,xS r.chg.name,xS r.chg.more,xI r.chg.type.kind,xI r.chg.type.of,xS r.chg.expr,xS r.chg.other]
def og(r:eW)(vv fv:an):Obj:=xK #[xI r.kind,xI r.obj.id,xI r.obj.cls,xI r.obj.ver,vv,xI r.id,xI r.ver,xS r.name,xS r.cls.name,fv,xI r.chg.kind,xS r.chg.field,xS r.chg.name,xS r.chg.more,xI r.chg.type.kind,xI r.chg.type.of,xS r.chg.expr,xS r.chg.other] 75
def gD {W:aj}{r:eW}{vv:an}(h:bR W g (og r vv fv)):bt W g 0 (xI r.kind)/\bt W g 1 (xI r.obj.id)/\bt W g 2 (xI r.obj.cls)/\bt W g 3 (xI r.obj.ver)/\bt W g 4 vv/\bt W g 5 (xI r.id)/\bt W g 6 (xI r.ver)/\bt W g 7 (xS r.name)/\bt W g 8 (xS r.cls.name)/\bt W g 9 fv:=by
 unfold og at h;simp[World.cell?,h]
def Uh(B b mo mr:Nat):Nat->Prop:=λi=>i=B\/i=b\/i=mo\/i=mr
section
variable {x:aX}{M:aN}{w0 W W':aj}{B p b mo mr:Nat}{sv:an}
theorem Cb.bd(c:Cb w0 B p b mo mr)(h:cP x (kX M B b mo mr) B p b mo mr sv W)(hb:aq w0 W)(hM:Bd M w0):Bd (kX M B b mo mr) W:=λi hi=>by
 rcases hi with hi|hi|hi|hi|hi
 .exact Qde (hM i hi) hb.size
 .rw[hi];exact(Qaa.1 h.cell).1
 .rw[hi];exact h.book.lt.2
 .rw[hi];exact h.objs.lt
 .rw[hi];exact h.roots.lt
theorem Cb.ev(c:Cb w0 B p b mo mr)(hb:aq w0 W):Ev M w0 (kX M B b mo mr) W:=⟨ai.ao hb,λi hi=>by
 have:=c.B0;have:=c.b0;have:=c.o0;have:=c.r0;rcases hi with hi|hi|hi|hi|hi
 .exact .inl hi
 all_goals(right;omega)⟩
theorem Cb.below(c:Cb w0 B p b mo mr)(hb:aq w0 W)(ho:ai (Uh B b mo mr) W W'):aq w0 W':=aS hb hb.size ho λi hi=>by
 have:=c.B0;have:=c.b0;have:=c.o0;have:=c.r0;rcases hi with hi|hi|hi|hi<;>omega
theorem cP.ZJ(h:cP x (kX M B b mo mr) B p b mo mr sv W)(c:Cb w0 B p b mo mr)(hk:je x.lines (kX M B b mo mr) p b sv W')(ho:ai (λi=>i=b) W W'):cP x (kX M B b mo mr) B p b mo mr sv W':=by
 have hE:Ev (kX M B b mo mr) W (kX M B b mo mr) W':=⟨ho.mono λi hi=> .inr (.inr (.inl hi)),λi hi=> .inl hi⟩;exact⟨(ho.block _ (Qaa.1 h.cell).1 c.Bb).trans h.cell,hk,h.objs.ev hE (ho.block _ h.objs.lt c.ob),h.roots.ev (ho.block _ h.roots.lt c.rb)⟩
theorem cP.ZK(h:cP x (kX M B b mo mr) B p b mo mr sv W)(c:Cb w0 B p b mo mr){o:bE}{vv:an}(hv:ab (kX M B b mo mr) W vv o.aR):∃W',(Instr.mapUpdate 113 (.map (some mo)) (xI o.id) (rh o vv)).run prog W= .ok () W'/\cP ⟨x.lines,qA x.objs o,x.roots,x.next⟩ (kX M B b mo mr) B p b mo mr sv W'/\ai (λi=>i=mo) W W':=by
 obtain⟨W',e1,e2,e3⟩:=h.objs.put (o:=o) (vv:=vv) (.inr (.inr (.inr (.inl rfl)))) hv;refine⟨W',e1,⟨?_,?_,e2,?_⟩,e3⟩
 .exact(e3.block _ (Qaa.1 h.cell).1 c.Bo).trans h.cell
 .exact h.book.ev ⟨e3.mono (λk hk=> .inr (.inr (.inr (.inl hk)))),λk hk=> .inl hk⟩ (e3.block _ h.book.lt.1 (λe=>c.op e.symm)) (e3.block _ h.book.lt.2 (λe=>c.ob e.symm))
 .exact h.roots.ev (e3.block _ h.roots.lt (λe=>c.or e.symm))
theorem cP.Kl(h:cP x (kX M B b mo mr) B p b mo mr sv W)(c:Cb w0 B p b mo mr)(r:aV):∃W',(Instr.mapUpdate 114 (.map (some mr)) (xS r.name) (xI r.id)).run prog W= .ok () W'/\cP ⟨x.lines,x.objs,sM x.roots r,x.next⟩ (kX M B b mo mr) B p b mo mr sv W'/\ai (λi=>i=mr) W W':=by
 obtain⟨W',e1,e2,e3⟩:=h.roots.put (r:=r);have hE:Ev (kX M B b mo mr) W (kX M B b mo mr) W':=⟨e3.mono (λk hk=> .inr (.inr (.inr (.inr hk)))),λk hk=> .inl hk⟩;refine⟨W',e1,⟨?_,?_,?_,e2⟩,e3⟩
 .exact(e3.block _ (Qaa.1 h.cell).1 c.Br).trans h.cell
 .exact h.book.ev hE (e3.block _ h.book.lt.1 (λe=>c.rp e.symm)) (e3.block _ h.book.lt.2 (λe=>c.rb e.symm))
 .exact h.objs.ev hE (e3.block _ h.objs.lt c.or)
theorem cP.PV(h:cP x (kX M B b mo mr) B p b mo mr sv W)(c:Cb w0 B p b mo mr)(n:Int):cP ⟨x.lines,x.objs,x.roots,n⟩ (kX M B b mo mr) B p b mo mr sv (W.setCell ⟨B,4,none⟩ (xI n))/\ai (λi=>i=B) W (W.setCell ⟨B,4,none⟩ (xI n)):=by
 have e3:ai (λi=>i=B) W (W.setCell ⟨B,4,none⟩ (xI n)):=(ai.refl (λi=>i=B) W).setCell (.inl rfl) _;have hE:Ev (kX M B b mo mr) W (kX M B b mo mr) (W.setCell ⟨B,4,none⟩ (xI n)):=⟨e3.mono (λk hk=> .inr (.inl hk)),λk hk=> .inl hk⟩;refine⟨⟨?_,?_,?_,?_⟩,e3⟩
 .have:=Qca W B 4 _ _ (xI n) h.cell;simpa [bnO]using this
 .exact h.book.ev hE (e3.block _ h.book.lt.1 (λe=>c.Bp e.symm)) (e3.block _ h.book.lt.2 (λe=>c.Bb e.symm))
 .exact h.objs.ev hE (e3.block _ h.objs.lt (λe=>c.Bo e.symm))
 .exact h.roots.ev (e3.block _ h.roots.lt (λe=>c.Br e.symm))
end
def ES(a b:Int):Int:=if a<b then b else a
def VV(x:aX)(hx:dK x.lines)(r:eW)(k v:Nat)(l:aH)(ho:iS x.lines 100000 r.obj k v l)(hid:1<=r.obj.id/\r.obj.id<=100000)(tJ:1<=x.next/\x.next<=100001)(M:aN)(w0 W:aj)(hM:Bd M w0)(hG:Gd w0)(lZ:aq w0 W)(B p b mo mr:Nat)(hC:Cb w0 B p b mo mr)(sv vv fv:an)(hB:cP x (kX M B b mo mr) B p b mo mr sv W)(dA:ab M w0 vv r.obj.aR)(tI:∃fa fn fc,fv=xL fa fn fc):
 xC 33 #[xP B,zC r vv fv] W λe w'=>e=xR (xI 0)/\cP ⟨x.lines,qA x.objs r.obj,x.roots,ES x.next (r.obj.id+1)⟩ (kX M B b mo mr) B p b mo mr sv w'/\ai (Uh B b mo mr) W w':=by
 have YX:Hb 100000 r.obj:=by
  have h4:=(Qad.1 ho.line).1;have h5:=hx.len;have h6:=hx.lines l (Qaf ho.line);have h7:=h6.len;have h8:=((bo (aI l v)).1 (h6.kk v).right).2.1;have h9:=ho.aR.1;have KQ:=ho.le;exact⟨by omega,by omega,by rw[ho.cls];omega,by rw[ho.cls];omega,by rw[ho.ver];omega,by rw[ho.ver];omega,⟨_,ho.aR⟩,by omega⟩
 have HRB:Hd (∀W1,aq W W1->_):=λW1 hb=>Mu x.lines hx k l ho.line r.obj v 100000 (Int.le_refl _) ho.cls ho.ver ho.le YX ho.aR (kX M B b mo mr) w0 W1 ((hC.bd hB lZ hM).below hb) hG (lZ.trans (hb.mono lZ.size)) p b hC.pb (.inr (.inr (.inl rfl))) hC.b0 sv vv (hB.below hb).book ((dA.ev (hC.ev lZ)).below hb);have nJ:=af hB;have qk:=af hC;have zj:=af (dA.ev (hC.ev lZ):ab (kX M B b mo mr) W vv r.obj.aR);have Rh:=dA;obtain⟨va,vc,rfl,_⟩:=Rh.open_;obtain⟨fa,fn,fc,rfl⟩:=tI;obtain⟨y0,y1,y2,y3,y4⟩:=dX hB.cell;have Cz:=af (Qaa.1 hB.cell).1;clear dA Rh hB hC hG hM ho YX hx lZ;have qhx:Hd (∀a b:Int,ES a b=if a<b then b else a):=λa b=>rfl;obtain⟨rk,ro,ri,rv,rn,⟨rcn,rcf⟩,⟨rx0,rx1,rx2,rx3,⟨rx4,rx5⟩,rx6,rx7⟩⟩:=r;obtain⟨oi,oc,ov,os⟩:=ro;obtain⟨xl,xo,xr,nx⟩:=x;dsimp only at*;obtain⟨rD,hrD⟩:=bS ((⟨rk,⟨oi,oc,ov,os⟩,ri,rv,rn,⟨rcn,rcf⟩,⟨rx0,rx1,rx2,rx3,⟨rx4,rx5⟩,rx6,rx7⟩⟩:eW));go_enter func33,ntmps33;go_upto_region 1 with fail;obtain⟨W1,bT⟩:=bS (W.alloc (og rD (xL va os.length vc) (xL fa fn fc)));have fL:=af (show di W1 W (og rD (xL va os.length vc) (xL fa fn fc))by rw[bT];exact Qbh W _);have aY:=af (show aq W W1 by rw[bT];exact bM);rw[hrD]at fL bT;unfold og at bT;dsimp only at bT;rw[<-bT];clear bT hrD y0 y1 y2 y3 y4;have HJ:Hd (aq W1 W1):=dQ;have N2:=af (Qaa.1 fL.o).1;have dr:Hd (∀V,aq W1 V->bt V B 1 (xP p)/\ox V W 1 (xI oi)/\ox V W 2 (xI oc)/\ox V W 3 (xI ov)/\ox V W 4 (xL va os.length vc)):=λV hb=>by
  obtain⟨k0,k1,k2,k3,k4,_⟩:=gD ((hb.block _ N2.o).trans fL.o);have h5:=(dX ((nJ.o.below aY.o).below hb).cell).2.1;exact⟨h5,k1,k2,k3,k4⟩
 have qeu:W.heap.size≠b:=λe=>by have h1:=nJ.o.book.lt.2;omega
 have ot:Hd (∀V,ai (λi=>i=b) W1 V->bt V B 1 (xP p)/\ox V W 1 (xI oi)/\ox V W 2 (xI oc)/\ox V W 3 (xI ov)/\ox V W 4 (xL va os.length vc)):=λV ho=>by
  obtain⟨k0,k1,k2,k3,k4,_⟩:=gD ((ho.block _ N2.o qeu).trans fL.o);have h6:=(nJ.o.below aY.o).cell;have h5:=(dX ((ho.block _ (Qaa.1 h6).1 qk.o.Bb).trans h6)).2.1;exact⟨h5,k1,k2,k3,k4⟩
 have zO:Hd (∀V,ai (λi=>i=b) W1.drew V->_):=λV ho=>ot.o V (((ai.refl _ W1).drew).trans ho);obtain⟨z0,z1,z2,z3,z4⟩:=dr.o _ HJ.o;go_cut [12](λs12 wx=>s12=xB false/\Hd (cP ⟨xl,xo,xr,nx⟩ (kX M B b mo mr) B p b mo mr sv wx/\ai (λi=>i=b) W1 wx));case first=>
  go_region_held3(λV=>bt V B 1 (xP p)/\ox V W 1 (xI oi)/\ox V W 2 (xI oc)/\ox V W 3 (xI ov)/\ox V W 4 (xL va os.length vc))
   (with_reducible first|exact dr.o _ HJ.o|exact dr.o _ HJ.o.drew|exact ot.o _ kY.o|exact zO.o _ kY.o|fail)
   (first
     |(go_at_call 82;refine(HRB.o _ (by with_reducible first|exact aY.o|exact aY.o.drew)).mono ?_;rintro e w3⟨rfl,yT,jx⟩;have Gh:=af yT;have kY:=af jx;clear yT jx)
     |fail);all_goals(go_wp2;go_meet)
  all_goals exact⟨rfl,af ⟨(nJ.o.below aY.o).ZJ qk.o Gh.o (by first|exact kY.o|exact((ai.refl _ W1).drew).trans kY.o),(by first|exact kY.o|exact((ai.refl _ W1).drew).trans kY.o)⟩⟩
 case rest=>
  obtain⟨rfl,HX⟩:=hcut;clear z0 z1 z2 z3 z4;have Fz:W.heap.size≠b:=λe=>by have h1:=nJ.o.book.lt.2;omega
  have Yr:=af ((HX.o.2.block _ N2.o Fz).trans fL.o);have YR:Hd (ab (kX M B b mo mr) wc (xL va os.length vc) os):=(zj.o.below aY.o).ev ⟨HX.o.2.mono (λi hi=> .inr (.inr (.inl hi))),λi hi=> .inl hi⟩;obtain⟨wa,ea,ma⟩:=HX.o.1.ZK qk.o (o:=⟨oi,oc,ov,os⟩) YR.o;obtain⟨wb,eb,mb⟩:=(HX.o.1.below (Qbg _ wc).drew).ZK qk.o (o:=⟨oi,oc,ov,os⟩) (YR.o.below (Qbg _ wc).drew);have R4:=af ma;have Cy:Hd (cP ⟨xl,qA xo ⟨oi,oc,ov,os⟩,xr,nx⟩ (kX M B b mo mr) B p b mo mr sv wb/\ai (λi=>i=mo) wc wb):=⟨mb.1,((ai.refl _ wc).drew).trans mb.2⟩;clear ma mb;dsimp only[rh]at ea eb;obtain⟨k0,k1,k2,k3,k4,_⟩:=gD Yr.o;obtain⟨y0,y1,y2,y3,y4⟩:=dX HX.o.1.cell;dsimp only at k0 k1 k2 k3 k4;obtain⟨wr,XF⟩:=bS (wc);have F7:=af XF;clear XF;go_upto_region 3 with fail;go_cut [](λwx=>Hd (cP ⟨xl,qA xo ⟨oi,oc,ov,os⟩,xr,nx⟩ (kX M B b mo mr) B p b mo mr sv wx/\ai (λi=>i=mo) wr wx));case first=>
   go_region_law fail;all_goals go_wp2_with fail
   all_goals go_meet
   all_goals rw[F7.o]
   all_goals first|exact Cy|exact R4|trace_state
  case rest=>
   clear k0 k1 k2 k3 k4 y0 y1 y2 y3 y4 ea eb R4 Cy;have uJ:Hd (ai (λi=>i=mo) wr wc):=hcut.o.2;have bO:Hd (cP ⟨xl,qA xo ⟨oi,oc,ov,os⟩,xr,nx⟩ (kX M B b mo mr) B p b mo mr sv wc):=hcut.o.1;have hmW:W.heap.size≠mo:=λe=>by have h1:=nJ.o.objs.lt;omega
   have WN:=Yr.o;rw[<-F7.o]at WN;have Nq:=af ((uJ.o.block _ (Qaa.1 WN).1 hmW).trans WN);clear WN;obtain⟨k0,k1,k2,k3,k4,_⟩:=gD Nq.o;obtain⟨y0,y1,y2,y3,y4⟩:=dX bO.o.cell;have g4:=ag bO.o.cell 4;dsimp only at k0 k1 k2 k3 k4 y4;have hw1:IntKind.i64.wrap (oi+1)=oi+1:=Qbe _ (by omega);obtain⟨mx,lL⟩:=bS (ES nx (oi+1));have rF:(if nx<oi+1 then oi+1 else nx)=mx:=by rw[lL];rfl
   have CR:(if oi+1<nx then nx else oi+1)=mx:=by rw[lL];unfold ES;split<;>split<;>omega
   have Ns:(if nx<=oi+1 then oi+1 else nx)=mx:=by rw[lL];unfold ES;split<;>split<;>omega
   have hm4:(if oi+1<=nx then nx else oi+1)=mx:=by rw[lL];unfold ES;split<;>split<;>omega
   have hm5:max nx (oi+1)=mx:=by rw[lL,Int.max_def];unfold ES;split<;>split<;>omega
   have qev:=af lL;clear lL;have HN4:Hd (∀V:aj,V=wc.setCell ⟨B,4,none⟩ (xI mx)\/V=wc.drew.setCell ⟨B,4,none⟩ (xI mx)\/V=(wc.setCell ⟨B,4,none⟩ (xI mx)).drew->cP ⟨xl,qA xo ⟨oi,oc,ov,os⟩,xr,mx⟩ (kX M B b mo mr) B p b mo mr sv V/\ai (λi=>i=B) wc V):=λV hV=>by
    rcases hV with rfl|rfl|rfl
    .exact bO.o.PV qk.o mx
    .have:=(bO.o.below (Qbg _ wc).drew).PV qk.o mx;exact⟨this.1,((ai.refl _ wc).drew).trans this.2⟩
    .have:=bO.o.PV qk.o mx;exact⟨this.1.below dQ.drew,this.2.drew⟩
   obtain⟨w4,hw4⟩:=bS (wc);have mf:=af hw4;clear hw4;go_upto_region 4 with fail;go_cut [](λwx=>Hd (cP ⟨xl,qA xo ⟨oi,oc,ov,os⟩,xr,mx⟩ (kX M B b mo mr) B p b mo mr sv wx/\ai (λi=>i=B) w4 wx));case first=>
    go_region_law fail;all_goals go_wp2_with fail
    all_goals go_meet
    all_goals rw[mf.o]
    all_goals first|exact af (HN4.o _ (.inl rfl))|exact af (HN4.o _ (.inr (.inl rfl)))|exact af (HN4.o _ (.inr (.inr rfl)))|trace_state
   case rest=>
    have HF:Hd (cP ⟨xl,qA xo ⟨oi,oc,ov,os⟩,xr,mx⟩ (kX M B b mo mr) B p b mo mr sv wc/\ai (λi=>i=B) w4 wc):=hcut.o;clear k0 k1 k2 k3 k4 y0 y1 y2 y3 y4 g4;go_wp2;go_ret;refine⟨rfl,by rw[<-qev.o];exact HF.o.1,?_⟩;have o1:ai (Uh B b mo mr) W W1:=ai.ao aY.o;have o2:ai (Uh B b mo mr) W1 wr:=by rw[F7.o];exact HX.o.2.mono (λi hi=> .inr (.inl hi))
    have o3:ai (Uh B b mo mr) wr w4:=by rw[mf.o];exact uJ.o.mono (λi hi=> .inr (.inr (.inl hi)))
    exact((o1.trans o2).trans o3).trans (HF.o.2.mono (λi hi=> .inl hi))
def SQ(x:aX)(r:eW)(hn:aB r.name=true/\r.name.size<=maxLen)(hid:1<=r.id/\r.id<=100000)(M:aN)(w0 W:aj)(lZ:aq w0 W)(B p b mo mr:Nat)(hC:Cb w0 B p b mo mr)(sv vv fv:an)(hB:cP x (kX M B b mo mr) B p b mo mr sv W)(C2:∃fa fn fc,vv=xL fa fn fc)(tI:∃fa fn fc,fv=xL fa fn fc):
 xC 34 #[xP B,zC r vv fv] W λe w'=>e=xR (xI 0)/\cP ⟨x.lines,x.objs,sM x.roots ⟨r.name,r.id⟩,x.next⟩ (kX M B b mo mr) B p b mo mr sv w'/\ai (Uh B b mo mr) W w':=by
 have Gc:Hd (∀W,_):=λW=>sS r.name hn.1 hn.2 W;have nJ:=af hB;have qk:=af hC;obtain⟨va,vn,vc,rfl⟩:=C2;obtain⟨fa,fn,fc,rfl⟩:=tI;clear hB hC lZ hn;obtain⟨rk,ro,ri,rv,rn,⟨rcn,rcf⟩,⟨rx0,rx1,rx2,rx3,⟨rx4,rx5⟩,rx6,rx7⟩⟩:=r;obtain⟨oi,oc,ov,os⟩:=ro;obtain⟨xl,xo,xr,nx⟩:=x;dsimp only at*;obtain⟨rD,hrD⟩:=bS ((⟨rk,⟨oi,oc,ov,os⟩,ri,rv,rn,⟨rcn,rcf⟩,⟨rx0,rx1,rx2,rx3,⟨rx4,rx5⟩,rx6,rx7⟩⟩:eW));go_enter func34,ntmps34;go_upto_region 1 with fail;obtain⟨W1,bT⟩:=bS (W.alloc (og rD (xL va vn vc) (xL fa fn fc)));have fL:=af (show di W1 W (og rD (xL va vn vc) (xL fa fn fc))by rw[bT];exact Qbh W _);have aY:=af (show aq W W1 by rw[bT];exact bM);rw[hrD]at fL bT;unfold og at bT;dsimp only at bT;rw[<-bT];clear bT hrD;have N2:=af (Qaa.1 fL.o).1;obtain⟨-,-,-,-,-,k5,-,k7,-⟩:=gD fL.o;dsimp only at k5 k7;have h1:¬ri<0:=by omega
 have h2:¬100000<ri:=by omega
 go_wp2_with fail;refine bY (Gc.o _) λw1 aF=> ?_;have aQ:=af (aY.o.trans (aF.mono aY.o.size));have fU:=af ((aF.block _ N2.o).trans fL.o);clear aF k5 k7;obtain⟨-,-,-,-,-,k5,-,k7,-⟩:=gD fU.o;dsimp only at k5 k7;have h3:¬ri=0:=by omega
 obtain⟨y0,y1,y2,y3,y4⟩:=dX (nJ.o.below aQ.o).cell;dsimp only at y0 y4;obtain⟨wa,ea,ma⟩:=(nJ.o.below aQ.o).Kl qk.o ⟨rn,ri⟩;obtain⟨wb,eb,mb⟩:=((nJ.o.below aQ.o).below (Qbg _ w1).drew).Kl qk.o ⟨rn,ri⟩;have R4:=af ma;have Cy:Hd (cP ⟨xl,xo,sM xr ⟨rn,ri⟩,nx⟩ (kX M B b mo mr) B p b mo mr sv wb/\ai (λi=>i=mr) w1 wb):=⟨mb.1,((ai.refl _ w1).drew).trans mb.2⟩;clear ma mb;dsimp only at ea eb;go_upto_region 5 with fail;go_cut [](λwx=>Hd (cP ⟨xl,xo,sM xr ⟨rn,ri⟩,nx⟩ (kX M B b mo mr) B p b mo mr sv wx/\ai (λi=>i=mr) w1 wx));case first=>
  go_region_law fail;all_goals go_wp2_with fail
  all_goals go_meet
  all_goals first|exact Cy|exact R4|trace_state
 case rest=>
  clear k5 k7 y0 y1 y2 y3 y4 ea eb R4 Cy;go_wp2;go_ret;exact⟨rfl,hcut.o.1,(ai.ao aQ.o).trans (hcut.o.2.mono λi hi=> .inr (.inr (.inr hi)))⟩
def EV:(Tryz.prog.info? 66).map (λi=>(i.zero,i.size,i.bytes))=some (some (.agg #[xI 0,xI 0,xI 0,xL none 0 0]),4,48):=by kernel_rfl
def FV(M:aN)(w:aj)(b P:Nat):Nat->Prop:=λi=>M i\/i=w.heap.size+1\/i=b\/i=P\/i=P+1
structure PW(w:aj)(P p b:Nat):Prop where
 pb:p≠b
 p1:w.heap.size+2<=p
 p2:p<P
 b1:w.heap.size+2<=b
 b2:b<P
structure jW(x:aX)(M:aN)(w:aj)(P p b:Nat)(sv:an)(o0 o1:Obj)(W:aj)(i j:Nat)(v:an):Prop where
 bx:Bx w [o0,o1] W
 book:je x.lines (bg v (FV M w b P)) p b sv W
 late:∃ls:List bE,aK (α:=bE) (FV M w b P) (P+2) 66 W v ls/\ls.length=i/\∀(k:Nat)o,ls[k]? =some o->lG x k o
 place:∃es clk,bD dC W P es clk/\∀n:Int,aZ es n=((x.objs.take j).findIdx? (λo=>decide (o.id=n))).map (λi=>xI (i:Int))
 g:W.heap[P+1]? =some (iY v P)
section
variable {x:aX}{M:aN}{w:aj}{P p b:Nat}{sv:an}{o0 o1:Obj}{W W' w4:aj}{i j:Nat}{v v2:an}
theorem jW.lt(h:jW x M w P p b sv o0 o1 W i j v):P+2<=W.heap.size:=(Qaa.1 h.g).1
theorem jW.below(h:jW x M w P p b sv o0 o1 W i j v)(c:PW w P p b)(hb:aq W W'):jW x M w P p b sv o0 o1 W' i j v:=by
 have hl:=h.lt;have:=c.p2;have:=c.b2;obtain⟨h1,h2,⟨ls,h3,h4⟩,⟨es,clk,h5,h6⟩,h7⟩:=h;exact⟨h1.below hb,h2.ev (Ev.ao hb) (hb.block _ (by omega)) (hb.block _ (by omega)),⟨ls,h3.below hb,h4⟩,⟨es,clk,(hb.block _ (by omega)).trans h5,h6⟩,(hb.block _ (by omega)).trans h7⟩
theorem jW.bd(h:jW x M w P p b sv o0 o1 W i j v)(c:PW w P p b)(hM:Bd M w):Bd (bg v (FV M w b P)) W:=λk hk=>by
 have hl:=h.lt;have:=c.p2;have:=c.b2;have:=c.p1;rcases hk with(hk|hk|hk|hk|hk)|hk
 .exact Qde (hM k hk) h.bx.1.size
 .omega
 .omega
 .omega
 .omega
 .obtain⟨ls,h3,_⟩:=h.late;exact(h3.cJ k hk).2
theorem jW.ev(h:jW x M w P p b sv o0 o1 W i j v)(c:PW w P p b):Ev M w (bg v (FV M w b P)) W:=⟨ai.ao h.bx.1,λk hk=>by
 have:=c.p2;have:=c.b1;have:=c.p1;rcases hk with(hk|hk|hk|hk|hk)|hk
 .exact .inl hk
 .right;omega
 .right;omega
 .right;omega
 .right;omega
 .obtain⟨ls,h3,_⟩:=h.late;have:=(h3.cJ k hk).1;right;omega⟩
theorem jW.SC(h:jW x M w P p b sv o0 o1 W i j v)(c:PW w P p b)(hB:je x.lines (bg v (FV M w b P)) p b sv W')(ho:ai (λk=>k=b) W W'):jW x M w P p b sv o0 o1 W' i j v:=by
 have:=c.p2;have:=c.b2;have:=c.b1;obtain⟨h1,h2,⟨ls,h3,h4⟩,⟨es,clk,h5,h6⟩,h7⟩:=h;exact⟨h1.only ho (λk hk=>by subst hk;simp;omega),hB,⟨ls,h3.only ho (λk hk=>⟨.inr (.inr (.inl hk)),by have hh:k=b:=hk;omega⟩),h4⟩,⟨es,clk,ho.at_ h5 (by omega),h6⟩,ho.at_ h7 (by omega)⟩
theorem jW.next(h:jW x M w P p b sv o0 o1 W i j v)(c:PW w P p b){o:bE}(ho:lG x i o)(ob:Obj){ls:List bE}(h4:ls.length=i)(h4':∀(k:Nat)o,ls[k]? =some o->lG x k o)(hacc:aK (α:=bE) (FV M w b P) (P+2) 66 w4 v2 (ls++[o]))(zS:Ev (bg v (FV M w b P)) (W.alloc ob) (bg v2 (FV M w b P)) w4)(hb:Below (P+2) (W.alloc ob) w4):
 jW x M w P p b sv o0 o1 (w4.setCell ⟨P+1,0,none⟩ v2) (i+1) j v2:=by
 have hl:=h.lt;have c1:=c.p2;have c2:=c.b2;have c3:=c.p1;have e1:∀k,k<P+2->w4.heap[k]? =W.heap[k]? :=λk hk=>(hb.block k hk).trans (((Qbg _ W).alloc bN ob).block k (by omega));have e2:∀k,k≠P+1->k<P+2->(w4.setCell ⟨P+1,0,none⟩ v2).heap[k]? =W.heap[k]? :=λk hn hk=>(Qag _ _ _ _ hn).trans (e1 k hk);have hE:Ev (bg v (FV M w b P)) W (bg v2 (FV M w b P)) (w4.setCell ⟨P+1,0,none⟩ v2):=by
  refine⟨ai.setCell ((ai.refl _ W).alloc ob|>.trans zS.only) (p:=⟨P+1,0,none⟩) (.inl (.inl (.inr (.inr (.inr (.inr rfl)))))) _,λk hk=> ?_⟩;rcases zS.sub k hk with h1|h1
  .exact .inl h1
  .right;have:(W.alloc ob).heap.size=W.heap.size+1:=by simp
   omega
 obtain⟨h1,h2,_,⟨es,clk,h5,h6⟩,h7⟩:=h;refine⟨?_,h2.ev hE (e2 _ (by omega) (by omega)) (e2 _ (by omega) (by omega)),⟨ls++[o],?_,by simp[h4],λk y hy=> ?_⟩,⟨es,clk,(e2 _ (by omega) (by omega)).trans h5,h6⟩,?_⟩
 .exact((h1.alloc ob).du hb (by simp;omega)).du (B:=P+1) ((Qbg (P+1) w4).setCell (p:=⟨P+1,0,none⟩) (Qab (P+1)) v2) (by simp;omega)
 .exact hacc.vz (p:=⟨P+1,0,none⟩) (.inr (.inr (.inr (.inr rfl)))) (by show P+1<P+2;omega) _
 .by_cases hk:k<ls.length
  .rw[Qbc hk]at hy;exact h4' k y hy
  .have:k=ls.length:=by
    have:=(Qad.1 hy).1;simp at this;omega
   subst this;simp at hy;subst hy;rw[h4];exact ho
 .have:=Qca w4 (P+1) 0 _ _ v2 ((e1 _ (by omega)).trans h7);simpa [iY]using this
theorem jW.put(hw:gi x)(h:jW x M w P p b sv o0 o1 W i j v)(c:PW w P p b){o:bE}(ho:x.objs[j]? =some o):∃W',(Instr.mapUpdate 87 (.map (some P)) (xI o.id) (xI (j:Int))).run prog W= .ok () W'/\jW x M w P p b sv o0 o1 W' i (j+1) v:=by
 have hl:=h.lt;have c1:=c.p2;have c2:=c.b2;have c3:=c.p1;obtain⟨h1,h2,⟨ls,h3,h4⟩,⟨es,clk,h5,h6⟩,h7⟩:=h;have CJ:=(Qad.1 ho).1;have Bi:(x.objs.take j).findIdx? (λp=>decide (p.id=o.id))=none:=by
  refine List.findIdx?_eq_none_iff.2 λp hp=> ?_;obtain⟨k,hk⟩:=List.getElem?_of_mem hp;rw[List.getElem?_take]at hk;split at hk
  .rename_i bu;have:=jt hw.rise hk ho;simp only[decide_eq_false_iff_not];intro e;have:=this e;omega
  .cases hk
 have FJ:aZ es o.id=none:=by rw[h6,Bi];rfl
 obtain⟨W',mO,hm,zT⟩:=bD.SJ dC underlying87 dW ey h5 o.id (.int .i64 (j:Int)) FJ;refine⟨W',mO,⟨h1.only zT (λk hk=>by subst hk;simp;omega),h2.ev ⟨zT.mono (λk hk=> .inl (.inr (.inr (.inr (.inl hk))))),λk hk=> .inl hk⟩ (zT.block _ (by omega) (by omega)) (zT.block _ (by omega) (by omega)),⟨ls,h3.only zT (λk hk=>⟨.inr (.inr (.inr (.inl hk))),by have hh:k=P:=hk;omega⟩),h4⟩,⟨_,_,hm,λn=> ?_⟩,zT.at_ h7 (by omega)⟩⟩;rw[uu n FJ,h6,Qbb,ho,List.findIdx?_append];by_cases hn:n=o.id
 .rw[if_pos hn,hn,Bi];have:(x.objs.take j).length=j:=by rw[Qdb];omega
  simp[List.findIdx?_cons,this]
 .rw[if_neg hn];have:decide (o.id=n)=false:=by simpa usingλe=>hn e.symm
  cases(x.objs.take j).findIdx? (λo=>decide (o.id=n))<;>simp[List.findIdx?_cons,this]
theorem jW.fin(h:jW x M w P p b sv o0 o1 W x.objs.length x.objs.length v)(c:PW w P p b)(hM:Bd M w)(ho:ai (λk=>k=w.heap.size+1) W W'):Kd x M W' v P:=by
 have hl:=h.lt;have c1:=c.p2;have c2:=c.b2;have c3:=c.p1;obtain⟨h1,h2,⟨ls,h3,h4,h4'⟩,⟨es,clk,h5,h6⟩,h7⟩:=h;refine⟨⟨ls,?_,h4,h4'⟩,es,clk,ho.at_ h5 (by omega),λk=> ?_⟩
 .have hs:=(h3.only ho (λk hk=>⟨.inr (.inl hk),by have hh:k=w.heap.size+1:=hk;omega⟩)).slice (λk hk=> ?_)
  .exact hs.ev (Ev.dD _ λk hk=> .inl hk)
  .rcases hk with hk|hk|hk|hk|hk
   .have:=hM k hk;omega
   .omega
   .omega
   .omega
   .omega
 .rw[h6,Qah bN]
end
def MB(x:aX)(h:gi x){M:aN}{w:aj}(hM:Bd M w)(hG:Gd w){P p b:Nat}(c:PW w P p b){i:Nat}{o:bE}(ho:x.objs[i]? =some o):
 ∃(k ln:Nat),∀(W:aj)(sv v va:an)(o0 o1:Obj)(j:Nat),jW x M w P p b sv o0 o1 W i j v->ab M w va o.aR->xC 56 #[xP p, .agg #[xI o.id,xI o.cls,xI o.ver,va]] W λe w'=>∃(us:List aA)(uv:an),e=xR (.tuple #[.agg #[xI o.id,xI (k:Int),xI (ln:Int),uv],xB true])/\lG x i ⟨o.id,(k:Int),(ln:Int),us⟩/\ab (bg v (FV M w b P)) w' uv us/\jW x M w P p b sv o0 o1 w' i j v/\ai (λk=>k=b) W w':=by
 obtain⟨_,_,k,v',l,hk⟩:=h.objs i o ho;refine⟨k,l.changes.length,λW sv v va o0 o1 j hs hva=> ?_⟩;have aF:=c.b1;refine(IF x.lines h.sch k l hk.line o v' 100000 (Int.le_refl _) hk.cls hk.ver hk.le (h.qcv ho hk) hk.aR (bg v (FV M w b P)) w W (hs.bd c hM) hG hs.bx.1 p b c.pb (.inl (.inr (.inr (.inl rfl)))) (by omega) sv va hs.book (hva.ev (hs.ev c))).mono ?_;rintro e w'⟨⟨us,uv,rfl,Rb,bI⟩,yT,jx⟩;exact⟨us,uv,rfl,⟨o,k,v',l,us,ho,hk,Rb,rfl⟩,bI,hs.SC c yT jx,jx⟩
def yq(x:aX)(h:gi x)(M:aN)(w:aj)(hM:Bd M w)(hG:Gd w)(lv ov rv:an)(ja:ab M w lv x.lines)(kq:ab M w ov x.objs)(iM:ab M w rv x.roots):
 xG 21 #[.agg #[lv,ov,rv,xI x.next]] w λu w'=>∃lt pm,u= .tuple #[.agg #[lt, .map (some pm)],xI 0]/\Kd x M w' lt pm:=by
 obtain⟨i0,ed,ej,dO,er⟩:=info_parts EV;have FW:=gG (w:=w) (λW hb=>p8 x.lines h.sch M W (hM.below hb) (hG.tb.below hb) lv (ja.below hb));have CM:=gG (w:=w) (λW hb=>EU x h M W lv ov rv (ja.below hb) (kq.below hb) (iM.below hb));have NY:Hd (∀W,aq w W->w.heap.size+2<=W.heap.size->_):=λW hb hz=>Ki x.lines (λi=>M i\/i=w.heap.size+1) W (λi hi=>by rcases hi with hi|hi;(have:=hM i hi;omega);omega) lv (ja.ev ⟨ai.ao hb,λi hi=>hi.imp_right λe=>by omega⟩);have XG:Hd (∀(P p b:Nat),PW w P p b->∀(i:Nat)(o:bE),x.objs[i]? =some o->_):=λP p b c i o ho=>MB x h hM hG c ho;have HWH:Hd (∀W lt pm,aq w W->Kd x M W lt pm->_):=λW lt pm hb hg=>My x h M W (hM.below hb) (hG.tb.below hb) lt rv pm hg (iM.below hb);have HO:Hd (∀i o,x.objs[i]? =some o->_):=λi o ho=>jq kq ho;have HWK:=af h;have lM:=af hM;have KQ:=h.len;obtain⟨la,lc,rfl,_⟩:=ja.open_;obtain⟨oa,oc,rfl,YX,hom,_⟩:=kq.open_;obtain⟨ra,rc,rfl,_⟩:=iM.open_;have No:=af ja;clear ja kq iM hM hG h;have tz:Hd (∀W v P p b sv o0 o1 W',jW x M w P p b sv o0 o1 W x.objs.length x.objs.length v->PW w P p b->ai (λk=>k=w.heap.size+1) W W'->Kd x M W' v P):=λW v P p b sv o0 o1 W' h1 h2 h3=>h1.fin h2 lM.o h3;generalize hn:x.objs.length=n at*;have HN:=af hn;clear hn;have wj:=λw=>eQ 87 w;obtain⟨q0,hq0⟩:=bS (cw (xL la x.lines.length lc) (xL oa n oc) (xL ra x.roots.length rc) x.next);obtain⟨q1,hq1⟩:=bS (xK #[xL none 0 0, .map none] 89);have HQ0:=af hq0;have HQ1:=af hq1;have mf:Hd (∀W,Bx w [q0,q1] W->di W w (cw (xL la x.lines.length lc) (xL oa n oc) (xL ra x.roots.length rc) x.next)):=λW hb=>by rw[<-HQ0.o];exact hb.bG rfl
 have qF:Hd (∀W,Bx w [q0,q1] W->bR W (w.heap.size+1) (xK #[xL none 0 0, .map none] 89)):=λW hb=>by rw[<-HQ1.o];exact hb.bU rfl
 clear hq0 hq1;go_enter func21,ntmps21;go_upto_region 1 with fail;obtain⟨W0,vT⟩:=bS ((w.alloc (cw (xL la x.lines.length lc) (xL oa n oc) (xL ra x.roots.length rc) x.next)).alloc (xK #[xL none 0 0, .map none] 89));have bW:=af (show Bx w [q0,q1] W0 by rw[vT,HQ0.o,HQ1.o];exact Bx.dq w _ _);unfold cw at vT;rw[<-vT];clear vT;obtain⟨c0,c1,c2,c3⟩:=ae (mf.o _ bW.o);go_wp2_with fail;refine bY (FW.o _ bW.o.1) λw1 aF=> ?_;have aY:=af (bW.o.below aF);clear aF c0 c1 c2 c3;obtain⟨c0,c1,c2,c3⟩:=ae (mf.o _ aY.o);go_wp2_with fail;refine bY (CM.o _ aY.o.1) λw2 bC=> ?_;have aQ:=af (aY.o.below bC);clear bC c0 c1 c2 c3;obtain⟨c0,c1,c2,c3⟩:=ae (mf.o _ aQ.o);have j6:=aQ.o.bF;simp only[Qcc,Qcd]at j6;go_wp2_with fail;refine(NY.o _ aQ.o.1 (by omega)).mono ?_;rintro e w3⟨p,b,rfl,uE,aF,yW,F5,bP,KX,tm⟩;have bO:=af (aQ.o.below tm);have Gh:=af KX;have HC:Hd (PW w w3.heap.size p b):=⟨yW,by omega,F5,by omega,bP⟩;clear KX tm c0 c1 c2 c3;obtain⟨c0,c1,c2,c3⟩:=ae (mf.o _ bO.o);go_upto_region 8 with fail;obtain⟨W7,vy⟩:=bS ((w3.alloc (.map #[] 0)).alloc (iY (xL none 0 0) w3.heap.size));have gM:=af (show jW x M w w3.heap.size p b (xL la x.lines.length lc) q0 q1 W7 0 0 (xL none 0 0)by
  have FZ:aq w3 W7:=by rw[vy];exact bM.alloc (by simp) _
  refine⟨bO.o.below FZ,(Gh.o _ (λi hi=> ?_)).ev (Ev.ao FZ) (FZ.block _ F5) (FZ.block _ bP),⟨[],aK.nil _ _ _ _,rfl,λk o h=>by simp at h⟩,⟨[],0,?_,λn=> ?_⟩,?_⟩
  .have mZ:=HC.o.b1;rcases hi with(hi|hi|hi|hi|hi)|hi
   .exact .inl (.inl hi)
   .exact .inl (.inr hi)
   .right;omega
   .right;omega
   .right;omega
   .cases hi
  .show W7.heap[w3.heap.size]? =_;rw[vy];exact(bM.block w3.heap.size (by simp)).trans (Qbh w3 _)
  .rfl
  .rw[vy];have:=Qbh (w3.alloc (.map #[] 0)) (iY (xL none 0 0) w3.heap.size);simpa using this);unfold iY at vy;rw[<-vy];clear vy uE aF yW F5 bP Gh c0 c1 c2 c3;generalize w3.heap.size=P at*;obtain⟨c0,c1,c2,c3⟩:=ae (mf.o _ gM.o.bx);go_wp2_with fail;clear c0 c1 c2 c3;go_loopg [3,8,9,10,11,34]n(λg r3 _ _ _ _ iv wr=>∃(i:Nat)(v:an),i<=n/\g=n-i/\iv=xI i/\r3=xI 0/\Hd (jW x M w P p b (xL la x.lines.length lc) q0 q1 wr i i v));case atStart=>exact⟨0,_,Qbf _,rfl,rfl,rfl,gM⟩
 case round=>
  obtain⟨i,v,hi,rfl,rfl,rfl,HS⟩:=hrel;have hva:∃a c,v=xL a i c:=by
   obtain⟨ls,h3,h4,_⟩:=HS.o.late;obtain⟨a,c,e,_⟩:=h3.open_;rw[h4]at e;exact⟨a,c,e⟩
  obtain⟨a,c,rfl⟩:=hva;have hPl:=HS.o.lt;have HNO:Hd (¬bg (xL a i c) (FV M w b P) wr.heap.size):=λh=>Nat.lt_irrefl _ (HS.o.bd HC.o lM.o _ h);have hbP:=HC.o.b2;by_cases bu:i<n
  .obtain⟨o,ho⟩:=eB x.objs i (by rw[HN.o];exact bu);obtain⟨b',off,cap,va,vc,hv,cR,dA,ay⟩:=HO.o i o ho;obtain⟨rfl,rfl⟩:oa=some ⟨b',off,none⟩/\oc=cap:=by first|simpa using hv|(rw[HN.o]at hv;simpa using hv)
   obtain⟨g0,g1,g2,g3⟩:=ay wr HS.o.bx.1;have HOO:=af ho;obtain⟨k,ln,hl⟩:=XG.o P p b HC.o i o ho;have HL:=af (λob=>hl (wr.alloc ob) (xL la x.lines.length lc) (xL a i c) (xL va o.aR.length vc) q0 q1 i (HS.o.below HC.o (dQ.alloc bN ob)) dA);obtain⟨oi,occ,ov,os⟩:=o;dsimp only at*;clear ay hv ho hl dA;go_wp2_with fail;refine(HL.o _).mono ?_;rintro e w4⟨us,uv,rfl,od,bI,fJ,jx⟩;have Cx:=bI;obtain⟨ua,uc,rfl,_⟩:=Cx.open_;have yY:di w4 wr (dV ⟨oi,occ,ov,os⟩ (xL va os.length vc)):=jx.at_ (Qbh wr _) (by omega);have hz4:wr.heap.size<w4.heap.size:=(Qaa.1 yY).1;have qey:=af fJ;have gp:=af bI;have ow:=af od;have zZ:=af yY;clear bI fJ jx od yY g0 g1 g2 g3;go_upto_region 14 with fail;obtain⟨W5,nM⟩:=bS (w4.alloc (dV ⟨oi,(k:Int),(ln:Int),us⟩ (xL ua us.length uc)));have hz5:w4.heap.size+1<=W5.heap.size:=by rw[nM];simp
   have vK:=af (show jW x M w P p b (xL la x.lines.length lc) q0 q1 W5 i i (xL a i c)by rw[nM];exact qey.o.below HC.o bM);have HN5:=af (show di W5 w4 (dV ⟨oi,(k:Int),(ln:Int),us⟩ (xL ua us.length uc))by rw[nM];exact Qbh w4 _);have qez:=af (show di W5 wr (dV ⟨oi,occ,ov,os⟩ (xL va os.length vc))by rw[nM];exact(Qcb w4 _ _ hz4).trans zZ.o);have Xv:Hd (∀o',ab (bg (xL a i c) (FV M w b P)) (W5.alloc o') (xL ua us.length uc) us):=λo'=>by rw[nM];exact gp.o.below (bM.alloc (by simp) o')
   unfold dV at nM;rw[<-nM];clear nM;have qhz:=vK.o.lt;obtain⟨p0,p1⟩:=ah vK.o.g;obtain⟨n0,n1,n2,n3⟩:=ae HN5.o;obtain⟨ls,hacc,hlen,qe0⟩:=vK.o.late;have mQ:=af hacc;have j7:=af hlen;have qe1:=af qe0;clear hacc hlen qe0;have qh0:i<=500:=by omega
   have eX:Hd (∀o',au.rep (α:=bE) (bg (xL a i c) (FV M w b P)) (W5.alloc o') [xI oi,xI (k:Int),xI (ln:Int),xL ua us.length uc] ⟨oi,(k:Int),(ln:Int),us⟩):=λo'=>⟨_,rfl,Xv.o o'⟩;go_upto_region 15 with(
    at_builtin;refine aW (α:=bE) rfl _ _ _ rfl (FV M w b P) (P+2) 66 i0 _ 48 underlying32 ed ej dO er rfl (by decide) (.slice a i c) ls rfl (mQ.o.alloc _) (λ_=>True) _ _ ⟨oi,(k:Int),(ln:Int),us⟩ rfl (cD _ _ _ _ rfl trivial) (eX.o _) (by rw[j7.o];unfold maxLen;omega) (by rw[j7.o];omega) (by simp;omega) ?_;rw[j7.o];intro a2 c2 w6 bj dz bC;have uK:=af (vK.o.next HC.o (o:=⟨oi,(k:Int),(ln:Int),us⟩) ow.o _ j7.o qe1.o bj dz bC);have hp6:bR w6 (P+1) (iY (xL a i c) P):=(bC.block _ (by omega)).trans ((Qcb W5 _ _ (by omega)).trans vK.o.g);have p6:=(ah hp6).1;have f6:=ag hp6 0;have hc6:di w6 wr (dV ⟨oi,occ,ov,os⟩ (xL va os.length vc)):=(dz.only.block _ (by simp;omega) HNO.o).trans ((Qcb W5 _ _ (by omega)).trans qez.o);have HC6:Hd ((w6.setCell ⟨P+1,0,none⟩ (xL a2 (i+1) c2)).heap[wr.heap.size]? =some (dV ⟨oi,occ,ov,os⟩ (xL va os.length vc))):=(Qag _ _ _ _ (by show wr.heap.size≠P+1;omega)).trans hc6;clear bj dz bC hp6 hc6);obtain⟨W7',qe2⟩:=bS (w6.setCell ⟨P+1,0,none⟩ (xL a2 (i+1) c2));rw[<-qe2]at uK HC6⊢;clear qe2 p6 f6 p0 p1 n0 n1 n2 n3;obtain⟨p0,p1⟩:=ah uK.o.g;obtain⟨n0,n1,n2,n3⟩:=ae HC6.o;obtain⟨W8,mO,qe3⟩:=uK.o.put HWK.o HC.o HOO.o;have qe4:=af qe3;clear qe3;go_wp2;go_roundg(n-(i+1));case measure=>omega
   case rel=>exact⟨i+1,_,by omega,rfl,by go_num,rfl,qe4⟩
  .obtain rfl:i=n:=by omega
   obtain⟨p0,p1⟩:=ah HS.o.g;obtain⟨c0,c1,c2,c3⟩:=ae (mf.o _ HS.o.bx);have HGR:=af (tz.o wr _ P p b _ _ _ wr HS.o HC.o (ai.refl _ _));go_wp2_with fail;refine bY (HWH.o _ _ _ HS.o.bx.1 HGR.o) λw7 iJ=> ?_;have zU:=af (HS.o.below HC.o iJ);clear iJ p0 p1 c0 c1 c2 c3;obtain⟨p0,p1⟩:=ah zU.o.g;obtain⟨r0,r1⟩:=ah (qF.o _ zU.o.bx);obtain⟨f0,f1⟩:=mV (qF.o _ zU.o.bx);have qh1:P+1≠w.heap.size+1:=by have:=HC.o.b1;omega
   have pH:Hd (∀W',W'=(w7.setCell ⟨w.heap.size+1,0,none⟩ (xL a i c)).setCell ⟨w.heap.size+1,1,none⟩ (.map (some P))->(∃lt pm,Value.tuple #[.agg #[xL a i c, .map (some P)],xI 0]= .tuple #[.agg #[lt, .map (some pm)],xI 0]/\Kd x M W' lt pm)/\aq w W'):=λW' gU=>by
    refine⟨⟨_,_,rfl,tz.o w7 _ P p b _ _ _ W' zU.o HC.o ?_⟩,?_⟩
    .rw[gU];exact((ai.refl (λk=>k=w.heap.size+1) w7).setCell (p:=⟨w.heap.size+1,0,none⟩) (.inl rfl) _).setCell (p:=⟨w.heap.size+1,1,none⟩) (.inl rfl) _
    .rw[gU];exact(zU.o.bx.1.setCell (by simp) _).setCell (by simp) _
   go_wp2_with fail;exact Qae (v:= .tuple #[.agg #[xL a i c, .map (some P)],xI 0]) (by simp[results,results21,go_sem,r0,r1,f0,f1]) rfl ⟨_,rfl,pH.o _ rfl⟩
end
section
open Go.RowKit Go.Shelf
open Go.ChangeMaps (setBlock heap_setBlock_same heap_setBlock_other)
theorem Kf.open_(h:Kf W l v w'):∃za,v=xL za l.length l.length:=by
 rcases h with⟨rfl,rfl⟩|⟨B,h0,hB,rfl,hr⟩<;>exact⟨_,rfl⟩
theorem Kf.stay(h:Kf W l v w1)(hw:w.heap.size<=W.heap.size)(hz:w1.heap.size<=w2.heap.size)(hk:∀k,W.heap.size<=k->k<w1.heap.size->w2.heap[k]? =w1.heap[k]?):Kf w l v w2:=by
 rcases h with⟨rfl,rfl⟩|⟨B,h0,hB,rfl,hr⟩
 .exact .inl ⟨rfl,rfl⟩
 .exact .inr ⟨B,h0,by omega,rfl,hr.stay pZ hz λk k1 k2=>hk k (by omega) k2⟩
def EW {fs:List az}{x:bE}(h:bh fs many x.aR)(hl:x.aR.length<=12)(M:aN)(w:aj)(v:an)(hM:Bd M w)(hs:ab M w v x.aR):
 xG 88 #[.agg #[xI x.id,xI x.cls,xI x.ver,v]] w λu w'=>∃za,u= .agg #[xI x.id,xI x.cls,xI x.ver,xL za x.aR.length x.aR.length]/\∀w0:aj,w0.heap.size<=w.heap.size+2->Kf w0 x.aR (xL za x.aR.length x.aR.length) w':=by
 have CT:Hd (∀W,aq w W->w.heap.size+2<=W.heap.size->_):=λW hb hz=>u9 h hl (ew M w 2) W v (dN hM hz) (hs.ev (dF hb));obtain⟨a,bQ,rfl,_⟩:=hs.open_;generalize hm:x.aR.length=m at*;have yX:=af hm;have bW:=af (Bx.dq w (xK #[xI x.id,xI x.cls,xI x.ver,xL a m bQ] 66) (xK #[xI 0,xI 0,xI 0,xL none 0 0] 66));go_enter func88,ntmps88;go_wp2_with fail;refine(CT.o _ bW.o.1 (by simp)).mono ?_;rintro e w1⟨vx,rfl,fu,aF⟩;obtain⟨za,rfl⟩:=fu.open_;rw[yX.o]at*;have HB:=af (bW.o.below aF);have zZ:=af fu;obtain⟨r0,r1,r2,r3⟩:=ae (HB.o.bG rfl);obtain⟨e0,e1,e2,e3⟩:=ae (HB.o.bU rfl);have f3:=ag (HB.o.bG rfl) 3;obtain⟨g0,g1,g2,g3⟩:=iK (HB.o.bU rfl);go_wp2_with fail;refine Qae (v:= .agg #[xI x.id,xI x.cls,xI x.ver,xL za m m]) (by simp[results,results88,go_sem,e0,e1,e2,e3]) rfl ⟨_,rfl,⟨za,rfl,λw0 uF=> ?_⟩,?_⟩
 .refine zZ.o.stay (by simpa using uF) (by simp[World.setCell]) λk k1 _=> ?_;have hk:w.heap.size+2<=k:=by simpa using k1
  rw[Qag _ _ _ _ (by simp;omega),Qag _ _ _ _ (by simp;omega),Qag _ _ _ _ (by simp;omega),Qag _ _ _ _ (by simp;omega),Qag _ _ _ _ (by simp;omega)]
 .exact((((HB.o.1.setCell (by simp) _).setCell (by simp) _).setCell (by simp) _).setCell (by simp) _).setCell (by simp) _
end
section
open Go.RowKit Go.Maps Go.Sort Go.Shelf
def Fe {ss:List Int}(hp:ss.Perm S)(hn:S.Nodup):Mk.Im (ss.mergeSort (λx y=>decide (x<=y)))/\∀x,x∈ss.mergeSort (λx y=>decide (x<=y))↔x∈S:=by
 have tr:∀a b c:Int,(decide (a<=b))=true->(decide (b<=c))=true->(decide (a<=c))=true:=λa b c h1 h2=>by simp only[decide_eq_true_eq]at*;exact Int.le_trans h1 h2
 have tot:∀a b:Int,(decide (a<=b)||decide (b<=a))=true:=λa b=>by simp only[Bool.or_eq_true,decide_eq_true_eq];exact Int.le_total a b
 have h1:=List.pairwise_mergeSort (le:=λx y:Int=>decide (x<=y)) tr tot ss;have h2:=(List.mergeSort_perm ss (λx y=>decide (x<=y))).trans hp;have h3:(ss.mergeSort (λx y=>decide (x<=y))).Nodup:=h2.nodup_iff.2 hn;refine⟨?_,λx=>h2.mem_iff⟩;refine(List.Pairwise.and h1 h3).imp ?_;intro a b⟨hab,hne⟩;simp only[decide_eq_true_eq]at hab;have:a≠b:=hne;omega
def Qf(h:Mk.jf w b S)(hS:∀x∈S,1<=x/\x<=100000)(hl:S.length<=maxLen):
 ∃D0:DataW Unit,w.ownsMap prog 3 (plainElem prog 4) b S.length D0/\(intKeys D0).Perm S/\Maps.size D0=S.length:=by
 obtain⟨es,clk,⟨hb,h1,h2,h3⟩,rfl⟩:=h;have hrd:∀p∈es,Go.WideElems.rd (H:=Unit) prog 3 (plainElem prog 4) (Mk.AX p)=some (.int .i64 p.1, .lit (.bool true)):=λp hp=>by
  have hb:=hS p.1 (List.mem_map_of_mem hp);have hw:(Lit.int .i64 p.1).wf=true:=by
   simp only[Lit.wf,Qce,decide_eq_true_eq];have e1:IntKind.i64.min= -9223372036854775808:=by decide
   have e2:IntKind.i64.max=9223372036854775807:=by decide
   rw[e1,e2];omega
  exact Go.WideElems.rd_mk (keyOf_int_mk underlying3 hw) (plainElem_bool underlying4 true)
 have TB:(es.map Mk.AX).map (Go.WideElems.rg (H:=Unit) prog 3 (plainElem prog 4))=es.map (λp=>(Lit.int .i64 p.1,DataW.lit (.bool true))):=by
  rw[List.map_map];exact List.map_congr_left λp hp=>Go.WideElems.rg_of (hrd p hp)
 have hk:(es.map Mk.AX).map (·.key)=es.map (λp=>Value.int .i64 p.1):=by rw[List.map_map];rfl
 have y9:(es.map Mk.AX).map (·.born)=es.map (·.2):=by rw[List.map_map];rfl
 refine⟨_,⟨(es.map Mk.AX).toArray,clk,hb,⟨by simpa using hl,⟨?_,?_,?_⟩,?_⟩,by simp,rfl⟩,?_,?_⟩
 .intro x hx;obtain⟨p,hp,rfl⟩:=List.mem_map.1 (show x∈es.map Mk.AX from by simpa using hx);exact h3 p hp
 .show((es.map Mk.AX).map (·.born)).Nodup;rw[y9];exact h2
 .show((es.map Mk.AX).map (·.key)).Nodup;rw[hk];have:es.map (λp=>Value.int .i64 p.1)=(es.map (·.1)).map (λx=>Value.int .i64 x):=by rw[List.map_map];rfl
  rw[this];exact List.Pairwise.map _ (λa b hab e=>hab (by simpa using e)) h1
 .intro x hx;obtain⟨p,hp,rfl⟩:=List.mem_map.1 (show x∈es.map Mk.AX from by simpa using hx);exact⟨_,hrd p hp⟩
 .show(((((es.map Mk.AX).map _).foldr DataW.insert [])).map λp=>Go.intOf p.1).Perm _;refine((Go.WideShapes.sorted_perm _).map _).trans ?_;rw[TB,List.map_map];exact List.Perm.of_eq rfl
 .rw[Maps.size_eq];have:=(Go.WideShapes.sorted_perm ((es.map Mk.AX).map (Go.WideElems.rg (H:=Unit) prog 3 (plainElem prog 4)))).length_eq;simpa using this
def Bg:Go.Shelf.Ren:=⟨λ|7=>23|10=>60|n=>n,λ|23=>96|26=>3|3=>4|28=>94|0=>0|27=>93|33=>129|4=>4|n=>n,λ|n=>n⟩
def Uk:Go.Proofs.SlLaysZI.n7 prog Bg:={
 mixed:=by kernel_rfl
 f7:=⟨Tryz.f23.name,by decide,Tryz.func23.trans (congrArg some (by kernel_rfl))⟩
 f10:=⟨Tryz.f60.name,by decide,Tryz.func60.trans (congrArg some (by kernel_rfl))⟩
 t0:=underlying0
 a0:=isAgg0
 z0:=sizeOf0
 v0:=zeroValue0
 t4:=underlying4
 a4:=isAgg4
 z4:=sizeOf4
 v4:=zeroValue4
 t23:=underlying96
 a23:=isAgg96
 z23:=sizeOf96
 v23:=zeroValue96
 t26:=underlying3
 a26:=isAgg3
 z26:=sizeOf3
 v26:=zeroValue3
 t27:=underlying93
 a27:=isAgg93
 z27:=sizeOf93
 v27:=zeroValue93
 t28:=underlying94
 a28:=isAgg94
 z28:=sizeOf94
 v28:=zeroValue94
 t33:=underlying129
 a33:=isAgg129
 z33:=sizeOf129
 v33:=zeroValue129}
def vq:Go.Shelf.Ren:=⟨λ|6=>22|8=>58|9=>59|11=>129|13=>131|12=>130|23=>196|24=>197|14=>187|15=>188|16=>189|17=>190|18=>191|19=>192|20=>193|21=>194|22=>195|25=>248|26=>249|27=>250|28=>251|29=>252|30=>148|31=>282|n=>n,λ|26=>3|28=>94|24=>27|0=>0|3=>3|37=>216|48=>279|50=>281|4=>4|40=>272|39=>271|45=>63|5=>5|9=>9|51=>329|55=>333|57=>366|58=>367|33=>129|n=>n,λ|n=>n⟩
def SZ:Go.Proofs.SlLaysZI.n6 prog vq:={
 mixed:=by kernel_rfl
 f6:=⟨Tryz.f22.name,by decide,Tryz.func22.trans (congrArg some (by kernel_rfl))⟩
 f8:=⟨Tryz.f58.name,by decide,Tryz.func58.trans (congrArg some (by kernel_rfl))⟩
 f11:=⟨Tryz.f129.name,by decide,Tryz.func129.trans (congrArg some (by kernel_rfl))⟩
 t0:=underlying0
 a0:=isAgg0
 z0:=sizeOf0
 v0:=zeroValue0
 t24:=underlying27
 a24:=isAgg27
 z24:=sizeOf27
 v24:=zeroValue27
 t26:=underlying3
 a26:=isAgg3
 z26:=sizeOf3
 v26:=zeroValue3
 t28:=underlying94
 a28:=isAgg94
 z28:=sizeOf94
 v28:=zeroValue94
 i26:=by kernel_rfl}
def MR:Go.Shelf.Ren:=⟨λ|5=>59|8=>131|7=>130|19=>196|20=>197|10=>187|11=>188|12=>189|13=>190|14=>191|15=>192|16=>193|17=>194|18=>195|30=>248|31=>249|32=>250|33=>251|34=>252|35=>148|40=>282|n=>n,λ|23=>27|25=>3|3=>3|32=>216|22=>27|0=>0|44=>279|46=>281|4=>4|36=>272|35=>271|41=>63|5=>5|9=>9|53=>329|57=>333|63=>366|64=>367|n=>n,λ|n=>n⟩
def Ul:Go.Proofs.SlLaysM.n5 prog MR:={
 mixed:=by kernel_rfl
 f5:=⟨Tryz.f59.name,by decide,Tryz.func59.trans (congrArg some (by kernel_rfl))⟩
 f7:=⟨Tryz.f130.name,by decide,Tryz.func130.trans (congrArg some (by kernel_rfl))⟩
 f8:=Tryz.func131.trans (congrArg some (by kernel_rfl))
 f10:=⟨Tryz.f187.name,by decide,Tryz.func187.trans (congrArg some (by kernel_rfl))⟩
 f11:=⟨Tryz.f188.name,by decide,Tryz.func188.trans (congrArg some (by kernel_rfl))⟩
 f12:=⟨Tryz.f189.name,by decide,Tryz.func189.trans (congrArg some (by kernel_rfl))⟩
 f13:=⟨Tryz.f190.name,by decide,Tryz.func190.trans (congrArg some (by kernel_rfl))⟩
 f14:=⟨Tryz.f191.name,by decide,Tryz.func191.trans (congrArg some (by kernel_rfl))⟩
 f15:=⟨Tryz.f192.name,by decide,Tryz.func192.trans (congrArg some (by kernel_rfl))⟩
 f16:=⟨Tryz.f193.name,by decide,Tryz.func193.trans (congrArg some (by kernel_rfl))⟩
 f17:=⟨Tryz.f194.name,by decide,Tryz.func194.trans (congrArg some (by kernel_rfl))⟩
 f18:=⟨Tryz.f195.name,by decide,Tryz.func195.trans (congrArg some (by kernel_rfl))⟩
 f19:=Tryz.func196.trans (congrArg some (by kernel_rfl))
 f20:=Tryz.func197.trans (congrArg some (by kernel_rfl))
 f30:=⟨Tryz.f248.name,by decide,Tryz.func248.trans (congrArg some (by kernel_rfl))⟩
 f31:=Tryz.func249.trans (congrArg some (by kernel_rfl))
 f32:=Tryz.func250.trans (congrArg some (by kernel_rfl))
 f33:=⟨Tryz.f251.name,by decide,Tryz.func251.trans (congrArg some (by kernel_rfl))⟩
 f34:=⟨Tryz.f252.name,by decide,Tryz.func252.trans (congrArg some (by kernel_rfl))⟩
 f35:=⟨Tryz.f148.name,by decide,Tryz.func148.trans (congrArg some (by kernel_rfl))⟩
 f40:=⟨Tryz.f282.name,by decide,Tryz.func282.trans (congrArg some (by kernel_rfl))⟩
 t0:=underlying0
 a0:=isAgg0
 z0:=sizeOf0
 v0:=zeroValue0
 t3:=underlying3
 a3:=isAgg3
 z3:=sizeOf3
 v3:=zeroValue3
 t4:=underlying4
 a4:=isAgg4
 z4:=sizeOf4
 v4:=zeroValue4
 t5:=underlying5
 a5:=isAgg5
 z5:=sizeOf5
 v5:=zeroValue5
 t9:=underlying9
 a9:=isAgg9
 z9:=sizeOf9
 v9:=zeroValue9
 t22:=underlying27
 a22:=isAgg27
 z22:=sizeOf27
 v22:=zeroValue27
 t23:=underlying27
 a23:=isAgg27
 z23:=sizeOf27
 v23:=zeroValue27
 t25:=underlying3
 a25:=isAgg3
 z25:=sizeOf3
 v25:=zeroValue3
 t32:=underlying216
 a32:=isAgg216
 z32:=sizeOf216
 v32:=zeroValue216
 t35:=underlying271
 a35:=isAgg271
 z35:=sizeOf271
 v35:=zeroValue271
 t36:=underlying272
 a36:=isAgg272
 z36:=sizeOf272
 v36:=zeroValue272
 t41:=underlying63
 a41:=isAgg63
 z41:=sizeOf63
 v41:=zeroValue63
 t44:=underlying279
 a44:=isAgg279
 z44:=sizeOf279
 v44:=zeroValue279
 t46:=underlying281
 a46:=isAgg281
 z46:=sizeOf281
 v46:=zeroValue281
 t53:=underlying329
 a53:=isAgg329
 z53:=sizeOf329
 v53:=zeroValue329
 t57:=underlying333
 a57:=isAgg333
 z57:=sizeOf333
 v57:=zeroValue333
 t63:=underlying366
 a63:=isAgg366
 z63:=sizeOf366
 v63:=zeroValue366
 t64:=underlying367
 a64:=isAgg367
 z64:=sizeOf367
 v64:=zeroValue367}
def V6(m:Nat):AnyZI.SortsIn prog vq Fence.wide m:=
 ⟨λblk off cap ss W hH hblk hsz=>callsIn_wide.2 (AnyM.slices_Sort_int Ul blk off cap ss W hH hblk hsz),
  λp cap W=>callsIn_wide.2 (AnyM.slices_Sort_int_none Ul p cap W)⟩
def I7(mb:Option Nat)(W:aj):xC 23 #[.map mb] W λe w'=>e=xR (.func (.func 60) #[] #[xP W.heap.size])/\w'=W.alloc (xK #[.map mb] 96):=
 callsIn_wide.1 (AnyZI.keys_in Uk Fence.wide 5 trivial rfl mb W)
def Cp(W:aj)(sb:Nat)(S:List Int)(h:Mk.jf W sb S)(hS:∀x∈S,1<=x/\x<=100000)(hl:S.length<=1000):
 xC 22 #[.func (.func 60) #[] #[xP W.heap.size]] (W.alloc (xK #[.map (some sb)] 96)) λe w'=>∃(v:an)(L:List Int),e=xR v/\ab (α:=Int) xF w' v L/\Mk.Im L/\(∀n,n∈L↔n∈S)/\aq W w':=by
 have Tq:=h.nodup;have cR:=h.lt;obtain⟨D0,lY,qfv,hsz⟩:=Qf h hS (by unfold maxLen;omega);have QX:SeqGives Fence.wide 2 prog 60 #[xP W.heap.size] encZ (λss=>ss.Perm (intKeys D0)) (Maps.size D0) (W.alloc (xK #[.map (some sb)] 96)):=
  AnyZI.keys_gives (ρ:=Bg) {Uk with} Fence.wide _ trivial rfl (by omega) W.heap.size sb S.length D0 _ (by simp) (by simp) (by
   obtain⟨es,clock,hb,Ft,hs,hD⟩:=lY;exact⟨es,clock,(Qcb _ _ sb cR).trans hb,Ft,hs,hD⟩);have cS:=AnyZI.sorted_in SZ Fence.wide 5 trivial trivial trivial trivial rfl (by omega) (V6 _) (by first|exact enters_of func59 (by kernel_rfl) rfl|exact enters_of func129 (by kernel_rfl) rfl) 60 #[xP W.heap.size] trivial (enters_of func60 (by kernel_rfl) rfl) _ _ (by rw[hsz];unfold maxLen;omega) (by rw[hsz];omega) _ QX;change CallsIn _ _ prog 22 _ _ _ at cS;refine(callsIn_wide.1 cS).mono ?_;rintro e w'⟨v,ss,rfl,hp,TV,_,hb⟩;obtain⟨rC,CN⟩:=Fe (hp.trans qfv) Tq;refine⟨v,ss.mergeSort (λx y=>decide (x<=y)),rfl,?_,rC,CN,bM.trans (hb.mono (by simp))⟩;have fl:∀l:List Int,(l.map (λx=>[Value.int .i64 x])).flatten=l.map encZ:=λl=>by
  induction l with
  |nil=>rfl
  |cons a r ih=>simp only[List.map_cons,List.flatten_cons,ih];rfl
 refine⟨(ss.mergeSort (λx y=>decide (x<=y))).map (λx=>[Value.int .i64 x]),?_,by simp,λi cs x bJ hx=> ?_⟩
 .rw[fl,List.length_mergeSort];exact(cA.Gk TV).mono λj hj _ ZX=>ZX
 .rw[List.getElem?_map,hx]at bJ;simp at bJ;exact bJ.symm
def qi(x:aX)(w:aj)(lv ov rv:an)(h:gi x)(hG:Gd w)(ja:ab xF w lv x.lines)(kq:ab xF w ov x.objs)(iM:ab xF w rv x.roots):
 xG 7 #[.agg #[lv,ov,rv,xI x.next]] w λu w'=>∃(L:List Int)(wv:an),u= .tuple #[wv,xI 0]/\ab (α:=Int) xF w' wv L/\Mk.Im L/\∀n,n∈L↔Mk.CH (cm x) (dw x) n:=by
 have vS:∀W,Bd xF W:=λW i hi=>hi.elim;have HSV:=gG (w:=w) (λW hb=>yq x h xF W (vS W) (hG.below hb) lv ov rv (ja.below hb) (kq.below hb) (iM.below hb));have zf:Hd (∀W lt pm,aq w W->Kd x xF W lt pm->_):=λW lt pm hb hg=>MQ x h xF W (vS W) (hG.tb.below hb) lt rv pm hg (iM.below hb);have KC:Hd (∀S:List Int,(∀n,n∈S↔Mk.CH (cm x) (dw x) n)->∀W sb,Mk.jf W sb S->_):=λS hS W sb hs=>Cp W sb S hs (λy hy=>by
  obtain⟨o,ho,rfl⟩:=List.mem_map.1 (h.closed.Rw ((hS y).1 hy));obtain⟨i,hi⟩:=List.getElem?_of_mem ho;obtain⟨h1,h2,_⟩:=h.objs i o hi;have:=h.next;omega) (by
  have h1:=eV (cL x.objs) S hs.nodup (λy hy=>h.closed.Rw ((hS y).1 hy));unfold cL at h1;rw[Qdc]at h1;have:=h.len;omega);obtain⟨la,lc,rfl,_⟩:=ja.open_;obtain⟨oa,oc,rfl,_⟩:=kq.open_;obtain⟨ra,rc,rfl,_⟩:=iM.open_;obtain⟨c0,c1,c2,c3⟩:=ae ((Bx.eD w (cw (xL la x.lines.length lc) (xL oa x.objs.length oc) (xL ra x.roots.length rc) x.next)).bG rfl);have jN:=af (Bx.eD w (cw (xL la x.lines.length lc) (xL oa x.objs.length oc) (xL ra x.roots.length rc) x.next));go_enter func7,ntmps7;go_wp2_with fail;refine(HSV.o _ jN.o.1).mono ?_;rintro e w1⟨_,rfl,⟨lt,pm,rfl,hg⟩,aF⟩;have bu:∃ta tc,lt=xL ta x.objs.length tc:=by
  obtain⟨⟨ls,Gi,hlen,_⟩,_⟩:=hg;obtain⟨ta,tc,e,_⟩:=Gi.open_;rw[hlen]at e;exact⟨ta,tc,e⟩
 obtain⟨ta,tc,rfl⟩:=bu;have aY:=af (jN.o.below aF);have RL:=af hg;have aQ:=af (aY.o.alloc (iY (xL ta x.objs.length tc) pm));obtain⟨c0,c1,c2,c3⟩:=ae (aQ.o.bG rfl);obtain⟨d0,d1⟩:=ah (Qbh w1 (iY (xL ta x.objs.length tc) pm));unfold iY at c0 c1 c2 c3 d0 d1;go_wp2_with fail;refine(zf.o _ _ _ aQ.o.1 (RL.o.below bM)).mono ?_;rintro e w3⟨S,sb,rfl,Rp,jZ,bP⟩;have bO:=af (aQ.o.below bP);have mP:=af (KC.o S jZ w3 sb Rp);have HME:=af jZ;go_wp2_with fail;refine(I7 _ _).mono ?_;rintro e w4⟨rfl,rfl⟩;go_wp2_with fail;refine(mP.o).mono ?_;rintro e w5⟨v,L,rfl,hs,NT,hm,jg⟩;have hs':=hs;obtain⟨va,vc,rfl,_⟩:=hs'.open_;have H5:Hd (ab (α:=Int) xF w5 (xL va L.length vc) L/\Mk.Im L/\(∀n,n∈L↔n∈S)/\aq w w5):=⟨hs,NT,hm,(bO.o.below jg).1⟩;go_wp2;go_ret2;exact⟨_,rfl,⟨L,_,rfl,H5.o.1,H5.o.2.1,λn=>(H5.o.2.2.1 n).trans (HME.o n)⟩,H5.o.2.2.2⟩
end
