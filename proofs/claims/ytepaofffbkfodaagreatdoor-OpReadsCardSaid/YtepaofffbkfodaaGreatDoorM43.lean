/- A part of OpReads's proof; no condition. -/
import Derived.Test.YtepaofffbkfodaaGreatDoorM26
import Derived.Sort.Walk0
set_option linter.all false
set_option maxHeartbeats 8000000
set_option maxRecDepth 100000
namespace Go.Proofs.YtepaofffbkfodaaGreatDoor
open Go.Proofs.Tryz
open Go.RowKit Go.Shelf
variable{vs:List aA}{k i j base clk b:Nat}{ls:List aH}{lv v:an}{w W w0:aj}{M:aN}{id:Int}{S:List Int}
theorem lh.many {k m n:Int}(h:m<=n){v:aA}(hv:lh k m v):lh k n v:=by
 rcases hv with hv|hv|⟨hk,hv|⟨j,e,h1,h2⟩⟩
 .exact .inl hv
 .exact .inr (.inl hv)
 .exact .inr (.inr ⟨hk, .inl hv⟩)
 .exact .inr (.inr ⟨hk, .inr ⟨j,e,h1,Int.le_trans h2 h⟩⟩)
theorem dx.many {t:aT}{m n:Int}(h:m<=n){v:aA}(hv:dx t m v):dx t n v:=by
 rcases hv with⟨h5,l,e,hl,ha⟩|⟨h5,h1⟩
 .exact .inl ⟨h5,l,e,hl,λx hx=>(ha x hx).many h⟩
 .exact .inr ⟨h5,h1.many h⟩
theorem bh.many {fs:List az}{m n:Int}(h:m<=n)(hv:bh fs m vs):bh fs n vs:=⟨hv.1,λi f v hf hx=>(hv.2 i f v hf hx).many h⟩
theorem iS.many {m n:Int}(h:m<=n){o:bE}{v:Nat}{l:aH}(ho:iS ls m o k v l):iS ls n o k v l:=⟨ho.cls,ho.ver,ho.line,ho.le,ho.aR.many h⟩
def cL(l:List bE):List Int:=l.map bE.id
def sK(l:List bE)(id:Int):Option bE:=l.find? (λo=>decide (o.id=id))
def dw(x:aX)(id:Int):List Int:=match sK x.objs id with
 |none=>[]
 |some o=>match x.lines[o.cls.toNat]? with
  |none=>[]
  |some l=>refsOf l o.ver.toNat o.aR
structure gi(x:aX):Prop where
 sch:dK x.lines
 len:x.objs.length<=500
 objs:∀(i:Nat)(o:bE),x.objs[i]? =some o->1<=o.id/\o.id<x.next/\∃k v l,iS x.lines 100000 o k v l
 rise:(cL x.objs).Pairwise (·< ·)
 refs:∀n,∀y∈dw x n,y∈cL x.objs
 rlen:x.roots.length<=500
 roots:∀r∈x.roots,r.id∈cL x.objs
 oV:∀r∈x.roots,aB r.name=true/\r.name.size<=20
 xD:∀(i:Nat)(r s:aV),x.roots[i]? =some r->x.roots[i+1]? =some s->(Op.bytesLess s.name.toList r.name.toList||s.name.toList==r.name.toList)=false
 next:1<=x.next/\x.next<=100001
def jt {l:List bE}(h:(cL l).Pairwise (·< ·)){o p:bE}(hi:l[i]? =some o)(hj:l[j]? =some p)(he:o.id=p.id):i=j:=by
 have e1:(cL l)[i]? =some o.id:=by unfold cL;rw[List.getElem?_map,hi];rfl
 have e2:(cL l)[j]? =some p.id:=by unfold cL;rw[List.getElem?_map,hj];rfl
 obtain⟨l1,g1⟩:=Qad.1 e1;obtain⟨l2,g2⟩:=Qad.1 e2;rcases Nat.lt_trichotomy i j with hl|hl|hl
 .have:=List.pairwise_iff_getElem.1 h i j l1 l2 hl;rw[g1,g2,he]at this;omega
 .exact hl
 .have:=List.pairwise_iff_getElem.1 h j i l2 l1 hl;rw[g1,g2,he]at this;omega
def PD {l:List bE}(h:(cL l).Pairwise (·< ·)){o:bE}(hi:l[i]? =some o):sK l o.id=some o:=by
 unfold sK;cases hf:l.find? (λp=>decide (p.id=o.id))with
 |none=>
  have:=List.find?_eq_none.1 hf o (Qaf hi);simp at this
 |some p=>
  have h1:p.id=o.id:=by simpa using List.find?_some hf
  obtain⟨j,hj⟩:=List.getElem?_of_mem (List.mem_of_find?_eq_some hf);obtain rfl:=jt h hj hi h1;rw[hi]at hj;exact hj.symm
theorem gi.ref {x:aX}(h:gi x){o:bE}(ho:x.objs[i]? =some o){m:Int}{v:Nat}{l:aH}(hk:iS x.lines m o k v l):dw x o.id=refsOf l v o.aR:=by
 unfold dw;rw[PD h.rise ho];simp only;rw[hk.cls,show((k:Int)).toNat=k by omega,hk.line];simp only;rw[hk.ver,show((v:Int)).toNat=v by omega]
def lG(x:aX)(i:Nat)(o:bE):Prop:=∃(o0:bE)(k v:Nat)(l:aH)(us:List aA),x.objs[i]? =some o0/\iS x.lines 100000 o0 k v l/\jS (aI l v) (l.changes.drop v) 100000 o0.aR us/\o=⟨o0.id,(k:Int),(l.changes.length:Int),us⟩
theorem lG.refs {x:aX}(h:gi x){o:bE}(hl:lG x i o):o.aR.flatMap (cC 3)=dw x o.id:=by
 obtain⟨o0,k,v,l,us,h1,h2,h3,rfl⟩:=hl;show us.flatMap (cC 3)=dw x o0.id;rw[h.ref h1 h2];exact h3.refs
theorem lG.aR {x:aX}(h:gi x){o:bE}(hl:lG x i o):∃fs,bh fs 100000 o.aR/\o.aR.length<=8:=by
 obtain⟨o0,k,v,l,us,h1,h2,h3,rfl⟩:=hl;have hc:=((h.sch.lines l (Qaf h2.line)).from_ v).kk (l.changes.drop v).length;have e:aI (ep l v) (l.changes.drop v).length=oT (aI l v) (l.changes.drop v):=by
  show oT (aI l v) ((l.changes.drop v).take _)=_;rw[List.take_length]
 rw[e]at hc;have h8:=((bo _).1 hc.right).2.1;exact⟨_,h3.1,by show us.length<=8;rw[h3.1.1];exact h8⟩
theorem lG.idn {x:aX}{o:bE}(hl:lG x i o):∃o0,x.objs[i]? =some o0/\o.id=o0.id:=by
 obtain⟨o0,k,v,l,us,h1,h2,h3,rfl⟩:=hl;exact⟨o0,h1,rfl⟩
theorem lG.inside {x:aX}(h:gi x){o:bE}(hl:lG x i o):∀n∈o.aR.flatMap (cC 3),n∈cL x.objs:=by
 rw[hl.refs h];exact h.refs _
def Io {x:aX}(h:gi x){o:bE}(hl:lG x i o):(dw x o.id).length<=96:=by
 rw[<-hl.refs h];obtain⟨fs,h1,h8⟩:=hl.aR h;have key:∀l:List aA,(∀v∈l,(cC 3 v).length<=12)->(l.flatMap (cC 3)).length<=12*l.length:=by
  intro l;induction l with
  |nil=>intro _;simp
  |cons a l ih=>
   intro hh;have h1:=hh a (by simp);have h2:=ih (λv hv=>hh v (List.mem_cons_of_mem _ hv));simp only[List.flatMap_cons,Qda,Qcc];omega
 have:=key o.aR (λv hv=>by
  obtain⟨f,_,hf⟩:=eT h1 v hv;exact ui hf 3);omega
structure Kd(x:aX)(M:aN)(w:aj)(lv:an)(pm:Nat):Prop where
 late:∃ls:List bE,ab M w lv ls/\ls.length=x.objs.length/\∀(i:Nat)o,ls[i]? =some o->lG x i o
 place:∃es clk,bD dC w pm es clk/\∀n:Int,aZ es n=(x.objs.findIdx? (λo=>decide (o.id=n))).map (λi=>xI (i:Int))
theorem Kd.below {x:aX}{pm:Nat}(h:Kd x M w lv pm)(hb:aq w W):Kd x M W lv pm:=by
 obtain⟨⟨ls,h1,h2⟩,es,clk,h3,h4⟩:=h;exact⟨⟨ls,h1.below hb,h2⟩,es,clk,(hb.block _ (Qaa.1 h3).1).trans h3,h4⟩
def Mh {l:List bE}(h:(cL l).Pairwise (·< ·)){o:bE}(hi:l[i]? =some o):l.findIdx? (λp=>decide (p.id=o.id))=some i:=by
 refine List.findIdx?_eq_some_iff_getElem.2 ⟨(Qad.1 hi).1,?_,λj hj=> ?_⟩
 .have:=(Qad.1 hi).2;simp[this]
 .have CJ:j<l.length:=Nat.lt_trans hj (Qad.1 hi).1;have:=jt h (Qac CJ) hi;simp only[decide_eq_true_eq];intro e;have:=this e;omega
theorem Kd.at_ {x:aX}(h:gi x){es:List (Int×an×Nat)}(hp:∀n:Int,aZ es n=(x.objs.findIdx? (λo=>decide (o.id=n))).map (λi=>xI (i:Int))){o:bE}(ho:x.objs[i]? =some o):aZ es o.id=some (xI (i:Int)):=by
 rw[hp,Mh h.rise ho];rfl
theorem gi.qcv {x:aX}(h:gi x){v:Nat}{o:bE}{l:aH}(ho:x.objs[i]? =some o)(hk:iS x.lines 100000 o k v l):Hb 100000 o:=by
 obtain⟨h1,h2,_⟩:=h.objs i o ho;have h3:=h.next;have h4:=(Qad.1 hk.line).1;have h5:=h.sch.len;have h6:=h.sch.lines l (Qaf hk.line);have h7:=h6.len;have h8:=((bo (aI l v)).1 (h6.kk v).right).2.1;have h9:=hk.aR.1;have KQ:=hk.le;exact⟨by omega,by omega,by rw[hk.cls];omega,by rw[hk.cls];omega,by rw[hk.ver];omega,by rw[hk.ver];omega,⟨_,hk.aR⟩,by omega⟩
structure B5(D:List Int)(roots:List Int)(R:Int->List Int):Prop where
 roots:∀x∈roots,x∈D
 refs:∀x∈D,∀y∈R x,y∈D
theorem B5.Rw {D roots:List Int}{R:Int->List Int}(h:B5 D roots R){x:Int}(hx:Mk.CH roots R x):x∈D:=by
 induction hx with
 |root x hx=>exact h.roots x hx
 |step x y _ hy ih=>exact h.refs x ih y hy
theorem eV:∀(D xs:List Int),xs.Nodup->(∀x∈xs,x∈D)->xs.length<=D.length
 |[],xs,_,h=>by
  cases xs with
  |nil=>simp
  |cons a r=>have:=h a (by simp);simp at this
 |d::D,xs,hn,h=>by
  have h1:=eV D (xs.erase d) (hn.erase _) λx hx=>by
   have h2:=h x (List.mem_of_mem_erase hx);have h3:x≠d:=λe=>by
    subst e;exact(List.Nodup.not_mem_erase hn) hx
   simpa [h3]using h2
  have h4:=List.length_erase (a:=d) (l:=xs);simp only[Qcc];split at h4<;>omega
theorem gi.closed {x:aX}(h:gi x):B5 (cL x.objs) (cm x) (dw x):=by
 refine⟨λn hn=> ?_,λn _ y hy=>h.refs n y hy⟩;obtain⟨r,hr,rfl⟩:=List.mem_map.1 hn;exact h.roots r hr
theorem BP.wr {x:aX}(h:BP x):gi x:=by
 have KQ:=h.len;have tJ:=h.next;have hr:(cL x.objs).Pairwise (·< ·):=by
  refine List.pairwise_iff_getElem.2 λi j hi hj bu=> ?_;unfold cL at hi hj⊢;rw[Qdc]at hi hj;rw[List.getElem_map,List.getElem_map];have h1:=(h.objs i _ (Qac hi)).1;have h2:=(h.objs j _ (Qac hj)).1;omega
 have kp:∀n:Int,1<=n->n<=x.objs.length->n∈cL x.objs:=λn h1 h2=>by
  have hi:(n-1).toNat<x.objs.length:=by omega
  have h3:=(h.objs _ _ (Qac hi)).1;exact List.mem_map.2 ⟨_,Qaf (Qac hi),by omega⟩
 refine⟨h.sch,by omega,λi o ho=> ?_,hr,λn y hy=> ?_,by have:=h.rlen;omega,λr Up=> ?_,λr Up=> ?_,λi r s h1 h2=>h.xD h1 h2,by omega⟩
 .obtain⟨h1,k,v,l,hk⟩:=h.objs i o ho;have:=(Qad.1 ho).1;exact⟨by omega,by omega,k,v,l,hk.many (by omega)⟩
 .unfold dw at hy;cases hf:sK x.objs n with
  |none=>rw[hf]at hy;simp at hy
  |some o=>
   obtain⟨i,hi⟩:=List.getElem?_of_mem (List.mem_of_find?_eq_some hf);obtain⟨h1,k,v,l,hk⟩:=h.objs i o hi;rw[hf]at hy;simp only at hy;rw[hk.cls,show((k:Int)).toNat=k by omega,hk.line]at hy;simp only at hy;rw[hk.ver,show((v:Int)).toNat=v by omega]at hy;obtain⟨h2,h3⟩:=BO hk.aR y hy;exact kp y h2 h3
 .obtain⟨h1,h2⟩:=h.roots r Up;exact kp _ h1 h2
 .obtain⟨i,hi⟩:=List.getElem?_of_mem Up;exact h.oV hi
structure eW where
 kind:Int
 obj:bE
 id:Int
 ver:Int
 name:aM
 cls:ax
 chg:aC
instance:au eW where
 size:=18
 rep:=λM w cs x=>∃vv fv,cs=[xI x.kind,xI x.obj.id,xI x.obj.cls,xI x.obj.ver,vv,xI x.id,xI x.ver,xS x.name,xS x.cls.name,fv,xI x.chg.kind,xS x.chg.field,xS x.chg.name,xS x.chg.more,xI x.chg.type.kind,xI x.chg.type.of,xS x.chg.expr,xS x.chg.other]/\ab M w vv x.obj.aR/\ab M w fv x.cls.fields/\x.name.size<=maxLen/\x.cls.name.size<=maxLen
 len:=λ⟨_,_,h,_⟩=>by rw[h];rfl
 flat:=λ⟨_,_,h,h1,h2,_⟩u hu=>by
  rw[h]at hu;simp at hu;rcases hu with rfl|rfl|rfl|rfl|rfl|rfl|rfl|rfl|rfl|rfl|rfl|rfl|rfl|rfl|rfl|rfl|rfl|rfl;all_goals first|rfl|exact eK h1|exact eK h2
 ev:=λ⟨vv,fv,h,h1,h2,h3⟩k=>⟨vv,fv,h,h1.ev k,h2.ev k,h3⟩
theorem AM {β:Type}(f:β->Int):∀{l m:List β},l.Perm m->(l.map f).Pairwise (·< ·)->(m.map f).Pairwise (·< ·)->l=m
 |[],m,h,_,_=>by rw[List.nil_perm.1 h]
 |a::l,[],h,_,_=>by have:=h.length_eq;simp at this
 |a::l,b::m,h,h1,h2=>by
  rw[List.map_cons,List.pairwise_cons]at h1 h2;have ha:a∈b::m:=h.mem_iff.1 List.mem_cons_self;have hb:b∈a::l:=h.mem_iff.2 List.mem_cons_self;have e:a=b:=by
   rcases Qdf.1 ha with e|ha
   .exact e
   .rcases Qdf.1 hb with e|hb
    .exact e.symm
    .have k1:=h2.1 (f a) (List.mem_map_of_mem ha);have k2:=h1.1 (f b) (List.mem_map_of_mem hb);omega
  subst e;rw[AM f (List.perm_cons a|>.1 h) h1.2 h2.2]
def qA(l:List bE)(o:bE):List bE:=l.filter (λp=>decide (p.id<o.id))++o::l.filter (λp=>decide (o.id<p.id))
def sL {l:List bE}{o p:bE}:p∈qA l o↔(p∈l/\p.id≠o.id)\/p=o:=by
 unfold qA;simp only[Qch,List.mem_filter,Qdf,decide_eq_true_eq];constructor
 .rintro(⟨h,k⟩|rfl|⟨h,k⟩)
  .exact .inl ⟨h,by omega⟩
  .exact .inr rfl
  .exact .inl ⟨h,by omega⟩
 .rintro(⟨h,k⟩|rfl)
  .rcases Int.lt_trichotomy p.id o.id with e|e|e
   .exact .inl ⟨h,e⟩
   .exact absurd e k
   .exact .inr (.inr ⟨h,e⟩)
  .exact .inr (.inl rfl)
def PE {l m:List bE}(hl:(cL l).Pairwise (·< ·))(hm:(cL m).Pairwise (·< ·))(h:∀o,o∈l↔o∈m):l=m:=by
 have nd:∀{l:List bE},(cL l).Pairwise (·< ·)->l.Nodup:=λ{l}h=>by
  unfold cL at h;rw[List.pairwise_map]at h;exact h.imp (λhab e=>by subst e;omega)
 exact AM bE.id ((List.perm_ext_iff_of_nodup (nd hl) (nd hm)).2 h) hl hm
def fz(a b:aM):Bool:=Op.bytesLess a.toList b.toList
def mJ {a b:aM}:fz a b=true↔a.data.toList<b.data.toList:=by
 unfold fz;rw[Go.Proofs.bytesLess_eq,ByteArray.toList_eq,ByteArray.toList_eq];simp
def dj(a:aM):fz a a=false:=by
 cases h:fz a a with
 |false=>rfl
 |true=>exact absurd (mJ.1 h) (List.lt_irrefl _)
def ju {a b c:aM}(h:fz a b=true)(k:fz b c=true):fz a c=true:=mJ.2 (List.lt_trans (mJ.1 h) (mJ.1 k))
def Eu {a b:aM}(h:a.data.toList=b.data.toList):a=b:=by
 cases a with|mk a=>cases b with|mk b=>simp at h;rw[h]
def mK(a b:aM):fz a b=true\/a=b\/fz b a=true:=by
 rw[mJ,mJ];by_cases h:a.data.toList<b.data.toList
 .exact .inl h
 .rcases(List.le_iff_lt_or_eq (l₁:=b.data.toList) (l₂:=a.data.toList)).1 (List.not_lt.1 h)with k|k
  .exact .inr (.inr k)
  .exact .inr (.inl (Eu k.symm))
def gJ(l:List aV):Prop:=(l.map aV.name).Pairwise (λa b=>fz a b=true)
theorem yf:∀{l m:List aV},l.Perm m->gJ l->gJ m->l=m
 |[],m,h,_,_=>by rw[List.nil_perm.1 h]
 |a::l,[],h,_,_=>by have:=h.length_eq;simp at this
 |a::l,b::m,h,h1,h2=>by
  unfold gJ at h1 h2;rw[List.map_cons,List.pairwise_cons]at h1 h2;have ha:a∈b::m:=h.mem_iff.1 List.mem_cons_self;have hb:b∈a::l:=h.mem_iff.2 List.mem_cons_self;have e:a=b:=by
   rcases Qdf.1 ha with e|ha
   .exact e
   .rcases Qdf.1 hb with e|hb
    .exact e.symm
    .have k1:=h2.1 _ (List.mem_map_of_mem ha);have k2:=h1.1 _ (List.mem_map_of_mem hb);have:=ju k1 k2;rw[dj]at this;cases this
  subst e;rw[yf (List.perm_cons a|>.1 h) h1.2 h2.2]
theorem gi.AN {x:aX}(h:gi x):gJ x.roots:=by
 have key:∀(i d:Nat)(r s:aV),x.roots[i]? =some r->x.roots[i+(d+1)]? =some s->fz r.name s.name=true:=by
  intro i d;induction d with
  |zero=>
   intro r s hr hs;have:=h.xD i r s hr hs;obtain⟨k1,k2⟩:fz s.name r.name=false/\(s.name.toList==r.name.toList)=false:=by simpa [fz,Bool.or_eq_false_iff]using this
   rcases mK r.name s.name with e|e|e
   .exact e
   .rw[e]at k2;simp at k2
   .rw[e]at k1;cases k1
  |succ d ih=>
   intro r s hr hs;have hl:=(Qad.1 hs).1;obtain⟨q,hq⟩:=eB x.roots (i+(d+1)) (by omega);have k1:=ih r q hr hq;have:=h.xD (i+(d+1)) q s hq hs;obtain⟨k2,k3⟩:fz s.name q.name=false/\(s.name.toList==q.name.toList)=false:=by simpa [fz,Bool.or_eq_false_iff]using this
   rcases mK q.name s.name with e|e|e
   .exact ju k1 e
   .rw[e]at k3;simp at k3
   .rw[e]at k2;cases k2
 unfold gJ;refine List.pairwise_iff_getElem.2 λi j hi hj bu=> ?_;rw[Qdc]at hi hj;rw[List.getElem_map,List.getElem_map];exact key i (j-i-1) _ _ (Qac hi) (by rw[show i+(j-i-1+1)=j by omega];exact Qac hj)
def sM(l:List aV)(r:aV):List aV:=l.filter (λp=>fz p.name r.name)++r::l.filter (λp=>fz r.name p.name)
def sN {l:List aV}{r p:aV}:p∈sM l r↔(p∈l/\p.name≠r.name)\/p=r:=by
 unfold sM;simp only[Qch,List.mem_filter,Qdf];constructor
 .rintro(⟨h,k⟩|rfl|⟨h,k⟩)
  .exact .inl ⟨h,λe=>by rw[e,dj]at k;cases k⟩
  .exact .inr rfl
  .exact .inl ⟨h,λe=>by rw[e,dj]at k;cases k⟩
 .rintro(⟨h,k⟩|rfl)
  .rcases mK p.name r.name with e|e|e
   .exact .inl ⟨h,e⟩
   .exact absurd e k
   .exact .inr (.inr ⟨h,e⟩)
  .exact .inr (.inl rfl)
def Mm {l m:List aV}(hl:gJ l)(hm:gJ m)(h:∀o,o∈l↔o∈m):l=m:=by
 have nd:∀{l:List aV},gJ l->l.Nodup:=λ{l}h=>by
  unfold gJ at h;rw[List.pairwise_map]at h;exact h.imp (λhab e=>by subst e;rw[dj]at hab;cases hab)
 exact yf ((List.perm_ext_iff_of_nodup (nd hl) (nd hm)).2 h) hl hm
def My(x:aX)(h:gi x)(M:aN)(w:aj)(hM:Bd M w)(hT:Tb w)(lv rv:an)(pm:Nat)(hgr:Kd x M w lv pm)(iM:ab M w rv x.roots):
 xC 57 #[.agg #[lv, .map (some pm)],rv] w (cr (xB true) w):=by
 obtain⟨⟨ls,Gi,hlen,od⟩,es,clk,R3,JA⟩:=hgr;have eg:∀args w,(callFunc 127 args).run prog w= .ok (.enter 127 args) w:=enters_of func127 (by kernel_rfl) rfl;have rF:∀W(n:Int),aq w W->di W w (iY lv pm)->n∈cL x.objs->xC 127 #[xI n,xP w.heap.size] W (cr (xB false) W):=λW n hb hc h1=>by
  obtain⟨oo,hoo,rfl⟩:=List.mem_map.1 h1;obtain⟨ii,hii⟩:=List.getElem?_of_mem hoo;have hv:=Kd.at_ h JA hii;exact IG W w.heap.size pm es clk _ _ (ah hc).2 ((hb.block _ (Qaa.1 R3).1).trans R3) hv
 have HM:=af rF;have HR:Hd (∀i r,x.roots[i]? =some r->_):=λi r hr=>iF iM hr;have N0:Hd (∀(i:Nat)r,x.roots[i]? =some r->r.id∈cL x.objs):=λi r hr=>h.roots r (Qaf hr);have HO:Hd (∀i o,ls[i]? =some o->_):=λi o ho=>jq Gi ho;have Gj:Hd (∀(i:Nat)o,ls[i]? =some o->∀W u,aq w W->ab M W u o.aR->xC 62 #[.agg #[xI o.id,xI o.cls,xI o.ver,u]] W (cg W λv w'=>ab M w' v (o.aR.flatMap (cC 3)))):=λi o ho W u hb hu=>by
  obtain⟨fs,h1,h8⟩:=(od i o ho).aR h;exact J0 o 100000 (Int.le_refl _) fs h1 h8 M W (hM.below hb) u hu (hT.below hb)
 have Nj:Hd (∀(i:Nat)o,ls[i]? =some o->∀W u,aq w W->di W w (iY lv pm)->ab M W u (o.aR.flatMap (cC 3))->_):=λi o ho W u hb hc hu=>nA 127 #[xP w.heap.size] eg _ M u W hu (λn hn W' l6=>rF W' n (hb.trans (l6.mono hb.size)) ((l6.block _ (Qaa.1 hc).1).trans hc) ((od i o ho).inside h n hn));have KQ:=h.len;have h5:=h.rlen;obtain⟨la,lc,rfl,Jq,hlm,_⟩:=Gi.open_;obtain⟨ra,rc,rfl,Tj,hrm,_⟩:=iM.open_;clear Gi iM h rF R3 JA od hM hT;generalize hn:ls.length=n at*;generalize FE:x.roots.length=m at*;have qew:n<=500:=by omega
 clear hlen KQ;have HN:=af hn;clear hn;have FH:=af FE;clear FE;have HEG:=af eg;go_enter func57,ntmps57;go_wp2;go_loopg [4,7,13]m(λg r4 _ iv wr=>∃j:Nat,j<=m/\g=m-j/\iv=xI j/\r4=xB false/\Hd (Bx w [iY (xL la n lc) pm] wr));case atStart=>exact⟨0,Qbf _,rfl,rfl,rfl,(Bx.eD w _)⟩
 case round=>
  obtain⟨j,hj,rfl,rfl,rfl,HB⟩:=hrel;by_cases bu:j<m
  .obtain⟨r,hr⟩:=eB x.roots j (by rw[FH.o];exact bu);obtain⟨b,off,cap,hv,cR,_,ay⟩:=HR.o j r hr;obtain⟨rfl,rfl⟩:=iB hv;obtain⟨g0,g1⟩:=ay wr HB.o.1;have HRX:=af (N0.o j r hr);clear hv ay hr;go_wp2_with fail;refine bY (HM.o _ r.id (HB.o.alloc _).1 ((HB.o.alloc _).bG rfl) HRX.o) λw1 aF=> ?_;have aY:Hd (Bx w [iY (xL la n lc) pm] w1):=(HB.o.alloc _).below aF;clear aF g0 g1;go_wp2;go_roundg(m-(j+1));case measure=>omega
   case rel=>exact⟨j+1,by omega,rfl,by go_num,rfl,aY⟩
  .obtain rfl:j=m:=by omega
   obtain⟨c0,c1⟩:=ah (HB.o.bG rfl);go_wp2;go_loopg [4,9,25]n(λg r4 _ iv wr=>∃i:Nat,i<=n/\g=n-i/\iv=xI i/\r4=xB false/\Hd (Bx w [iY (xL la n lc) pm] wr));case atStart=>exact⟨0,Qbf _,rfl,rfl,rfl,HB⟩
   case round=>
    obtain⟨i,hi,rfl,rfl,rfl,HX⟩:=hrel;clear c0 c1;by_cases Q4:i<n
    .obtain⟨o,ho⟩:=eB ls i (by rw[HN.o];exact Q4);obtain⟨b,off,cap,va,vc,hv,cR,dA,ay⟩:=HO.o i o ho;obtain⟨rfl,rfl⟩:=iB hv;obtain⟨g0,g1,g2,g3⟩:=ay wr HX.o.1;have br:=af (λo'=>Gj.o i o ho (wr.alloc o') _ (HX.o.alloc o').1 (dA.below (HX.o.alloc o').1));have qbu:=af (Nj.o i o ho);obtain⟨nl,QJ⟩:=bS (o.aR.flatMap (cC 3));rw[<-QJ]at br qbu;clear QJ;obtain⟨oi,oc,ov,os⟩:=o;clear hv ay ho dA;go_wp2_with fail;refine(br.o _).mono ?_;rintro e w1⟨u,rfl,hu,aF⟩;have hu':=hu;obtain⟨ua,uc,rfl,_⟩:=hu'.open_;have HU:=af hu;have aY:Hd (Bx w [iY (xL (some ⟨b,off,none⟩) n lc) pm] w1):=(HX.o.alloc _).below aF;clear aF hu g0 g1 g2 g3;go_wp2_with fail;refine bY (qbu.o _ _ aY.o.1 (aY.o.bG rfl) HU.o) λw2 bC=> ?_;have aQ:Hd (Bx w [iY (xL (some ⟨b,off,none⟩) n lc) pm] w2):=aY.o.below bC;clear bC;go_wp2;go_roundg(n-(i+1));case measure=>omega
     case rel=>exact⟨i+1,by omega,rfl,by go_num,rfl,aQ⟩
    .obtain rfl:i=n:=by omega
     go_wp2;go_ret;exact⟨rfl,HX.o.1⟩
def Ks(b:Nat):Obj:=xK #[.map (some b)] 96
def vp(v:an):Obj:=xK #[v] 27
def tg(w0:aj):Nat->Prop:=λi=>i=w0.heap.size+1\/i=w0.heap.size+1+1+1
structure ie(w0 w:aj)(g:Obj)(v:an)(S wk:List Int):Prop where
 b0:w.heap[w0.heap.size]? =some g
 b5:w.heap[w0.heap.size+1+1]? =some (Ks (w0.heap.size+1))
 b6:w.heap[w0.heap.size+1+1+1]? =some (vp v)
 set:Mk.jf w (w0.heap.size+1) S
 acc:aK (α:=Int) (tg w0) (w0.heap.size+4) 3 w v wk
 low:aq w0 w
 short:wk.length<=S.length
section
variable {w0 w w2 w4 W:aj}{g:Obj}{v v2:an}{S wk:List Int}{x:Int}
theorem ie.lt(h:ie w0 w g v S wk):w0.heap.size+4<=w.heap.size:=(Qaa.1 h.b6).1
theorem ie.below(h:ie w0 w g v S wk)(hb:aq w W):ie w0 W g v S wk:=
 ⟨(hb.block _ (by have:=h.lt;omega)).trans h.b0,(hb.block _ (by have:=h.lt;omega)).trans h.b5,(hb.block _ (by have:=h.lt;omega)).trans h.b6,h.set.same (hb.block _ (by have:=h.lt;omega)),h.acc.below hb,h.low.trans (hb.mono h.low.size),h.short⟩
theorem ie.bd(h:ie w0 w g v S wk):Bd (bg v (tg w0)) w:=λi hi=>by
 have hl:=h.lt;rcases hi with(hi|hi)|hi
 .omega
 .omega
 .exact(h.acc.cJ i hi).2
theorem ie.next(h:ie w0 w g v S wk)(hs:Mk.jf w2 (w0.heap.size+1) (S++[x]))(ho:ai (λi=>i=w0.heap.size+1) w w2)(o:Obj)(hacc:aK (α:=Int) (tg w0) (w0.heap.size+4) 3 w4 v2 (wk++[x]))(zS:Ev (bg v (tg w0)) (w2.alloc o) (bg v2 (tg w0)) w4)(hb:Below (w0.heap.size+4) (w2.alloc o) w4):
 ie w0 (w4.setCell ⟨w0.heap.size+1+1+1,0,none⟩ v2) g v2 (S++[x]) (wk++[x])/\Ev (bg v (tg w0)) w (bg v2 (tg w0)) (w4.setCell ⟨w0.heap.size+1+1+1,0,none⟩ v2):=by
 have hl:=h.lt;have hz:=ho.size;have e1:∀i,i<w0.heap.size+4->w4.heap[i]? =w2.heap[i]? :=λi hi=>(hb.block i hi).trans (((Qbg _ w2).alloc bN o).block i (by omega));have e2:∀i,i≠w0.heap.size+1+1+1->i<w0.heap.size+4->(w4.setCell ⟨w0.heap.size+1+1+1,0,none⟩ v2).heap[i]? =w2.heap[i]? :=λi hn hi=>(Qag _ _ _ _ hn).trans (e1 i hi);refine⟨⟨?_,?_,?_,?_,?_,?_,?_⟩,⟨?_,λi hi=> ?_⟩⟩
 .exact(e2 _ (by omega) (by omega)).trans (ho.at_ h.b0 (by omega))
 .exact(e2 _ (by omega) (by omega)).trans (ho.at_ h.b5 (by omega))
 .have:=Qca w4 (w0.heap.size+1+1+1) 0 _ _ v2 ((e1 _ (by omega)).trans (ho.at_ h.b6 (by omega)));simpa [vp]using this
 .exact hs.same (e2 _ (by omega) (by omega))
 .exact hacc.vz (p:=⟨w0.heap.size+1+1+1,0,none⟩) (.inr rfl) (by show w0.heap.size+1+1+1<_;omega) _
 .exact(((aS h.low h.low.size ho (λi hi=>by subst hi;omega)).alloc (by have:=h.low.size;omega) o).trans (hb.mono (by omega))).setCell (p:=⟨w0.heap.size+1+1+1,0,none⟩) (by show w0.heap.size<=w0.heap.size+1+1+1;omega) _
 .have:=h.short;simp;omega
 .refine ai.setCell ?_ (p:=⟨w0.heap.size+1+1+1,0,none⟩) (.inl (.inl (.inr rfl))) _;exact((ho.mono (λi hi=> .inl (.inl hi))).alloc o).trans zS.only
 .rcases zS.sub i hi with h1|h1
  .exact .inl h1
  .right;have:(w2.alloc o).heap.size=w2.heap.size+1:=by simp
   omega
end
theorem th:∀(ids S wk:List Int),((Mk.dS (S,wk) ids).1).length<=S.length+ids.length
 |[],S,wk=>by simp[Mk.dS]
 |a::r,S,wk=>by
  have e:Mk.dS (S,wk) (a::r)=Mk.dS (if a∈S then(S,wk)else(S++[a],wk++[a])) r:=rfl;rw[e];split
  .have:=th r S wk;simp;omega
  .have:=th r (S++[a]) (wk++[a]);simp at this⊢;omega
def Qg(w0 w:aj)(g:Obj)(v:an)(S wk ids:List Int)(hS:S.length+ids.length<=1000)(h:ie w0 w g v S wk)(iv:an)(hi:ab (α:=Int) (bg v (tg w0)) w iv ids):
 xC 61 #[iv,xP (w0.heap.size+1+1),xP (w0.heap.size+1+1+1)] w λe w'=>e=xR (.tuple #[])/\∃v',ie w0 w' g v' (Mk.dS (S,wk) ids).1 (Mk.dS (S,wk) ids).2/\Ev (bg v (tg w0)) w (bg v' (tg w0)) w':=by
 obtain⟨i0,ed,ej,dO,er⟩:=info_parts rZ;have gp:Hd (∀k,((Mk.dS (S,wk) (ids.take k)).1).length<=1000):=λk=>by
  have h2:=th (ids.take k) S wk;have h3:(ids.take k).length<=ids.length:=by rw[Qdb];omega
  omega
 have FL:Hd (ie w0 w g v (Mk.dS (S,wk) (ids.take 0)).1 (Mk.dS (S,wk) (ids.take 0)).2/\Ev (bg v (tg w0)) w (bg v (tg w0)) w/\ab (α:=Int) (bg v (tg w0)) w iv ids):=⟨h,Ev.refl _ _,hi⟩;obtain⟨a,cap,rfl,cV,hm,_⟩:=hi.open_;clear h hi hS;generalize hn:ids.length=n at*;have HN:=af hn;clear hn;go_enter func61,ntmps61;go_wp2;go_loopg [5,8]n(λgg _ kv wr=>∃(k:Nat)(v1:an),k<=n/\gg=n-k/\kv=xI k/\Hd (ie w0 wr g v1 (Mk.dS (S,wk) (ids.take k)).1 (Mk.dS (S,wk) (ids.take k)).2/\Ev (bg v (tg w0)) w (bg v1 (tg w0)) wr/\ab (α:=Int) (bg v1 (tg w0)) wr (xL a n cap) ids));case atStart=>exact⟨0,v,Qbf _,rfl,rfl,FL⟩
 case round=>
  obtain⟨k,v1,hk,rfl,rfl,HX⟩:=hrel;by_cases bu:k<n
  .obtain⟨x,hx⟩:=eB ids k (by rw[HN.o];exact bu);obtain⟨b,off,ig,hv,hb,ay⟩:=mA HX.o.2.2 hx;obtain⟨rfl,rfl⟩:a=some ⟨b,off,none⟩/\cap=ig:=by rw[HN.o]at hv;simpa using hv
   have hcx:=ay wr dQ;have c5:=one_cell HX.o.1.b5;have qq:=HX.o.1.set.lookup x;have HKX:=af hx;clear hv ay hx hb;by_cases kp:x∈(Mk.dS (S,wk) (ids.take k)).1
   .rw[decide_eq_true kp]at qq;have gM:=af (show ie w0 wr g v1 (Mk.dS (S,wk) (ids.take (k+1))).1 (Mk.dS (S,wk) (ids.take (k+1))).2 by
     rw[Mk.AJ HKX.o,if_pos kp];exact HX.o.1);clear kp;go_wp2;go_roundg(n-(k+1));case measure=>omega
    case rel=>exact⟨k+1,v1,by omega,rfl,by go_num,(show _/\_/\_ from⟨gM.o,HX.o.2.1,HX.o.2.2⟩)⟩
   .rw[decide_eq_false kp]at qq;obtain⟨w2,hup,Rp,FM⟩:=HX.o.1.set.store x kp;have FN:=Mk.AJ (p:=(S,wk)) HKX.o;rw[if_neg kp]at FN;have U3:=af FN;have hlen:=gp.o k;clear FN kp;obtain⟨S1,hS1⟩:=jO ((Mk.dS (S,wk) (ids.take k)).1);obtain⟨K1,hK1⟩:=jO ((Mk.dS (S,wk) (ids.take k)).2);rw[hS1]at Rp hlen;have fL:=af (show ie w0 wr g v1 S1 K1/\Ev (bg v (tg w0)) w (bg v1 (tg w0)) wr/\ab (α:=Int) (bg v1 (tg w0)) wr (xL (some ⟨b,off,none⟩) n cap) ids by rw[<-hS1,<-hK1];exact HX.o);have qfo:=af (show Mk.dS (S,wk) (ids.take (k+1))=(S1++[x],K1++[x])by rw[U3.o,hS1,hK1]);clear HX U3 hS1 hK1;have hl:=fL.o.1.lt;have nX:=fL.o.1.short;have c6:=one_cell (FM.at_ fL.o.1.b6 (by omega));have Bq:=af FM.size;have qfp:=af Rp;have kY:=af FM;have hac:=fL.o.1.acc;obtain⟨a1,c1,rfl,_,_⟩:=hac.open_;have HAC:Hd (aK (α:=Int) (tg w0) (w0.heap.size+4) 3 w2 (xL a1 K1.length c1) K1):=hac.only kY.o (λi hi=>⟨.inl hi,by have h:i=w0.heap.size+1:=hi;omega⟩);have qt:Hd (bR w2 (w0.heap.size+1+1+1) (vp (xL a1 K1.length c1))):=FM.at_ fL.o.1.b6 (by omega);have qh2:w0.heap.size+4<=w2.heap.size:=Qcg hl Bq.o;clear Rp FM hac;go_wp2_with(at_builtin;refine aW (α:=Int) rfl _ _ _ rfl (tg w0) (w0.heap.size+4) 3 i0 _ 8 underlying27 ed ej dO er rfl (by decide) (.slice a1 K1.length c1) K1 rfl (HAC.o.alloc _) (λ_=>True) _ _ x rfl (cD _ _ _ _ rfl trivial) rfl (by unfold maxLen;omega) (by omega) (by simp;omega) ?_;intro a2 c2 w4 bj dz bC;have uK:=af (fL.o.1.next qfp.o kY.o _ bj dz bC);have jz:bR w4 (w0.heap.size+1+1+1) (vp (xL a1 K1.length c1)):=(bC.block _ (by omega)).trans ((bM.block _ (by omega)).trans qt.o);have p6:=one_cell jz;have f6:=ag jz 0;clear bj dz bC jz);go_roundg(n-(k+1));case measure=>omega
    case rel=>
     refine⟨k+1,_,by omega,rfl,by go_num,(show _/\_/\_ from⟨?_,fL.o.2.1.trans uK.o.2,fL.o.2.2.ev uK.o.2⟩)⟩;rw[qfo.o];exact uK.o.1
  .obtain rfl:k=n:=by omega
   go_wp2_with fail;have hh:=HX.o;rw[Qah (by rw[HN.o];omega)]at hh;refine bodyPost_end (results_none rfl _ _ _) rfl ?_;exact⟨rfl,v1,hh.1,hh.2.1⟩
def SY {wk:List Int}(h:aK (α:=Int) M base 3 w v (wk++[id]))(hM:∀i,M i->i<base):
 ∃g c,v=xL (some ⟨g,0,none⟩) (wk.length+1) c/\wk.length+1<=c/\bt w g wk.length (xI id)/\aK (α:=Int) M base 3 w (xL (some ⟨g,0,none⟩) wk.length c) wk:=by
 have bI:=h.slice hM;obtain⟨css,h1,h2,h3⟩:=h;have e:css=(wk++[id]).map (λx=>[Value.int .i64 x]):=by
  refine List.ext_getElem (by simpa using h2) (λi p q=> ?_);rw[List.getElem_map];exact h3 i _ _ (Qac p) (Qac (by simpa using q))
 subst e;have fl:∀l:List Int,(l.map (λx=>[Value.int .i64 x])).flatten=l.map (Value.int .i64):=λl=>by
  induction l with
  |nil=>rfl
  |cons a r ih=>simp only[List.map_cons,List.flatten_cons,ih];rfl
 rw[fl,List.map_append,show(wk++[id]).length=wk.length+1 by simp]at h1;have h1':=h1;obtain⟨_,⟨_,h0⟩|⟨g,c,cur,rfl,_,_,hc,_⟩⟩:=h1'
 .omega
 have hp:=ownsRow_pop (size:=1) (n:=wk.length) (by simp) h1;obtain⟨b,off,cap,hv,_,aL⟩:=xY bI (k:=wk.length) (x:=id) (by simp);have zW:g=b/\0=off:=by
  have:=hv;simp at this;exact⟨this.1.1,this.1.2⟩
 obtain⟨rfl,rfl⟩:=zW;refine⟨g,c,rfl,hc,by simpa using aL w dQ,⟨wk.map (λx=>[Value.int .i64 x]),?_,by simp,λi cs x bJ hx=> ?_⟩⟩
 .rw[fl];exact hp
 .rw[List.getElem?_map,hx]at bJ;simp at bJ;exact bJ.symm
theorem ie.pop {g:Obj}{wk:List Int}(h:ie w0 w g v S (wk++[id])):
 ∃q c,v=xL (some ⟨q,0,none⟩) (wk.length+1) c/\wk.length+1<=c/\bt w q wk.length (xI id)/\ie w0 (w.setCell ⟨w0.heap.size+1+1+1,0,none⟩ (xL (some ⟨q,0,none⟩) wk.length c)) g (xL (some ⟨q,0,none⟩) wk.length c) S wk:=by
 have hN:∀i,tg w0 i->i<w0.heap.size+4:=λi hi=>by rcases hi with hi|hi<;>omega
 obtain⟨q,c,rfl,hc,aL,hacc⟩:=SY h.acc hN;have ho:=λi(hn:i≠w0.heap.size+1+1+1)=>Qag w ⟨w0.heap.size+1+1+1,0,none⟩ i (xL (some ⟨q,0,none⟩) wk.length c) hn;refine⟨q,c,rfl,hc,aL,⟨(ho _ (by omega)).trans h.b0,(ho _ (by omega)).trans h.b5,?_,h.set.same (ho _ (by omega)),?_,?_,?_⟩⟩
 .have:=Qca w (w0.heap.size+1+1+1) 0 _ _ (xL (some ⟨q,0,none⟩) wk.length c) h.b6;simpa [vp]using this
 .exact hacc.vz (p:=⟨w0.heap.size+1+1+1,0,none⟩) (.inr rfl) (by show w0.heap.size+1+1+1<_;omega) _
 .exact h.low.setCell (p:=⟨w0.heap.size+1+1+1,0,none⟩) (by show w0.heap.size<=w0.heap.size+1+1+1;omega) _
 .have:=h.short;simp at this;omega
def I5 {es:List (Int×an×Nat)}(h:bD dC w b es clk)(n:Int)(v:an)(hv:aZ es n=some v):(Instr.lookup 87 (.map (some b)) (xI n) false).run prog w= .ok v w:=
 bD.ye dC underlying87 dW ey h n v hv
def MQ(x:aX)(h:gi x)(M:aN)(w:aj)(hM:Bd M w)(hT:Tb w)(lv rv:an)(pm:Nat)(hgr:Kd x M w lv pm)(iM:ab M w rv x.roots):
 xC 24 #[.agg #[lv, .map (some pm)],rv] w λe w'=>∃S sb,e=xR (.map (some sb))/\Mk.jf w' sb S/\(∀n,n∈S↔Mk.CH (cm x) (dw x) n)/\aq w w':=by
 obtain⟨⟨ls,Gi,hlen,od⟩,es,clk,R3,JA⟩:=hgr;have Nv:∀j,(Mk.dS ([],[]) ((cm x).take j)).1.length<=500:=λj=>by
  have h1:=th ((cm x).take j) [] [];have h2:=h.rlen;have h3:((cm x).take j).length<=500:=by rw[Qdb];unfold cm;rw[Qdc];omega
  have h4:([]:List Int).length=0:=rfl;omega
 have UZ:=af Nv;have HR:Hd (∀i r,x.roots[i]? =some r->_):=λi r hr=>iF iM hr;have XL:Hd (∀(i:Nat)r,x.roots[i]? =some r->Mk.dS ([],[]) ((cm x).take (i+1))=Mk.dS (Mk.dS ([],[]) ((cm x).take i)) [r.id]):=λi r hr=>by
  have e:(cm x)[i]? =some r.id:=by unfold cm;rw[List.getElem?_map,hr];rfl
  rw[Qbb,e];show(List.foldl _ _ (_++[r.id]))=_;rw[List.foldl_append];rfl
 have Tn:=af (show(cm x).take x.roots.length=cm x by unfold cm;rw[Qah (by rw[Qdc];exact bN)]);have HIV:Hd (∀S wk(W:aj)g v,ie w W g v S wk->Mk.nU (cm x) (dw x) S wk->S.length<=x.objs.length/\S.length<=500):=λS wk W g v h1 h2=>by
  have h3:=eV (cL x.objs) S h1.set.nodup (λy hy=>h.closed.Rw (h2.reached y hy));unfold cL at h3;rw[Qdc]at h3;have:=h.len;exact⟨h3,by omega⟩
 have UU:Hd (∀(n:Int),Mk.CH (cm x) (dw x) n->∃(i:Nat)(o:bE),n=o.id/\ls[i]? =some o):=λn hn=>by
  obtain⟨o0,ho0,rfl⟩:=List.mem_map.1 (h.closed.Rw hn);obtain⟨i,hi⟩:=List.getElem?_of_mem ho0;have ze:=(Qad.1 hi).1;have hg:ls[i]? =some ls[i]:=Qac (by omega);obtain⟨o1,h1,h2⟩:=(od i _ hg).idn;rw[hi]at h1;cases h1;exact⟨i,_,h2.symm,hg⟩
 have HO:Hd (∀i o,ls[i]? =some o->_):=λi o ho=>jq Gi ho;have CC:Hd (∀(i:Nat)o W,ls[i]? =some o->aq w W->_):=λi o W ho hb=>I5 (w:=W) ((hb.block _ (Qaa.1 R3).1).trans R3) o.id _ (by obtain⟨o1,h1,h2⟩:=(od i o ho).idn;rw[h2];exact Kd.at_ h JA h1);have Gj:Hd (∀(i:Nat)o,ls[i]? =some o->∀W g v S wk u,ie w W g v S wk->ab M w u o.aR->xC 62 #[.agg #[xI o.id,xI o.cls,xI o.ver,u]] W (cg W λr w'=>ab (bg v (tg w)) w' r (dw x o.id))):=λi o ho W g v S wk u fJ hu=>by
  obtain⟨fs,h1,h8⟩:=(od i o ho).aR h;have vS:Bd (λi=>M i\/bg v (tg w) i) W:=λi hi=>by
   rcases hi with hi|hi
   .exact hM.below fJ.low i hi
   .exact fJ.bd i hi
  have zS:Ev M w (λi=>M i\/bg v (tg w) i) W:=⟨ai.ao fJ.low,λi hi=>by
   rcases hi with hi|(hi|hi)|hi
   .exact .inl hi
   .right;omega
   .right;omega
   .right;have:=(fJ.acc.cJ i hi).1;omega⟩;have hr:=J0 o 100000 (Int.le_refl _) fs h1 h8 (λi=>M i\/bg v (tg w) i) W vS u (hu.ev zS) (hT.below fJ.low);rw[(od i o ho).refs h]at hr;refine hr.mono ?_;rintro e w'⟨r,rfl,hs,hb⟩;exact⟨r,rfl,hs.ev (Ev.dD _ λi hi=> .inr hi),hb⟩
 have Gc:Hd (∀(i:Nat)o,ls[i]? =some o->(dw x o.id).length<=96):=λi o ho=>Io h (od i o ho);have h5:=h.rlen;obtain⟨la,lc,rfl,Jq,hlm,_⟩:=Gi.open_;obtain⟨ra,rc,rfl,Tj,hrm,_⟩:=iM.open_;have qfq:Hd (Mk.nU (cm x) (dw x) (Mk.dS ([],[]) (cm x)).1 (Mk.dS ([],[]) (cm x)).2):=Mk.nU.start _ _;have CV:=af (show ls.length<=500 by rw[hlen];exact h.len);clear Gi iM h R3 JA od hM hT Nv;generalize hn:ls.length=n at*;generalize FE:x.roots.length=m at*;have HN:=af hn;clear hn;have FH:=af FE;clear FE;have j7:=af hlen;clear hlen;have qfr:Hd (∀(wr:aj)v1 S wk(id:Int)(o:Obj),ie w wr (iY (xL la n lc) pm) v1 S wk->S.length<=900->xC 61 #[xL (some ⟨wr.heap.size+1,0,none⟩) 1 1,xP (w.heap.size+1+1),xP (w.heap.size+1+1+1)] ((wr.alloc o).alloc (xK #[xI id] 3)) λe w'=>e=xR (.tuple #[])/\∃v',ie w w' (iY (xL la n lc) pm) v' (Mk.dS (S,wk) [id]).1 (Mk.dS (S,wk) [id]).2):=λwr v1 S wk id o h hS=>by
  have h1:ie w (wr.alloc o) (iY (xL la n lc) pm) v1 S wk:=h.below (dQ.alloc bN o);have h2:ie w ((wr.alloc o).alloc (xK #[xI id] 3)) (iY (xL la n lc) pm) v1 S wk:=h1.below bM;have hz:(wr.alloc o).heap.size=wr.heap.size+1:=by simp
  have hs:ab (α:=Int) (bg v1 (tg w)) ((wr.alloc o).alloc (xK #[xI id] 3)) (xL (some ⟨wr.heap.size+1,0,none⟩) 1 1) [id]:=by
   rw[<-hz];refine⟨[[xI id]],cD (F:=λi=>¬bg v1 (tg w) i) (wr.alloc o) #[xI id] _ 1 rfl (λhh=>by have:=h1.bd _ hh;omega),rfl,λi cs y hc hy=> ?_⟩;match i,hc,hy with
   |0,hc,hy=>cases hc;cases hy;rfl
   |i+1,hc,hy=>simp at hc
  refine(Qg w _ _ v1 S wk [id] (by simp;omega) h2 _ hs).mono ?_;rintro e w'⟨rfl,v',k1,k2⟩;exact⟨rfl,v',k1⟩
 have qfs:Hd (∀(W:aj)v S wk ids u,ie w W (iY (xL la n lc) pm) v S wk->S.length+ids.length<=1000->ab (α:=Int) (bg v (tg w)) W u ids->_):=λW v S wk ids u h1 h2 h3=>Qg w W _ v S wk ids h2 h1 u h3;have wj:=λw=>eQ 96 w;go_enter func24,ntmps24;go_upto_region 4 with fail;obtain⟨W0,vT⟩:=bS ((((w.alloc (iY (xL la n lc) pm)).alloc (.map #[] 0)).alloc (Ks (w.heap.size+1))).alloc (vp (xL none 0 0)));have FL:=af (show ie w W0 (iY (xL la n lc) pm) (xL none 0 0) (Mk.dS ([],[]) ((cm x).take 0)).1 (Mk.dS ([],[]) ((cm x).take 0)).2 by
  have hX:=Bx.Ow w (iY (xL la n lc) pm) (.map #[] 0) (Ks (w.heap.size+1)) (vp (xL none 0 0));rw[<-vT]at hX;exact⟨hX.bG rfl,hX.fR rfl,hX.BD rfl,⟨[],0,⟨hX.bU rfl,by simp,by simp,by simp⟩,rfl⟩,aK.nil _ _ _ _,hX.1,bN⟩);unfold iY Ks vp at vT;rw[<-vT];clear vT;go_wp2;go_loopg [9,15]m(λgg _ jv wr=>∃(j:Nat)(v1:an),j<=m/\gg=m-j/\jv=xI j/\Hd (ie w wr (iY (xL la n lc) pm) v1 (Mk.dS ([],[]) ((cm x).take j)).1 (Mk.dS ([],[]) ((cm x).take j)).2));case atStart=>exact⟨0,_,Qbf _,rfl,rfl,FL⟩
 case round=>
  obtain⟨j,v1,hj,rfl,rfl,HX⟩:=hrel;by_cases bu:j<m
  .obtain⟨r,hr⟩:=eB x.roots j (by rw[FH.o];exact bu);obtain⟨b,off,cap,hv,cR,_,ay⟩:=HR.o j r hr;obtain⟨rfl,rfl⟩:=iB hv;obtain⟨g0,g1⟩:=ay wr HX.o.low;have gM:=af (XL.o j r hr);have br:=af (λo=>qfr.o wr v1 _ _ r.id o HX.o (by have:=UZ.o j;omega));clear hv ay hr;go_wp2_with fail;refine(br.o _).mono ?_;rintro e w1⟨rfl,v2,fJ⟩;have HY:=af fJ;clear fJ g0 g1;go_wp2;go_roundg(m-(j+1));case measure=>omega
   case rel=>exact⟨j+1,v2,by omega,rfl,by go_num,(show ie _ _ _ _ _ _ from by rw[gM.o];exact HY.o)⟩
  .obtain rfl:j=m:=by omega
   have uB:=af (show ie w wr (iY (xL la n lc) pm) v1 (Mk.dS ([],[]) (cm x)).1 (Mk.dS ([],[]) (cm x)).2 by have:=HX.o;rw[Tn.o]at this;exact this);clear HX;go_wp2;go_loopg [10](Mk.pg x.objs.length (Mk.dS ([],[]) (cm x)).1 (Mk.dS ([],[]) (cm x)).2)(λgg _ wr=>∃(S wk:List Int)(v1:an),gg=Mk.pg x.objs.length S wk/\Hd (ie w wr (iY (xL la n lc) pm) v1 S wk/\Mk.nU (cm x) (dw x) S wk));case atStart=>exact⟨_,_,_,rfl,(show _/\_ from⟨uB.o,qfq.o⟩)⟩
   case round=>
    obtain⟨S,wk,v2,rfl,HZ⟩:=hrel;have c5:=one_cell HZ.o.1.b5;rcases List.eq_nil_or_concat wk with rfl|⟨KS,id,rfl⟩
    .have hop:=HZ.o.1.acc.open_;obtain⟨za,zc,rfl,_⟩:=hop;have c6:=one_cell HZ.o.1.b6;rw[Qcd]at c6;go_wp2;go_ret;exact⟨S,_,rfl,HZ.o.1.set,HZ.o.2.done,HZ.o.1.low⟩
    .rw[List.concat_eq_append]at HZ;have hpp:=HZ.o.1.pop;obtain⟨q,c,zW,hc,aL,qb8⟩:=hpp;subst zW;have nX:=HZ.o.1.short;have qb9:=HIV.o _ _ _ _ _ HZ.o.1 HZ.o.2;have c6:=one_cell HZ.o.1.b6;have f6:=ag HZ.o.1.b6 0;have FO:=af qb8;have Nz:=UU.o id (HZ.o.2.reached id (HZ.o.2.sub id (by simp)));obtain⟨i,o,hid,ho⟩:=Nz;subst hid;have qft:KS.length+1<=500:=by simp at nX;omega
     obtain⟨k,hk⟩:=jO (KS.length);rw[hk]at c6 aL hc qft;have FO:=af (show ie w (wr.setCell ⟨w.heap.size+1+1+1,0,none⟩ (xL (some ⟨q,0,none⟩) k c)) (iY (xL la n lc) pm) (xL (some ⟨q,0,none⟩) k c) S KS by rw[<-hk];exact FO.o);have Xz:=af qb9;have Y7:=af ho;have Kv:(0:Int)<=(k:Int):=Qba _;have hiw:IntKind.i64.wrap (((k+1:Nat):Int)-1)=(k:Int):=by rw[show((k+1:Nat):Int)-1=(k:Int)from by omega];exact Qbe _ (by omega)
     have hgt:decide ((0:Int)<((k+1:Nat):Int))=true:=by simp
     have hkc:(k:Int)<=(c:Int):=by omega
     have qh3:k<=c:=by omega
     clear qb8 nX qb9 hk ho hc;go_upto_region 12 with fail;obtain⟨W,hW⟩:=bS (wr.setCell ⟨w.heap.size+1+1+1,0,none⟩ (xL (some ⟨q,0,none⟩) k c));rw[<-hW]at FO⊢;clear hW f6 c6 c5 aL;obtain⟨g0,g1⟩:=ah FO.o.b0;obtain⟨b,off,cap,va,vc,hv,cR,dA,ay⟩:=HO.o i o Y7.o;obtain⟨rfl,rfl⟩:=iB hv;obtain⟨q0,q1,q2,q3⟩:=ay W FO.o.low;have qq:=CC.o i o W Y7.o FO.o.low;have Yg:=af (Gj.o i o Y7.o W _ _ _ _ _ FO.o dA);have qca:=af (Gc.o i o Y7.o);have kp:i<n:=by have:=(Qad.1 Y7.o).1;have:=HN.o;omega
     have qdr:(0:Int)<=(i:Int):=Qba _;have qh4:(i:Int)<(n:Int):=by omega
     obtain⟨nl,QJ⟩:=bS (dw x o.id);rw[<-QJ]at Yg qca;have HNL:=af QJ;clear QJ ay hv dA cR Y7;obtain⟨oi,oc,ov,os⟩:=o;dsimp only at*;go_wp2_with fail;refine(Yg.o).mono ?_;rintro e w5⟨u5,rfl,Fs,jg⟩;have qfu:=Fs;obtain⟨ua,uc,rfl,_⟩:=qfu.open_;have vK:=af (FO.o.below jg);have qk:=af (qfs.o w5 _ S KS nl _ vK.o (by have:=qca.o;have:=Xz.o.2;omega) Fs);clear Fs jg qq q0 q1 q2 q3 g0 g1;go_wp2_with fail;refine(qk.o).mono ?_;rintro e w6⟨rfl,v',k1,k2⟩;have ot:=af k1;clear k1 k2;go_wp2_with fail;have CT:=af (show Mk.nU (cm x) (dw x) (Mk.dS (S,KS) nl).1 (Mk.dS (S,KS) nl).2 by rw[HNL.o];exact HZ.o.2.step);have qcb:Mk.pg x.objs.length (Mk.dS (S,KS) nl).1 (Mk.dS (S,KS) nl).2<Mk.pg x.objs.length S (KS++[oi]):=by
      refine Mk.Ep (R:=dw x) (by rw[<-HNL.o]) (HIV.o _ _ _ _ _ ot.o CT.o).1
     go_roundg(Mk.pg x.objs.length (Mk.dS (S,KS) nl).1 (Mk.dS (S,KS) nl).2);case measure=>rw[List.concat_eq_append];exact qcb
     case rel=>exact⟨_,_,v',rfl,(show _/\_ from⟨ot.o,CT.o⟩)⟩
end Go.Proofs.YtepaofffbkfodaaGreatDoor
