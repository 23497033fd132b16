/- A part; no condition. -/
import Derived.Test.YtepaofffbkfodaaGreatDoorM25
import Derived.Test.YtepaofffbkfodaaGreatDoorM27
import Derived.Test.YtepaofffbkfodaaGreatDoorM28
import Derived.Shelf.SlSortCmp.NoneTotal
set_option linter.all false
set_option maxHeartbeats 8000000
set_option maxRecDepth 100000
namespace Go.Proofs.YtepaofffbkfodaaGreatDoor
open Go.Proofs.Tryz
variable{i g cap base k b B clk:Nat}{W w w' W':ax}{M M':aV}{l:List aJ}{cur:Array aA}{o1:Obj}{v fv sv:aA}
section
open Go.RowKit Go.Shelf Go.Lib
open Go.Sort (flatK size_flatK get_flatK HoldsK PermIn SortedIn SWO putRowK mapBlock grow)
section
variable {α β:Type}
def sd(R:β->α->Prop):List β->List α->Prop
 |[],[]=>True
 |b::d,x::xs=>R b x/\sd R d xs
 |_,_=>False
theorem sd.length {R:β->α->Prop}:∀{d:List β}{xs:List α},sd R d xs->d.length=xs.length
 |[],[],_=>rfl
 |_::_,_::_,h=>by simp[sd.length h.2]
 |[],_::_,h=>h.elim
 |_::_,[],h=>h.elim
theorem sd.at_ {R:β->α->Prop}:∀{d:List β}{xs:List α},sd R d xs->∀(i:Nat)(b:β)(x:α),d[i]? =some b->xs[i]? =some x->R b x
 |[],[],_,i,b,x,h,_=>by simp at h
 |a::d,y::xs,h,0,b,x,h1,h2=>by
  simp at h1 h2;subst h1;subst h2;exact h.1
 |a::d,y::xs,h,i+1,b,x,h1,h2=>sd.at_ h.2 i b x (by simpa using h1) (by simpa using h2)
 |[],_::_,h,_,_,_,_,_=>h.elim
 |_::_,[],h,_,_,_,_,_=>h.elim
theorem sd.perm {R:β->α->Prop}{d d':List β}(hp:d.Perm d'):∀{xs:List α},sd R d xs->∃ys,xs.Perm ys/\sd R d' ys:=by
 induction hp with
 |nil=>
  intro xs h;cases xs with
  |nil=>exact⟨[], .refl _,trivial⟩
  |cons a r=>exact h.elim
 |cons b _ ih=>
  intro xs h;cases xs with
  |nil=>exact h.elim
  |cons a r=>
   have⟨ys,h1,h2⟩:=ih h.2;exact⟨a::ys,h1.cons a,h.1,h2⟩
 |swap b c l=>
  intro xs h;match xs,h with
  |a::e::r,h=>exact⟨e::a::r, .swap _ _ _,h.2.1,h.1,h.2.2⟩
 |trans _ _ ih1 ih2=>
  intro xs h;have⟨ys,h1,h2⟩:=ih1 h;have⟨zs,h3,h4⟩:=ih2 h2;exact⟨zs,h1.trans h3,h4⟩
end
def getD_at {α:Type} [Inhabited α]{l:List α}{x:α}(h:l[i]? =some x):l.toArray[i]! =x:=by
 have⟨h1,h2⟩:=Qad.1 h;rw[getElem!_pos l.toArray i (by simpa using h1)];simpa using h2
structure DN(α:Type) [aD α](β:Type)(κ:Type)where
 enc:β->List aA
 key:β->κ
 keyA:α->κ
 len:∀b,(enc b).length=aD.size α
 one:∀b,∀v∈enc b,v.oneCell'=true
 dec:∀{M:aV}{w:ax}{cs:List aA}{x:α},aD.rep M w cs x->∃b,enc b=cs/\key b=keyA x
section
variable {α:Type} [aD α]{β:Type} [Inhabited β]{κ:Type}(E:DN α β κ)
omit [Inhabited β] in
theorem DN.YG {N:Nat->Prop}{w:World}:∀{css:List (List Value)}{xs:List α},css.length=xs.length->(∀(i:Nat)(cs:List Value)(x:α),css[i]? =some cs->xs[i]? =some x->aD.rep N w cs x)->∃d:List β,d.map E.enc=css/\sd (λb x=>aD.rep N w (E.enc b) x/\E.key b=E.keyA x) d xs
 |[],[],_,_=>⟨[],rfl,trivial⟩
 |cs::css,x::xs,hl,h=>by
  have⟨b,h1,h2⟩:=E.dec (h 0 cs x rfl rfl);have⟨d,h3,h4⟩:=DN.YG (css:=css) (xs:=xs) (by simpa using hl) λi c y hc hy=>h (i+1) c y (by simpa using hc) (by simpa using hy);refine⟨b::d,by simp[h1,h3],⟨by rw[h1];exact h 0 cs x rfl rfl,h2⟩,h4⟩
 |[],_::_,hl,_=>by simp at hl
 |_::_,[],hl,_=>by simp at hl
theorem DN.holds {w:World}{base g n cap:Nat}{e:TypeId}{d:List β}(hn:d.length=n)(h:w.ownsRow base e (aD.size α) (.slice (g,0) n cap) n (d.map E.enc).flatten):HoldsK E.enc (aD.size α) w g 0 d.toArray:=by
 intro j hj;rw[size_flatK]at hj;have XW:j<n*aD.size α:=by simpa [hn]using hj
 rw[Nat.zero_add,h.cellAt j XW];refine⟨?_,h.frozenAt j⟩;have P9:0<aD.size α:=by
  rcases Nat.eq_zero_or_pos (aD.size α)with h0|h0
  .rw[h0]at XW;simp at XW
  .exact h0
 have hq:j/aD.size α<d.length:=by
  rw[hn];exact(Nat.div_lt_iff_lt_mul P9).2 XW
 have hb:d[j/aD.size α]? =some d[j/aD.size α]:=Qac hq;have hm:j%aD.size α<(E.enc d[j/aD.size α]).length:=by rw[E.len];exact Nat.mod_lt _ P9
 have h1:=iF (css:=d.map E.enc) (size:=aD.size α) (λi cs hcs=>by
  rw[List.getElem?_map]at hcs;obtain⟨b,_,rfl⟩:=Option.map_eq_some_iff.1 hcs;exact E.len b) (j/aD.size α) (E.enc d[j/aD.size α]) (j%aD.size α) _ (by rw[List.getElem?_map,hb];rfl) (Qac hm);rw[show j/aD.size α*aD.size α+j%aD.size α=j from Nat.div_add_mod' _ _]at h1;rw[h1,id,get_flatK _ _ _ _ hj,getD_at hb,getElem!_pos (E.enc d[j/aD.size α]) (j%aD.size α) hm]
theorem DN.slice {n:Nat}{d:Array β}{ys:List α}(hd:d.size=n)(hn:n<=cap)(hc:cap<=maxLen)(hg:g<W)(hM:¬M g)(h:HoldsK E.enc (aD.size α) W g 0 d)(hr:sd (λb x=>aD.rep M W (E.enc b) x) d.toList ys):ab M W (xL (g,0) n cap) ys:=by
 have T2:=hr.length;rw[Array.length_toList,hd]at T2;have hlen:∀(i:Nat)(cs:List aA),(d.toList.map E.enc)[i]? =some cs->cs.length=aD.size α:=λi cs hcs=>by
  rw[List.getElem?_map]at hcs;obtain⟨b,_,rfl⟩:=Option.map_eq_some_iff.1 hcs;exact E.len b
 have vN:∀(l:List β),(l.map E.enc).flatten.length=l.length*aD.size α:=λl=>by
  induction l with
  |nil=>simp
  |cons a r ih=>rw[List.map_cons,List.flatten_cons,Qda,ih,E.len,Qcc,Nat.succ_mul,Nat.add_comm]
 refine⟨d.toList.map E.enc,⟨?_,_,cap,by rw[T2],by omega,hc,λh0=>⟨g,0,rfl,hM,hg,λj u hu=> ?_⟩⟩,by rw[Qdc,Array.length_toList,hd,T2],λi cs x hcs hx=> ?_⟩
 .rw[vN,Array.length_toList,hd,T2]
 .have hj:=(Qad.1 hu).1;rw[vN,Array.length_toList]at hj;have P9:0<aD.size α:=by
   rcases Nat.eq_zero_or_pos (aD.size α)with h0|h0
   .rw[h0]at hj;simp at hj
   .exact h0
  have hq:j/aD.size α<d.size:=(Nat.div_lt_iff_lt_mul P9).2 hj;have hb:d.toList[j/aD.size α]? =some d[j/aD.size α]:=by rw[Array.getElem?_toList];exact Array.getElem?_eq_getElem hq
  have hm:j%aD.size α<(E.enc d[j/aD.size α]).length:=by rw[E.len];exact Nat.mod_lt _ P9
  have h1:=iF (css:=d.toList.map E.enc) (size:=aD.size α) hlen (j/aD.size α) (E.enc d[j/aD.size α]) (j%aD.size α) _ (by rw[List.getElem?_map,hb];rfl) (Qac hm);rw[show j/aD.size α*aD.size α+j%aD.size α=j from Nat.div_add_mod' _ _,hu]at h1;have h2:=(h j (by rw[size_flatK];exact hj)).1;rw[h2,id,get_flatK _ _ _ _ hj,getElem!_pos d (j/aD.size α) hq,getElem!_pos (E.enc d[j/aD.size α]) (j%aD.size α) hm];exact h1.symm
 .rw[List.getElem?_map]at hcs;obtain⟨b,hb,rfl⟩:=Option.map_eq_some_iff.1 hcs;exact hr.at_ i b x hb hx
omit [aD α] in
def GR {enc:β->List Value}{k:Nat}{w:World}{g n:Nat}{d:Array β}{os:Array Obj}:ao (λi=>i=g) w (sortWorldK enc k w g 0 n d os):=by
 refine⟨rfl,rfl,rfl,?_,λi hi hS=> ?_⟩
 .exact size_sortWorldK_c enc k w g 0 n d os
 .unfold sortWorldK grow putRowK Go.Sort.putRow mapBlock;show((w.heap.modify g _)++os)[i]? =_;rw[Array.getElem?_append_left (by simpa using hi),Array.getElem?_modify];rw[if_neg (λe=>hS e.symm)]
def xA {P:Program}{ρ:Ren}(L:SlLaysF0.n6 P ρ)(aE:∀w,(isAgg (ρ.t 24)).run P w= .ok true w)(zE:∀w,(Go.sizeOf (ρ.t 24)).run P w= .ok (aD.size α) w)(cf:β->β->Int)(lt:κ->κ->Bool)(bH:∀b c,ltOf cf b c=lt (E.key b) (E.key c))(hO:SWO (ltOf cf))(G:Nat)
 (eg:∀args w,(callFunc G args).run P w= .ok (.enter G args) w)(hcl:∀(x y:β)(W:World),Calls P G #[.agg (E.enc x).toArray, .agg (E.enc y).toArray] W λe w'=>e= .returned (.int .i64 (cf x y))/\∃q os',w'=grow (W.drewN q) os')
 (M:Nat->Prop)(base:Nat)(e:TypeId)(w:World)(v:Value)(xs:List α)(h:aS M base e w v xs)(hM:∀g,v.ownBlock=some g->¬M g)(hx:xs.length<1000000):
 Calls P (ρ.f 6) #[v, .func (.func G) #[] #[]] w λe w'=>e= .returned (.tuple #[])/\∃ys,xs.Perm ys/\(ys.map E.keyA).Pairwise (λa b=>lt b a=false)/\ab M w' v ys/\ao (λi=>v.ownBlock=some i) w w':=by
 obtain⟨css,hown,qde,hrep⟩:=h;have Z6:=hown;rcases Z6.2 with⟨rfl,h0⟩|⟨g,cap,cur,rfl,hb,hh,Zc,MD,hcs,htk⟩
 .have Qb:xs=[]:=List.length_eq_zero_iff.1 h0;subst Qb;refine(AnyF.slices_SortFunc_none L none 0 _ w).mono ?_;rintro e w'⟨rfl,rfl⟩;exact⟨rfl,[], .refl _,by simp,ab.nil _ _,ao.refl _ _⟩
 .have⟨d,hd,hR⟩:=E.YG qde hrep;subst hd;have hdl:=hR.length;have hH:=E.holds hdl hown;have hgl:=(Qaa.1 hh).1;have hsz:d.toArray.size=xs.length:=by simpa using hdl
  have T3:=AnyQ.slices_SortFunc L (aD.size α) aE zE E.enc E.len E.one cf hO G #[] g 0 cap d.toArray w eg (λ_ _ _ _ x y=>by
   have:=hcl x y (sortWorldK E.enc (aD.size α) w g 0 ‹_› ‹_› ‹_›);exact this) hH hgl (by omega);rw[hsz]at T3;refine T3.mono ?_;rintro e w'⟨rfl,d',n,os,hp,hs,rfl⟩;obtain⟨hps,_,iy⟩:=hp;have T4:∀a:Array β,a.size=xs.length->a.extract 0 xs.length=a:=λa ha=>by rw[<-ha];exact Array.extract_size
  rw[T4 _ (by rw[hps,hsz]),T4 _ hsz]at iy;have⟨ys,hy1,hy2⟩:=hR.perm iy.symm;have hO':=GR (enc:=E.enc) (k:=aD.size α) (w:=w) (g:=g) (n:=n) (d:=d') (os:=os);have hyl:=hy2.length;refine⟨rfl,ys,hy1,?_,?_,hO'.mono (λi hi=>by subst hi;rfl)⟩
  .refine List.pairwise_iff_getElem.2 λi j hi hj hij=> ?_;rw[Qdc]at hi hj;rw[List.getElem_map,List.getElem_map];rw[Array.length_toList]at hyl;have hdi:d'.toList[i]? =some d'[i]:=by rw[Array.getElem?_toList];exact Array.getElem?_eq_getElem (by omega)
   have hdj:d'.toList[j]? =some d'[j]:=by rw[Array.getElem?_toList];exact Array.getElem?_eq_getElem (by omega)
   have k1:=(hy2.at_ i _ _ hdi (Qac hi)).2;have k2:=(hy2.at_ j _ _ hdj (Qac hj)).2;have hs1:=hs i j (Qbf _) hij (by omega);rw[getElem!_pos d' j (by omega),getElem!_pos d' i (by omega),bH,k1,k2]at hs1;exact hs1
  .have hgM:¬M g:=hM g rfl;refine E.slice (by rw[hps,hsz]) Zc MD (Qde hgl hO'.size) hgM (holdsK_sortWorldK_c E.enc (aD.size α) w g 0 d.toArray d' n os hH hgl hps) ?_;have hEv:Ev (bu (.slice (g,0) xs.length cap) M) w M (sortWorldK E.enc (aD.size α) w g 0 n d' os):=⟨hO'.mono (λi hi=>by subst hi;exact .inr rfl),λi hi=> .inl (.inl hi)⟩;have mono:∀{l:List β}{zs:List α},sd (λb x=>aD.rep (bu (.slice (g,0) xs.length cap) M) w (E.enc b) x/\E.key b=E.keyA x) l zs->sd (λb x=>aD.rep M (sortWorldK E.enc (aD.size α) w g 0 n d' os) (E.enc b) x) l zs:=by
    intro l;induction l with
    |nil=>intro zs hz;cases zs with
     |nil=>trivial
     |cons _ _=>exact hz.elim
    |cons b l ih=>intro zs hz;cases zs with
     |nil=>exact hz.elim
     |cons z zs=>exact⟨aD.ev hz.1.1 hEv,ih hz.2⟩
   exact mono hy2
end
end
section
open Go.RowKit Go.Shelf Go.Lib
open Go.Sort (SWO grow alloc_eq_grow grow_grow)
def H9:Go.Shelf.Ren:=⟨λ|6=>89|15=>131|14=>158|28=>196|29=>197|20=>219|21=>220|22=>221|23=>222|24=>223|25=>224|26=>225|27=>226|46=>263|47=>249|48=>250|49=>264|50=>265|57=>307|n=>n,λ|22=>32|24=>66|25=>177|3=>3|39=>216|0=>0|53=>279|55=>281|4=>4|46=>272|45=>271|50=>63|5=>5|9=>9|66=>329|70=>333|76=>366|77=>367|n=>n,λ|n=>n⟩
def U3:Go.Proofs.SlLaysF0.n6 prog H9:={
 mixed:=by kernel_rfl
 f6:=⟨Tryz.f89.name,by decide,Tryz.func89.trans (by kernel_rfl)⟩
 f14:=⟨Tryz.f158.name,by decide,Tryz.func158.trans (by kernel_rfl)⟩
 f15:=Tryz.func131.trans (by kernel_rfl)
 f20:=⟨Tryz.f219.name,by decide,Tryz.func219.trans (by kernel_rfl)⟩
 f21:=⟨Tryz.f220.name,by decide,Tryz.func220.trans (by kernel_rfl)⟩
 f22:=⟨Tryz.f221.name,by decide,Tryz.func221.trans (by kernel_rfl)⟩
 f23:=⟨Tryz.f222.name,by decide,Tryz.func222.trans (by kernel_rfl)⟩
 f24:=⟨Tryz.f223.name,by decide,Tryz.func223.trans (by kernel_rfl)⟩
 f25:=⟨Tryz.f224.name,by decide,Tryz.func224.trans (by kernel_rfl)⟩
 f26:=⟨Tryz.f225.name,by decide,Tryz.func225.trans (by kernel_rfl)⟩
 f27:=⟨Tryz.f226.name,by decide,Tryz.func226.trans (by kernel_rfl)⟩
 f28:=Tryz.func196.trans (by kernel_rfl)
 f29:=Tryz.func197.trans (by kernel_rfl)
 f46:=⟨Tryz.f263.name,by decide,Tryz.func263.trans (by kernel_rfl)⟩
 f47:=Tryz.func249.trans (by kernel_rfl)
 f48:=Tryz.func250.trans (by kernel_rfl)
 f49:=⟨Tryz.f264.name,by decide,Tryz.func264.trans (by kernel_rfl)⟩
 f50:=⟨Tryz.f265.name,by decide,Tryz.func265.trans (by kernel_rfl)⟩
 f57:=⟨Tryz.f307.name,by decide,Tryz.func307.trans (by kernel_rfl)⟩
 t0:=underlying0
 a0:=isAgg0
 z0:=sizeOf0
 v0:=zeroValue0
 t3:=underlying3
 a3:=isAgg3
 z3:=sizeOf3
 v3:=zeroValue3
 t4:=underlying4
 a4:=isAgg4
 z4:=sizeOf4
 v4:=zeroValue4
 t5:=underlying5
 a5:=isAgg5
 z5:=sizeOf5
 v5:=zeroValue5
 t9:=underlying9
 a9:=isAgg9
 z9:=sizeOf9
 v9:=zeroValue9
 t22:=underlying32
 a22:=isAgg32
 z22:=sizeOf32
 v22:=zeroValue32
 t25:=underlying177
 a25:=isAgg177
 z25:=sizeOf177
 v25:=zeroValue177
 t39:=underlying216
 a39:=isAgg216
 z39:=sizeOf216
 v39:=zeroValue216
 t45:=underlying271
 a45:=isAgg271
 z45:=sizeOf271
 v45:=zeroValue271
 t46:=underlying272
 a46:=isAgg272
 z46:=sizeOf272
 v46:=zeroValue272
 t50:=underlying63
 a50:=isAgg63
 z50:=sizeOf63
 v50:=zeroValue63
 t53:=underlying279
 a53:=isAgg279
 z53:=sizeOf279
 v53:=zeroValue279
 t55:=underlying281
 a55:=isAgg281
 z55:=sizeOf281
 v55:=zeroValue281
 t66:=underlying329
 a66:=isAgg329
 z66:=sizeOf329
 v66:=zeroValue329
 t70:=underlying333
 a70:=isAgg333
 z70:=sizeOf333
 v70:=zeroValue333
 t76:=underlying366
 a76:=isAgg366
 z76:=sizeOf366
 v76:=zeroValue366
 t77:=underlying367
 a77:=isAgg367
 z77:=sizeOf367
 v77:=zeroValue367}
def Ia:Go.Shelf.Ren:=⟨λ|6=>91|15=>131|14=>159|28=>196|29=>197|20=>227|21=>228|22=>229|23=>230|24=>231|25=>232|26=>233|27=>234|46=>266|47=>249|48=>250|49=>267|50=>268|57=>308|n=>n,λ|22=>33|24=>86|25=>179|3=>3|39=>216|0=>0|53=>279|55=>281|4=>4|46=>272|45=>271|50=>63|5=>5|9=>9|66=>329|70=>333|76=>366|77=>367|n=>n,λ|n=>n⟩
def U4:Go.Proofs.SlLaysF0.n6 prog Ia:={
 mixed:=by kernel_rfl
 f6:=⟨Tryz.f91.name,by decide,Tryz.func91.trans (by kernel_rfl)⟩
 f14:=⟨Tryz.f159.name,by decide,Tryz.func159.trans (by kernel_rfl)⟩
 f15:=Tryz.func131.trans (by kernel_rfl)
 f20:=⟨Tryz.f227.name,by decide,Tryz.func227.trans (by kernel_rfl)⟩
 f21:=⟨Tryz.f228.name,by decide,Tryz.func228.trans (by kernel_rfl)⟩
 f22:=⟨Tryz.f229.name,by decide,Tryz.func229.trans (by kernel_rfl)⟩
 f23:=⟨Tryz.f230.name,by decide,Tryz.func230.trans (by kernel_rfl)⟩
 f24:=⟨Tryz.f231.name,by decide,Tryz.func231.trans (by kernel_rfl)⟩
 f25:=⟨Tryz.f232.name,by decide,Tryz.func232.trans (by kernel_rfl)⟩
 f26:=⟨Tryz.f233.name,by decide,Tryz.func233.trans (by kernel_rfl)⟩
 f27:=⟨Tryz.f234.name,by decide,Tryz.func234.trans (by kernel_rfl)⟩
 f28:=Tryz.func196.trans (by kernel_rfl)
 f29:=Tryz.func197.trans (by kernel_rfl)
 f46:=⟨Tryz.f266.name,by decide,Tryz.func266.trans (by kernel_rfl)⟩
 f47:=Tryz.func249.trans (by kernel_rfl)
 f48:=Tryz.func250.trans (by kernel_rfl)
 f49:=⟨Tryz.f267.name,by decide,Tryz.func267.trans (by kernel_rfl)⟩
 f50:=⟨Tryz.f268.name,by decide,Tryz.func268.trans (by kernel_rfl)⟩
 f57:=⟨Tryz.f308.name,by decide,Tryz.func308.trans (by kernel_rfl)⟩
 t0:=underlying0
 a0:=isAgg0
 z0:=sizeOf0
 v0:=zeroValue0
 t3:=underlying3
 a3:=isAgg3
 z3:=sizeOf3
 v3:=zeroValue3
 t4:=underlying4
 a4:=isAgg4
 z4:=sizeOf4
 v4:=zeroValue4
 t5:=underlying5
 a5:=isAgg5
 z5:=sizeOf5
 v5:=zeroValue5
 t9:=underlying9
 a9:=isAgg9
 z9:=sizeOf9
 v9:=zeroValue9
 t22:=underlying33
 a22:=isAgg33
 z22:=sizeOf33
 v22:=zeroValue33
 t25:=underlying179
 a25:=isAgg179
 z25:=sizeOf179
 v25:=zeroValue179
 t39:=underlying216
 a39:=isAgg216
 z39:=sizeOf216
 v39:=zeroValue216
 t45:=underlying271
 a45:=isAgg271
 z45:=sizeOf271
 v45:=zeroValue271
 t46:=underlying272
 a46:=isAgg272
 z46:=sizeOf272
 v46:=zeroValue272
 t50:=underlying63
 a50:=isAgg63
 z50:=sizeOf63
 v50:=zeroValue63
 t53:=underlying279
 a53:=isAgg279
 z53:=sizeOf279
 v53:=zeroValue279
 t55:=underlying281
 a55:=isAgg281
 z55:=sizeOf281
 v55:=zeroValue281
 t66:=underlying329
 a66:=isAgg329
 z66:=sizeOf329
 v66:=zeroValue329
 t70:=underlying333
 a70:=isAgg333
 z70:=sizeOf333
 v70:=zeroValue333
 t76:=underlying366
 a76:=isAgg366
 z76:=sizeOf366
 v76:=zeroValue366
 t77:=underlying367
 a77:=isAgg367
 z77:=sizeOf367
 v77:=zeroValue367}
def sH(a b:Int)(w:ax):xC 79 #[a,b] w (jt (Lib.compareInt a b) w):=by
 rcases Int.lt_trichotomy a b with h|h|h;all_goals
  have h1:Lib.compareInt a b=(if a<b then-1 else if a>b then 1 else 0):=rfl;first
   |rw[if_pos h]at h1
   |(rw[if_neg (by omega),if_neg (by omega)]at h1)
   |(rw[if_neg (by omega),if_pos (by omega)]at h1)
  rw[h1];go_enter func79,ntmps79;go_wp2_with fail;refine dw (Lt _ _) ?_;go_wp2_with fail;refine dw (Lt _ _) ?_;go_wp2;go_ret;exact⟨rfl,rfl⟩
def pr(a b:aY):Int:=if eP a b then-1 else if eP b a then 1 else 0
def JM(a b:aY)(w:ax):xC 81 #[a,b] w (jt (pr a b) w):=by
 have hc:pr a b=(if eP a b then-1 else if eP b a then 1 else 0):=rfl;rcases mV a b with h|h|h
 .rw[if_pos h]at hc;rw[hc];have h1:Op.bytesLess a.toList b.toList=true:=h;go_enter func81,ntmps81;go_wp2_with fail;refine dw (zf _ _) ?_;go_wp2_with fail;refine dw (zf _ _) ?_;go_wp2;go_ret;exact⟨rfl,rfl⟩
 .subst h;rw[cZ,if_neg (by simp),if_neg (by simp)]at hc;rw[hc];have h1:Op.bytesLess a.toList a.toList=false:=cZ a;go_enter func81,ntmps81;go_wp2_with fail;refine dw (zf _ _) ?_;go_wp2_with fail;refine dw (zf _ _) ?_;go_wp2;go_ret;exact⟨rfl,rfl⟩
 .have h0:eP a b=false:=by
   cases hq:eP a b with
   |false=>rfl
   |true=>have:=gy hq h;rw[cZ]at this;cases this
  rw[h0,if_neg (by simp),if_pos h]at hc;rw[hc];have h1:Op.bytesLess a.toList b.toList=false:=h0;have h2:Op.bytesLess b.toList a.toList=true:=h;have h3:(a.toList==b.toList)=false:=by
   rw[beq_eq_false_iff_ne];intro e;rw[ByteArray.toList_eq,ByteArray.toList_eq]at e;have:=xY e;subst this;rw[cZ]at h;cases h
  go_enter func81,ntmps81;go_wp2_with fail;refine dw (zf _ _) ?_;go_wp2_with fail;refine dw (zf _ _) ?_;go_wp2;go_ret;exact⟨rfl,rfl⟩
structure OB where
 id:Int
 cL:Int
 cQ:Int
 a:Option Addr
 n:Nat
 c:Nat
instance:Inhabited OB:=⟨⟨0,0,0,none,0,0⟩⟩
def Pg:DN bF OB Int where
 enc b:=[xI b.id,xI b.cL,xI b.cQ,xL b.a b.n b.c]
 key b:=b.id
 keyA:=bF.id
 len _:=rfl
 one b v hv:=by simp at hv;rcases hv with rfl|rfl|rfl|rfl<;>rfl
 dec:=λ⟨vv,h,h1⟩=>by
  obtain⟨a,c,rfl,_⟩:=h1.aq;exact⟨⟨_,_,_,a,_,c⟩,h.symm,rfl⟩
instance:Inhabited (aY×Int):=⟨((),0)⟩
def Ph:DN bj (aY×Int) aY where
 enc b:=[xS b.1,xI b.2]
 key b:=b.1
 keyA:=bj.ai
 len _:=rfl
 one b v hv:=by simp at hv;rcases hv with rfl|rfl<;>rfl
 dec:=λ⟨h,_⟩=>⟨(_,_),h.symm,rfl⟩
def qcc(x y:OB)(W:ax):xC 90 #[.agg (Pg.enc x).toArray, .agg (Pg.enc y).toArray] W λe w'=>e=xR (Lib.compareInt x.id y.id)/\∃q os',w'=grow (W.drewN q) os':=by
 have QG:=λW'=>sH x.id y.id W';generalize Lib.compareInt x.id y.id=r at QG⊢;show Calls _ _ #[.agg #[x.id,x.cL,x.cQ,xL x.a x.n x.c], .agg #[y.id,y.cL,y.cQ,xL y.a y.n y.c]] _ _;have cI:=ag (Bx.du W (xK #[x.id,x.cL,x.cQ,xL x.a x.n x.c] 66) (xK #[y.id,y.cL,y.cQ,xL y.a y.n y.c] 66));obtain⟨c0,-,-,-⟩:=af (cI.o.bO rfl);obtain⟨d0,-,-,-⟩:=af (cI.o.cg rfl);go_enter func90,ntmps90;go_wp2_with fail;refine dw (QG _) ?_;go_wp2;go_ret;exact⟨rfl,0,_,by rw[alloc_eq_grow,alloc_eq_grow,grow_grow];rfl⟩
def qcd(x y:aY×Int)(W:ax):xC 92 #[.agg (Ph.enc x).toArray, .agg (Ph.enc y).toArray] W λe w'=>e=xR (pr x.1 y.1)/\∃q os',w'=grow (W.drewN q) os':=by
 have QG:=λW'=>JM x.1 y.1 W';generalize pr x.1 y.1=r at QG⊢;show Calls _ _ #[.agg #[xS x.1,xI x.2], .agg #[xS y.1,xI y.2]] _ _;have cI:=ag (Bx.du W (xK #[xS x.1,xI x.2] 86) (xK #[xS y.1,xI y.2] 86));obtain⟨c0,-⟩:=ak (cI.o.bO rfl);obtain⟨d0,-⟩:=ak (cI.o.cg rfl);go_enter func92,ntmps92;go_wp2_with fail;refine dw (QG _) ?_;go_wp2;go_ret;exact⟨rfl,0,_,by rw[alloc_eq_grow,alloc_eq_grow,grow_grow];rfl⟩
def ltInt(x y:Int):(decide (Lib.compareInt x y<0))=decide (x<y):=by
 unfold Lib.compareInt;by_cases h1:x<y
 .simp[h1]
 .by_cases h2:y<x<;>simp[h1,h2]
def YQ:SWO (ltOf λx y:OB=>Lib.compareInt x.id y.id)where
 irrefl x:=by unfold ltOf;rw[ltInt];simp
 trans x y z h1 h2:=by unfold ltOf at*;rw[ltInt]at*;simp at*;omega
 ntrans x y z h1 h2:=by unfold ltOf at*;rw[ltInt]at*;simp at*;omega
def Pj(x y:aY):(decide (pr x y<0))=eP x y:=by
 unfold pr;cases eP x y with
 |true=>simp
 |false=>cases eP y x<;>simp
def uV {a b c:aY}(h:eP a b=false)(k:eP b c=false):eP a c=false:=by
 cases hq:eP a c with
 |false=>rfl
 |true=>
  rcases mV a b with e|e|e
  .rw[h]at e;cases e
  .subst e;rw[k]at hq;cases hq
  .have:=gy e hq;rw[k]at this;cases this
def YR:SWO (ltOf λx y:aY×Int=>pr x.1 y.1)where
 irrefl x:=by unfold ltOf;rw[Pj];exact cZ _
 trans x y z h1 h2:=by unfold ltOf at*;rw[Pj]at*;exact gy h1 h2
 ntrans x y z h1 h2:=by unfold ltOf at*;rw[Pj]at*;exact uV h1 h2
def Ib(M:aV)(base:Nat)(w:ax)(v:aA)(xs:List bF)(h:aS M base 66 w v xs)(hM:∀g,v.ownBlock=some g->¬M g)(hx:xs.length<1000000):
 xC 89 #[v, .func (.func 90) #[] #[]] w λe w'=>e=xR (.tuple #[])/\∃ys,xs.Perm ys/\(ys.map bF.id).Pairwise (λa b=>decide (b<a)=false)/\ab M w' v ys/\ao (λi=>v.ownBlock=some i) w w':=by
 have h1:=xA Pg U3 isAgg66 sizeOf66 (λx y=>Lib.compareInt x.id y.id) (λa b=>decide (a<b)) (λb c=>ltInt _ _) YQ 90 (enters_of func90 (by kernel_rfl) rfl) qcc M base 66 w v xs h hM hx;exact h1
def EB(M:aV)(base:Nat)(w:ax)(v:aA)(xs:List bj)(h:aS M base 86 w v xs)(hM:∀g,v.ownBlock=some g->¬M g)(hx:xs.length<1000000):
 xC 91 #[v, .func (.func 92) #[] #[]] w λe w'=>e=xR (.tuple #[])/\∃ys,xs.Perm ys/\(ys.map bj.ai).Pairwise (λa b=>eP b a=false)/\ab M w' v ys/\ao (λi=>v.ownBlock=some i) w w':=by
 have h1:=xA Ph U4 isAgg86 sizeOf86 (λx y=>pr x.1 y.1) eP (λb c=>Pj _ _) YR 92 (enters_of func92 (by kernel_rfl) rfl) qcd M base 86 w v xs h hM hx;exact h1
end
section
open Go.RowKit Go.Shelf
theorem JI.slice {w':ax}{v:aA}(h:JI W l v w')(hl:l.length<=maxLen)(hM:∀i,M i->i<W.heap.size):ab M w' v l:=by
 rcases h with⟨rfl,rfl⟩|⟨B,h0,hB,rfl,hr⟩
 .exact ab.nil _ _
 .exact hr.slice hl λi hi=>by have:=hM i hi;omega
def Ts(N:aV)(K r:Nat):Nat->Prop:=λi=>N i\/i=K\/i=r
def Y0(N:aV)(K z:Nat):Nat->Prop:=λi=>N i\/i=K\/z<=i
structure WaA(x:aW)(N:aV)(W0:ax)(K:Nat)(lv:aA)(wx:ax):Prop where
 low:aC W0 wx
 new:W0<=K
 blk:wx.heap[K]? =some (cT lv () () x.next)
 aK:ab (orM N K) wx lv x.aK
section
variable {x:aW}{N:aV}{W0 w4 w5:ax}{K:Nat}{lv:aA}{o:Obj}
def Y1(hj:aC W0 w4)(hs:ab N w4 lv x.aK):WaA x N W0 w4 lv (w4.alloc (xK #[lv,(),(),x.next] 35)):=by
 have hb:aC w4 (w4.alloc (xK #[lv,(),(),x.next] 35)):=bU;exact⟨hj.trans (hb.mono hj.size),hj.size,Qbh w4 _,hs.ev ⟨ao.az hb,λi hi=>hi.imp_right λe=>by omega⟩⟩
def Y2(hx:bW w5 K (.cells cur 35 (0,0))/\W0<=K)(h4:cur.size=4)(hj:aC W0 w5)(hs:ab (orM N K) w5 lv x.aK):WaA x N W0 K lv (((((w5.setCell (K,0) lv).setCell (K,1) ()).setCell (K,2) ()).setCell (K,3) x.next)):=by
 refine⟨dd hj hx.2,hx.2,?_,hs.ev (((((Ev.refl _ w5).setCell (p:=⟨K,0,none⟩) (.inl (.inr rfl)) _).setCell (p:=⟨K,1,none⟩) (.inl (.inr rfl)) _).setCell (p:=⟨K,2,none⟩) (.inl (.inr rfl)) _).setCell (p:=⟨K,3,none⟩) (.inl (.inr rfl)) _)⟩;obtain⟨l⟩:=cur;match l,h4 with
 |[_,_,_,_],_=>exact iQ (o:=0) hx.1 _ _ _ _
end
structure CA {α β:Type} [aD α](e:TypeId)(mk:aA->Obj)(N:aV)(W2:ax)(K r mb clk:Nat)(v:aA)(V:List (β×aA×Nat))(os:List α)(wr:ax):Prop where
 only:ao (λk=>k=K\/k=r) W2 wr
 blk:wr.heap[K]? =some (mk v)
 iter:IterM wr r mb V clk
 acc:aS (Ts N K r) W2 e wr v os
structure Pm {α β:Type}(key:α->β)(l:List α)(es V:List (β×aA×Nat))(os:List α):Prop where
 sub:∀p∈V,p∈es
 nod:(V.map (·.2.2)).Nodup
 ids:os.map key=V.map (·.1)
 mem:∀o∈os,o∈l
theorem aS.pA {α:Type} [aD α]{e:TypeId}{w':ax}{v:aA}{xs:List α}{S:aV}(h:aS M base e w v xs)(ho:ao S w w')(hS:∀i,S i->M i)(hg:∀g,v.ownBlock=some g->¬S g):aS M base e w' v xs:=by
 obtain⟨css,h1,h2,h3⟩:=h;refine⟨css,⟨h1.1,?_⟩,h2,λi cs x hc hx=>aD.ev (h3 i cs x hc hx) ⟨ho.mono λk hk=> .inl (hS k hk),λk hk=> .inl hk⟩⟩;rcases h1.2 with h0|⟨g,cap,cur,k1,k2,k3,k4⟩
 .exact .inl h0
 .exact .inr ⟨g,cap,cur,k1,k2,(ho.block g (Qaa.1 k3).1 (hg g (by rw[k1];rfl))).trans k3,k4⟩
theorem aS.more {α:Type} [aD α]{e:TypeId}{v:aA}{xs:List α}(h:aS M base e w v xs)(hM:∀i,M' i->M i\/w.heap.size<=i):aS M' base e w v xs:=by
 obtain⟨css,h1,h2,h3⟩:=h;refine⟨css,h1,h2,λi cs x hc hx=>aD.ev (h3 i cs x hc hx) ⟨ao.refl _ _,λk hk=> ?_⟩⟩;rcases hk with hk|hk
 .exact(hM k hk).imp_left .inl
 .exact .inl (.inr hk)
theorem aS.Ve {e:TypeId}{w':ax}{v:aA}{xs:List bj}{S:aV}(h:aS M base e w v xs)(ho:ao S w w')(hg:∀g,v.ownBlock=some g->¬S g):aS M' base e w' v xs:=by
 obtain⟨css,h1,h2,h3⟩:=h;refine⟨css,⟨h1.1,?_⟩,h2,h3⟩;rcases h1.2 with h0|⟨g,cap,cur,k1,k2,k3,k4⟩
 .exact .inl h0
 .exact .inr ⟨g,cap,cur,k1,k2,(ho.block g (Qaa.1 k3).1 (hg g (by rw[k1];rfl))).trans k3,k4⟩
section
variable {α β:Type} [aD α]{e:TypeId}{mk:aA->Obj}{N:aV}{W2 wr w' w5 w6:ax}{K r mb clk:Nat}{v v2:aA}{V V':List (β×aA×Nat)}{os os':List α}
theorem CA.ae(h:CA e mk N W2 K r mb clk v V os wr)(hb:aC wr w'):CA e mk N W2 K r mb clk v V os w':=
 ⟨h.only.trans (ao.az hb),(hb.block _ (Qaa.1 h.blk).1).trans h.blk,(hb.block _ (Qaa.1 h.iter).1).trans h.iter,h.acc.ae hb⟩
theorem CA.drawn(h:CA e mk N W2 K r mb clk v V os wr)(Q2:K≠r)(hr:r<W2)(ho:ao (λi=>i=r) wr w')(hi:IterM w' r mb V' clk):CA e mk N W2 K r mb clk v V' os w':=
 ⟨h.only.trans (ho.mono λi hi=> .inr hi),(ho.block K (Qaa.1 h.blk).1 Q2).trans h.blk,hi,h.acc.pA ho (λi hi=> .inr (.inr hi)) λg hg he=>by have h1:=(h.acc.cG g hg).1;have h2:g=r:=he;omega⟩
theorem CA.next(h:CA e mk N W2 K r mb clk v V os w5)(hK:K<W2)(hr:r<W2)(Q2:K≠r)(hb:Below W2 (w5.alloc o1) w6)(ha:aS (Ts N K r) W2 e w6 v2 os'){c:Nat}(hm:∀W:ax,bW W K (mk v)->(W.setCell (K,c) v2).heap[K]? =some (mk v2)):
 CA e mk N W2 K r mb clk v2 V os' (w6.setCell (K,c) v2):=by
 have hz:=h.only.size;have hk:∀k,k<W2.heap.size->w6.heap[k]? =w5.heap[k]? :=λk hk=>(hb.block k hk).trans (Qcb w5 o1 k (by omega));have h2:ao (λk=>k=K\/k=r) W2 w6:=⟨hb.os.trans h.only.os,hb.tape.trans h.only.tape,hb.output.trans h.only.output,Qcg hz (Qcg (by simp) hb.size),λk k1 k2=>(hk k k1).trans (h.only.block k k1 k2)⟩;have o3:ao (λi=>i=K) w6 (w6.setCell (K,c) v2):=(ao.refl (λi=>i=K) w6).setCell (.inl rfl) _;refine⟨h2.trans (o3.mono λi hi=> .inl hi),hm _ ((hk K hK).trans h.blk),?_,ha.pA o3 (λi hi=> .inr (.inl hi)) λg hg he=>by have h1:=(ha.cG g hg).1;have h3:g=K:=he;omega⟩;exact(o3.block r (by have:=h2.size;omega) (λe=>Q2 e.symm)).trans ((hk r hr).trans h.iter)
theorem CA.map(h:CA e mk N W2 K r mb clk v V os wr){Ky:β->aA}{es:List (β×aA×Nat)}(hm:fF Ky W2 mb es clk)(h1:mb≠K)(h2:mb≠r):fF Ky wr mb es clk:=
 hm.same _ (h.only.block _ hm.lt (λhh=>hh.elim h1 h2))
end
theorem Pm.more {α β:Type}{key:α->β}{l:List α}{es V:List (β×aA×Nat)}{os:List α}(h:Pm key l es V os){p:β×aA×Nat}(hp:p∈es)(hn:((V++[p]).map (·.2.2)).Nodup){o:α}(ho:o∈l)(hk:p.1=key o):Pm key l es (V++[p]) (os++[o]):=by
 refine⟨λq hq=> ?_,hn,?_,λq hq=> ?_⟩
 .rcases Qch.1 hq with hq|hq
  .exact h.sub q hq
  .rw[Qea.1 hq];exact hp
 .rw[List.map_append,List.map_append,h.ids,List.map_cons,List.map_cons,hk];rfl
 .rcases Qch.1 hq with hq|hq
  .exact h.mem q hq
  .rw[Qea.1 hq];exact ho
def qci {K:Nat}{lv v rv v2:aA}{nx:Int}(h:bW W K (cT lv v rv nx)):(W.setCell (K,1) v2).heap[K]? =some (cT lv v2 rv nx):=by
 have:=Qca W K 1 _ _ v2 h;simpa [cT]using this
def qcj {K:Nat}{lv v ov v2:aA}{nx:Int}(h:bW W K (cT lv ov v nx)):(W.setCell (K,2) v2).heap[K]? =some (cT lv ov v2 nx):=by
 have:=Qca W K 2 _ _ v2 h;simpa [cT]using this
def szA(w:ax)(o:Obj):w.heap.size<(w.alloc o).heap.size:=by simp
def szD(w:ax)(o:Obj):w.heap.size<(w.alloc o).drew.heap.size:=szA w o
def szE(w:ax)(o:Obj):w.heap.size<(w.drew.alloc o).heap.size:=szA w.drew o
def L0(x:aW)(hx:dF x.aK)(hr:(cA x.aP).Pairwise (·< ·))(hn:eN x.aF)(VG:x.aP.length<=1000)(hr5:x.aF.length<=1000)(hob:∀o∈x.aP,∃k v l,iR x.aK 100000 o k v l)(Ug:∀r∈x.aF,r.ai.size<=maxLen)(N:aV)(W:ax)(hN:Bd N W)(B p b mo mr:Nat)(sv:aA)(hB:cz x N B p b mo mr sv W):
 xG 38 #[xP B] W λu w'=>∃lv ov rv,u= .agg #[lv,ov,rv,x.next]/\ab N w' lv x.aK/\ab N w' ov x.aP/\ab N w' rv x.aF:=by
 obtain⟨i0,hi0,hz0,hz1,hz2⟩:=info_parts EF;obtain⟨i1,hi1,hy0,hy1,hy2⟩:=info_parts Ah;have CM:Hd (∀(N':aV)W',aC W W'->(∀i,N' i->N i\/W.heap.size<=i)->Bd N' W'->_):=λN' W' hb hi sU=>yo x.aK (by have:=hx.len;omega) (λy hy=>⟨by have:=((bC _).1 (hx.aK y hy).au.right).2.1;omega,(hx.aK y hy).len⟩) N' W' sv sU (hB.book.aK.ev ⟨ao.az hb,hi⟩);have HFO:Hd (∀(o:bF),o∈x.aP->∀(N':aV)W' v,Bd N' W'->ab N' W' v o.aZ->_):=λo ho N' W' v sU hs=>by
  obtain⟨k,v',l,hk⟩:=hob o ho;have h6:=hx.aK l (Qaf hk.line);have h8:=((bC (aT l v')).1 (h6.kA v').right).2.1;have h9:=hk.aZ.1;exact uY hk.aZ (by omega) N' W' v sU hs
 have CH:Hd (∀o∈x.aP,o.aZ.length<=12):=λo ho=>by
  obtain⟨k,v',l,hk⟩:=hob o ho;have h6:=hx.aK l (Qaf hk.line);have h8:=((bC (aT l v')).1 (h6.kA v').right).2.1;have h9:=hk.aZ.1;omega
 have ni:=ag hB;have ZN:=ag hN;have Rh:=ag hr;have FM:=ag hn;have WO:=ag Ug;obtain⟨sa,sc,rfl,_⟩:=hB.book.aK.aq;obtain⟨es,clk,hm,hes,hall⟩:=hB.aP;obtain⟨fs,clk2,hm2,hfs,hall2⟩:=hB.aF;have A6:=ag hm;have Bf:=ag hm2;have HES:=ag hes;have iD:=ag hfs;have I4:=ag hall;have QW:=ag hall2;have hel:es.length<=1000:=by
  have h1:=mR (x.aP.map bF.id) (es.map (·.1)) hm.keys (λq hq=>by
   obtain⟨p,hp,rfl⟩:=Qdh.1 hq;obtain⟨o,vv,j1,j2,_⟩:=hes p hp;exact Qdh.2 ⟨o,j1,j2.symm⟩);simp at h1;omega
 have vN:fs.length<=1000:=by
  have h1:=mR (x.aF.map bj.ai) (fs.map (·.1)) hm2.keys (λq hq=>by
   obtain⟨p,hp,rfl⟩:=Qdh.1 hq;obtain⟨o,j1,j2,_⟩:=hfs p hp;exact Qdh.2 ⟨o,j1,j2.symm⟩);simp at h1;omega
 clear hm hm2 hes hfs hall hall2 hB hN hr hn hob hx Ug;generalize re:x.next=nx at*;have tj:=ag re;clear re;have cI:=ag (Bx.eI W (cT () () () 0));go_enter func38,ntmps38;go_upto_region 1 with fail;obtain⟨W0,hW0⟩:=bY (W.alloc (cT () () () 0));rw[<-hW0]at cI;unfold cT at hW0;rw[<-hW0];clear hW0;have hz0':=cI.o.bQ;simp only[Qcc,Qcd]at hz0';have Ni:=ag hz0';have HJ:Hd (aC W0 W0):=dS;have iW:Hd (∀V,aC W0 V->aC W V):=λV hb=>(cI.o.ae hb).1;have dD:Hd (∀V,aC W0 V->bJ V B 0 (xL sa x.aK.length sc)/\bJ V B 4 nx):=λV hb=>by
  obtain⟨k0,k1,k2,k3,k4⟩:=dq (ni.o.ae (iW.o V hb)).cell;rw[tj.o]at k4;exact⟨k0,k4⟩
 obtain⟨n1,hn1⟩:∃N1:aV,N1=(λi=>N i\/i=W):=⟨_,rfl⟩;have vL:=ag hn1;clear hn1;have QI:Hd (∀i,n1 i->i<W0.heap.size):=λi hi=>by
  rw[vL.o]at hi;have h0:=Ni.o;rcases hi with hi|hi
  .have:=ZN.o i hi;omega
  .omega
 have WQ:Hd (∀i,n1 i->N i\/W.heap.size<=i):=λi hi=>by
  rw[vL.o]at hi;rcases hi with hi|hi
  .exact .inl hi
  .right;omega
 have MY:Hd (∀V,aC W0 V->_):=λV hb=>CM.o n1 V (iW.o V hb) WQ.o (λi hi=>Qde (QI.o i hi) hb.size);have yM:Hd (∀V K,aC W0 V->W0.heap.size<=K->K<V.heap.size->_):=λV K hb h1 h2=>CM.o (orM n1 K) V (iW.o V hb) (λi hi=>hi.elim (WQ.o i) λe=>by have:=Ni.o;right;omega) (λi hi=>hi.elim (λh=>Qde (QI.o i h) hb.size) λe=>by omega);obtain⟨z0,z1⟩:=dD.o _ HJ.o;go_cut [3](λs3 wx=>∃(K:Nat)(ta:fx)(tc:Nat),s3=xP K/\Hd (WaA x n1 W0 K (xL ta x.aK.length tc) wx));case first=>
  rw[<-tj.o]at*;go_region_held3(λV=>bJ V B 0 (xL sa x.aK.length sc)/\bJ V B 4 x.next)
   (with_reducible first|exact dD.o _ dP.o|exact dD.o _ dP.o.drew|exact dD.o _ HJ.o|exact dD.o _ HJ.o.drew|exact dD.o _ (dP.o.alloc dP.o.size _)|exact dD.o _ (HJ.o.alloc HJ.o.size _)|exact dD.o _ (HJ.o.alloc HJ.o.size _).drew|exact dD.o _ (HJ.o.drew.alloc HJ.o.size _)|exact dD.o _ (dd dP.o Ct.o.2)|fail)
   (first
     |(go_at_call 87;first
       |(with_reducible refine(MY.o _ HJ.o).mono ?_)
       |(with_reducible refine(MY.o _ HJ.o.drew).mono ?_)
       |(with_reducible refine(yM.o _ W0 (HJ.o.alloc HJ.o.size _) bT (szA _ _)).mono ?_)
       |(with_reducible refine(yM.o _ W0 (HJ.o.alloc HJ.o.size _).drew bT (szD _ _)).mono ?_)
       |(with_reducible refine(yM.o _ W0 (HJ.o.drew.alloc HJ.o.size _) bT (szE _ _)).mono ?_)
       |fail
       rintro e w3⟨_,rfl,⟨u,rfl,hu⟩,hb3⟩;obtain⟨a1,c1,rfl,_⟩:=hu.aq;have HU:=ag hu;try(with_reducible(have Ct:=ag (U5 HJ.o hb3)))
       try(with_reducible(have Ct:=ag (YS HJ.o hb3)))
       try(with_reducible(have Ct:=ag (YT HJ.o hb3)))
       try(have g0:=aj Ct.o.1 0)
       try(have g1:=aj Ct.o.1 1)
       try(have g2:=aj Ct.o.1 2)
       try(have g3:=aj Ct.o.1 3)
       try(have hq:=af Ct.o.1)
       have dP:Hd (aC W0 w3):=(by with_reducible first|exact ag hb3|exact ag (U7 hb3)|exact ag (U6 hb3)|exact ag (YU hb3)|exact ag (YV hb3));clear hb3 hu)
     |fail);all_goals(go_wp2;go_meet)
  all_goals first
   |exact⟨_,_,_,rfl,ag (Y2 Ct.o rfl dP.o HU.o)⟩
   |exact⟨_,_,_,rfl,ag (Y1 dP.o HU.o)⟩
   |trace_state
 case rest=>
 obtain⟨K,ta,tc,rfl,HA⟩:=hcut;rename World=>W1;have WR:Hd (aC W W1):=iW.o _ HA.o.low;have v7:=ag (show W<K/\K<W1/\mo<W/\mr<W/\W.heap.size+1<=W1 by
  have h1:=HA.o.new;have h2:=(Qaa.1 HA.o.blk).1;have h3:=Ni.o;exact⟨by omega,h2,A6.o.lt,Bf.o.lt,by omega⟩);have zz:Hd (fF dO W1 mo es clk):=A6.o.same _ (WR.o.block _ A6.o.lt);have mZ:Hd (∀w,w.heap[mo]? =W1.heap[mo]?->(Instr.range 113 (.map (some mo))).run prog w= .ok (.pointer (w,0)) (w.alloc (.mapIter (some mo) clk #[] clk))):=λw hw=>run_range_map (P:=prog) w _ _ _ mo _ clk underlying113 (hw.trans zz.o.is_);have hr1:=mZ.o W1 rfl;obtain⟨b0,b1,b2,b3,b4⟩:=dq (ni.o.ae WR.o).cell;clear z0 z1;go_upto_region 3 with fail;clear hr1 b0 b1 b2 b3 b4;obtain⟨W2,hW2⟩:=bY (W1.alloc (.mapIter (some mo) clk #[] clk));have mn:=ag (show aC W1 W2 by rw[hW2];exact bU);have mw:=ag (show IterM W2 W1 mo ([]:List (Int×aA×Nat)) clk by rw[hW2];exact Qbh W1 _);have yV:=ag (show W2.heap.size=[W1]by rw[hW2];simp);rw[<-hW2];clear hW2;generalize hr1:W1.heap.size=r1 at*;have zK:=ag hr1;clear hr1;have hgs:CA 66 (λv=>cT (xL ta x.aK.length tc) v () nx) n1 W2 K r1 mo clk () ([]:List (Int×aA×Nat)) ([]:List bF) W2:=⟨ao.refl _ _,by
  have h1:=(mn.o.block K (by have:=v7.o;have:=zK.o;omega)).trans HA.o.blk;rw[tj.o]at h1;exact h1,mw.o,aS.nil _ _ _ _⟩;have ia:Hd (CA 66 (λv=>cT (xL ta x.aK.length tc) v () nx) n1 W2 K r1 mo clk () ([]:List (Int×aA×Nat)) ([]:List bF) W2/\Pm bF.id x.aP es [] []):=⟨hgs,⟨by simp,by simp,by simp,by simp⟩⟩;have Qc:Hd (fF dO W2 mo es clk):=zz.o.same _ (mn.o.block _ (by have:=v7.o;have:=zK.o;omega));have qeb:Hd (aC W W2):=WR.o.trans (mn.o.mono (by have:=v7.o;have:=zK.o;omega));clear hgs;generalize hnn:es.length=n at*;have v8:=ag hnn;clear hnn;go_loopg [5]n(λgg _ wr=>∃(V:List (Int×aA×Nat))(os:List bF)(v:aA),gg=n-V.length/\Hd (CA 66 (λv=>cT (xL ta x.aK.length tc) v () nx) n1 W2 K r1 mo clk v V os wr/\Pm bF.id x.aP es V os));case atStart=>exact⟨[],[],_,by simp,ia⟩
 case round=>
  obtain⟨V,os,v,rfl,HS⟩:=hrel;rename World=>wr;have QJ:=HS.o.1.map Qc.o (by have:=v7.o;omega) (by have:=v7.o;omega);rcases QJ.step (P:=prog) dO HS.o.1.iter HS.o.2.sub HS.o.2.nod 0 with⟨jz,gE⟩|⟨q,w1,hp,Q8,gE,uy,lG,oF,ho1,iN⟩;rotate_left
  .have FL:=iT (es:=es) lG (λz hz=>by
    rcases Qch.1 hz with hz|hz
    .exact HS.o.2.sub z hz
    .rw[Qea.1 hz];exact hp);rw[Qda,List.length_singleton,v8.o]at FL;obtain⟨o,vv,ho,e1,e2,hvs⟩:=HES.o q hp;have HD:=ag (HS.o.1.drawn (V':=V++[q]) (by have:=v7.o;omega) (by have:=yV.o;omega) ho1 uy);have HQ:=ag (HS.o.2.more hp lG ho e1);have Tc:=ag (show os.length=V.length by have:=congrArg List.length HS.o.2.ids;simpa using this);have Fu:=hvs;obtain⟨va,vc,rfl,_⟩:=Fu.aq;have yS:=ag hvs;obtain⟨q1,q2,q3⟩:=q;dsimp only at e1 e2 gE iN;subst e1;subst e2;dsimp only[dO,qS]at gE iN;have HO:=ag ho;clear hvs Fu uy lG oF ho1 hp Q8 ho;go_upto_region 5 with fail;clear gE iN;obtain⟨W4,hW4⟩:=bY (w1.alloc (eh o (xL va o.aZ.length vc)));have nQ:=ag (show dk W4 w1 (eh o (xL va o.aZ.length vc))by rw[hW4];exact Qbh w1 _);have FO:=ag (show CA 66 (λv=>cT (xL ta x.aK.length tc) v () nx) n1 W2 K r1 mo clk v (V++[(o.id,qS o (xL va o.aZ.length vc),q3)]) os W4 by rw[hW4];exact HD.o.ae bU);unfold eh at hW4;rw[<-hW4];clear hW4;obtain⟨ga,gc,rfl,_,_⟩:=FO.o.acc.aq;have J8:Hd (∀i,bu (xL ga os.length gc) (Ts n1 K r1) i->i<W4.heap.size):=λi hi=>by
    have h1:=FO.o.only.size;have h2:=yV.o;have h3:=v7.o;have h4:=Ni.o;have h5:=HA.o.low.size;have h6:=zK.o;rcases hi with(hi|hi|hi)|hi
    .have:=QI.o i hi;omega
    .omega
    .omega
    .exact(FO.o.acc.cG i hi).2
   have hV4:ab (bu (xL ga os.length gc) (Ts n1 K r1)) W4 (xL va o.aZ.length vc) o.aZ:=yS.o.ev ⟨(ao.az qeb.o).cV FO.o.only (λi hi bH=>by have:=v7.o;rcases hi with hi|hi<;>omega),λi hi=>by
    have h2:=yV.o;have h3:=v7.o;rcases hi with(hi|hi|hi)|hi
    .exact WQ.o i hi
    .right;omega
    .right;omega
    .right;have:=(FO.o.acc.cG i hi).1;omega⟩;have MR:=ag (HFO.o o HO.o (bu (xL ga os.length gc) (Ts n1 K r1)) W4.drew (xL va o.aZ.length vc) J8.o (hV4.ae (Qbg _ W4).drew));have qec:=ag (CH.o o HO.o);clear hV4;have p1:=(af FO.o.blk).2.1;obtain⟨x0,x1,x2,x3⟩:=af nQ.o;have h48:(os.length+1)*48<=140737488355328:=by have:=Tc.o;omega
   have HQ2:=HQ;go_region_law(first
    |(go_simp;go_at_call 88;refine MR.o.mono ?_;rintro e w5⟨_,rfl,⟨za,rfl,Uf⟩,iL⟩;have ot:=ag (FO.o.ae ((Qbg _ W4).drew.trans iL));have fq:Hd (∀o1,aD.rep (α:=bF) (bu (xL ga os.length gc) (Ts n1 K r1)) (w5.alloc o1) [xI o.id,xI o.cL,xI o.cQ,xL za o.aZ.length o.aZ.length] o):=λo1=>⟨_,rfl,((Uf W4.drew (Nat.le_add_right _ _)).slice (by have:=qec.o;unfold maxLen;omega) J8.o).ae (dS.alloc bT o1)⟩;have q1':=(af ot.o.blk).2.1;have q2':∀o1,(w5.alloc o1).cell? (K,1)=some (xL ga os.length gc):=λo1=>(af ((Qcb w5 o1 K (Qaa.1 ot.o.blk).1).trans ot.o.blk)).2.1;clear Uf iL p1 x0 x1 x2 x3)
    |(refine dT (α:=bF) rfl _ _ _ rfl (Ts n1 K r1) W2 66 i0 _ 48 underlying32 hi0 hz0 hz1 hz2 rfl (by decide) (.slice ga os.length gc) os rfl (ot.o.acc.alloc _) (λ_=>True) _ _ o rfl (cF _ _ _ _ rfl trivial) (fq.o _) (by unfold maxLen;omega) h48 (by have:=ot.o.only.size;simp;omega) ?_;intro a2 c2 w6 bD dK jn;have WS:=ag (ot.o.next (by have:=v7.o;have:=yV.o;omega) (by have:=yV.o;omega) (by have:=v7.o;omega) jn bD (c:=1) (λW h=>qci h));have S2:K<W2:=by have:=v7.o;have:=yV.o;omega
      have gP:=(jn.block K S2).trans ((Qcb w5 _ K (by have:=ot.o.only.size;omega)).trans ot.o.blk);have s6:=(af gP).2.1;have f6:=aj gP 1;clear bD dK jn gP q1' q2')
    |fail);all_goals
    go_wp2;go_roundg(n-(V.length+1));case measure=>omega
    case rel=>exact⟨V++[(o.id,qS o (xL va o.aZ.length vc),q3)],os++[o],_,by simp,ag ⟨WS.o,HQ2.o⟩⟩
  .have Td:=ag (show aC W1 W2 by first|exact mn.o|(rw[zK.o];exact mn.o));have WT:Hd (aC W0 wr):=bq (HA.o.low.trans (Td.o.mono (by have:=HA.o.low.size;omega))) (by have:=HA.o.low.size;have:=Td.o.size;omega) HS.o.1.only (λi hi=>by
    have h1:=HA.o.new;have h5:=HA.o.low.size;have h6:=zK.o;rcases hi with rfl|rfl<;>omega);have eJ:Hd (ab (Y0 n1 K r1) wr (xL ta x.aK.length tc) x.aK):=HA.o.aK.ev ⟨(ao.az Td.o).cV HS.o.1.only (λi hi bH=>by
    have h6:=zK.o;rcases hi with hi|hi
    .exact .inr hi
    .omega),λi hi=>by
    have h6:=zK.o;rcases hi with hi|hi|hi
    .exact .inl (.inl hi)
    .exact .inl (.inr hi)
    .right;omega⟩;have hzw:=HS.o.1.only.size;have Ua:Hd (aS (Y0 n1 K wr) W2 66 wr v os):=HS.o.1.acc.more λi hi=>by
    rcases hi with hi|hi|hi
    .exact .inl (.inl hi)
    .exact .inl (.inr (.inl hi))
    .exact .inr hi
   have HGA:=ag HS.o.2;have Fq:=ag HS.o.1.blk;have HMP:=ag jz;obtain⟨ga,gc,rfl,hga,IW⟩:=Ua.o.aq;have HZW:Hd (W2.heap.size<=wr):=hzw;clear jz HS QJ hga IW hzw;go_upto_region 6 with fail;clear gE;have qaz:Hd (aC W wr):=iW.o _ WT.o;have WU:Hd (fF fw wr mr fs clk2):=Bf.o.same _ (qaz.o.block _ Bf.o.lt);have hr2:=run_range_map (P:=prog) wr 114 _ _ mr _ clk2 underlying114 WU.o.is_;obtain⟨b0,b1,b2,b3,b4⟩:=dq (ni.o.ae qaz.o).cell;go_upto_region 7 with fail;clear hr2 b0 b1 b2 b3 b4;obtain⟨W3,hW3⟩:=bY (wr.alloc (.mapIter (some mr) clk2 #[] clk2));have QK:=ag (show aC wr W3 by rw[hW3];exact bU);have sS:=ag (show IterM W3 wr mr ([]:List (aY×aA×Nat)) clk2 by rw[hW3];exact Qbh wr _);have zL:=ag (show W3.heap.size=[wr]by rw[hW3];simp);rw[<-hW3];clear hW3;generalize hr2:wr.heap.size=r2 at*;have zM:=ag hr2;clear hr2;have Q2:K<r2:=by have h1:=(Qaa.1 Fq.o).1;have:=zM.o;omega
   have Fi:=ag Q2;have hgs:CA 86 (λv=>cT (xL ta x.aK.length tc) (xL ga os.length gc) v nx) n1 W3 K r2 mr clk2 () ([]:List (aY×aA×Nat)) ([]:List bj) W3:=⟨ao.refl _ _,(QK.o.block K (by have:=zM.o;omega)).trans Fq.o,sS.o,aS.nil _ _ _ _⟩;have QL:Hd (CA 86 (λv=>cT (xL ta x.aK.length tc) (xL ga os.length gc) v nx) n1 W3 K r2 mr clk2 () ([]:List (aY×aA×Nat)) ([]:List bj) W3/\Pm bj.ai x.aF fs [] []):=⟨hgs,⟨by simp,by simp,by simp,by simp⟩⟩;have HM3:Hd (fF fw W3 mr fs clk2):=WU.o.same _ (QK.o.block _ (by have:=WU.o.lt;have:=zM.o;omega));clear hgs;have HKM:=ag (show mr≠K/\mr≠r2 by have:=v7.o;omega);generalize QM:fs.length=n2 at*;have QN:=ag QM;clear QM;clear Q2;go_loopg [6,7]n2(λgg _ _ wq=>∃(V2:List (aY×aA×Nat))(rs:List bj)(v2:aA),gg=n2-V2.length/\Hd (CA 86 (λv=>cT (xL ta x.aK.length tc) (xL ga os.length gc) v nx) n1 W3 K r2 mr clk2 v2 V2 rs wq/\Pm bj.ai x.aF fs V2 rs));case atStart=>exact⟨[],[],_,by simp,QL⟩
   case round=>
    obtain⟨V2,rs,v2,rfl,HS⟩:=hrel;rename World=>wq;have QJ:=HS.o.1.map HM3.o HKM.o.1 HKM.o.2;rcases QJ.step (P:=prog) fw HS.o.1.iter HS.o.2.sub HS.o.2.nod 0 with⟨jz,gE⟩|⟨q,w1,hp,Q8,gE,uy,lG,oF,ho1,iN⟩;rotate_left
    .have FL:=iT (es:=fs) lG (λz hz=>by
      rcases Qch.1 hz with hz|hz
      .exact HS.o.2.sub z hz
      .rw[Qea.1 hz];exact hp);rw[Qda,List.length_singleton,QN.o]at FL;obtain⟨o,ho,e1,e2⟩:=iD.o q hp;have HD:=ag (HS.o.1.drawn (V':=V2++[q]) (by have:=Fi.o;omega) (by have:=zL.o;omega) ho1 uy);have HQ:=ag (HS.o.2.more hp lG ho e1);have Tc:=ag (show rs.length=V2.length by have:=congrArg List.length HS.o.2.ids;simpa using this);have Bc:rs.length<=1000:=by have:=Tc.o;omega
     obtain⟨q1,q2,q3⟩:=q;dsimp only at e1 e2 gE iN;subst e1;subst e2;dsimp only[fw]at gE iN;have HRO:=ag ho;clear uy lG oF ho1 hp Q8 ho;obtain⟨xa,xc,rfl,_,_⟩:=HD.o.acc.aq;have p2:=(af HD.o.blk).2.2.1;have f2:=aj HD.o.blk 2;have qa8:(rs.length+1)*24<=140737488355328:=by omega
     obtain⟨rn,ri⟩:=o;dsimp only at gE iN;have HDS:Hd (W3.heap.size<=w1):=HD.o.only.size;go_wp2_with(at_builtin;refine bo (α:=bj) rfl _ _ _ rfl (Ts n1 K r2) W3 86 i1 _ 24 underlying33 hi1 hy0 hy1 hy2 rfl (by decide) (.slice xa rs.length xc) rs rfl (HD.o.acc.alloc _) (λ_=>True) _ _ (⟨rn,ri⟩:bj) rfl (cF _ _ _ _ rfl trivial) ⟨rfl,WO.o _ HRO.o⟩ (by unfold maxLen;omega) qa8 (by have:=HDS.o;simp;omega) ?_;intro a2 c2 w6 bD dK jn;have WS:=ag (HD.o.next (by have:=Fi.o;have:=zL.o;omega) (by have:=zL.o;omega) (by have:=Fi.o;omega) jn bD (c:=2) (λW h=>qcj h));have S2:K<W3:=(by have:=Fi.o;have:=zL.o;omega);have gP:=(jn.block K S2).trans ((Qcb w1 _ K (by have:=HDS.o;omega)).trans HD.o.blk);have s6:=(af gP).2.2.1;have f6:=aj gP 2;clear bD dK jn gP);go_roundg(n2-(V2.length+1));case measure=>omega
     case rel=>exact⟨V2++[(rn,xI ri,q3)],rs++[⟨rn,ri⟩],_,by simp,ag ⟨WS.o,HQ.o⟩⟩
    .have qa9:Hd (aC W0 wq):=bq (WT.o.trans (QK.o.mono (by have:=WT.o.size;have:=zM.o;omega))) (by have:=WT.o.size;have:=zL.o;have:=zM.o;omega) HS.o.1.only (λi hi=>by
      have h1:=HA.o.new;have h2:=WT.o.size;have h3:=zM.o;rcases hi with rfl|rfl<;>omega);have hzq:=HS.o.1.only.size;have qba:=ag (show aC wr W3 by first|exact QK.o|(rw[zM.o];exact QK.o));have h12:r1<=r2:=by have:=HZW.o;have:=yV.o;omega
     have qed:Hd (ab (Y0 n1 K r1) wq (xL ta x.aK.length tc) x.aK):=(eJ.o.ae qba.o).ev ⟨HS.o.1.only.mono λi hi=>by
      rcases hi with hi|hi
      .exact .inr (.inl hi)
      .right;right;omega,λi hi=> .inl hi⟩;have Nn:Hd (∀g,(Value.slice ga os.length gc).ownBlock=some g->W2.heap.size<=g/\g<r2):=λg hg=>by have h1:=Ua.o.cG g hg;rw[zM.o]at h1;exact h1
     have qee:Hd (aS (Y0 n1 K r2) W2 66 wq (xL ga os.length gc) os):=(Ua.o.ae qba.o).pA HS.o.1.only (λi hi=>by
      rcases hi with hi|hi
      .exact .inr (.inl hi)
      .right;right;omega) (λg hg hi=>by
      have h1:=Nn.o g hg;have h2:=v7.o;have h3:=yV.o;rcases hi with hi|hi<;>omega);have S0:=ag (Ib (Y0 n1 K r2) W2 wq (xL ga os.length gc) os qee.o (λg hg hi=>by
      have h1:=Nn.o g hg;have h2:=v7.o;have h3:=yV.o;have h4:=HA.o.low.size;have h5:=zK.o;rcases hi with hi|hi|hi
      .have:=QI.o g hi;omega
      .omega
      .omega) (by
      have h1:=congrArg List.length HGA.o.ids;have h2:=iT (es:=es) HGA.o.nod HGA.o.sub;have h3:=v8.o;simp at h1;omega));have HGR:=ag HS.o.2;have WV:=ag HS.o.1.blk;have WW:=ag HS.o.1.acc;have qbb:=ag jz;have HQZ:Hd (W3.heap.size<=wq/\r1<=r2):=⟨hzq,h12⟩;have Ue:=ag (show rs.length<1000000 by
      have h1:=congrArg List.length HS.o.2.ids;have h2:=iT (es:=fs) HS.o.2.nod HS.o.2.sub;have h3:=QN.o;simp at h1;omega);obtain⟨xa,xc,rfl,_,_⟩:=WW.o.aq;have p1:=(af WV.o).2.1;clear jz HS QJ hzq h12;go_wp2_with fail;go_at_call 89;refine S0.o.mono ?_;rintro e w4⟨rfl,ys,hys,Yd,hsl,ho4⟩;have Yc:=ho4.size;have HKG:Hd (∀g,(Value.slice ga os.length gc).ownBlock=some g->g≠K):=λg hg=>by have:=Nn.o g hg;have:=v7.o;have:=yV.o;omega
     have WX:Hd (bW w4 K (cT (xL ta x.aK.length tc) (xL ga os.length gc) (xL xa rs.length xc) nx)):=(ho4.block K (Qaa.1 WV.o).1 (λhi=>HKG.o K hi rfl)).trans WV.o;have IU:Hd (∀g,(Value.slice xa rs.length xc).ownBlock=some g->W3.heap.size<=g):=λg hg=>(WW.o.cG g hg).1;have qef:Hd (aS (orM n1 K) W3 86 w4 (xL xa rs.length xc) rs):=WW.o.Ve ho4 (λg hg hi=>by have h1:=IU.o g hg;have h2:=(Nn.o g hi).2;have:=zL.o;omega);have HYS:=ag (And.intro hys (And.intro Yd (And.intro hsl ho4)));have HSR:=ag (EB (orM n1 K) W3 w4 (xL xa rs.length xc) rs qef.o (λg hg hi=>by
      have h1:=IU.o g hg;have h2:=Fi.o;have h3:=zL.o;have h4:=WT.o.size;have h5:=zM.o;rcases hi with hi|hi
      .have:=QI.o g hi;omega
      .omega) Ue.o);have p2:=(af WX.o).2.2.1;clear hys Yd hsl ho4 Yc p1;go_wp2_with fail;go_at_call 91;refine HSR.o.mono ?_;rintro e w5⟨rfl,zs,hzs,hsz,qbc,ho5⟩;have HZS:=ag (And.intro hzs (And.intro hsz (And.intro qbc ho5)));have qeg:Hd (bW w5 K (cT (xL ta x.aK.length tc) (xL ga os.length gc) (xL xa rs.length xc) nx)):=(ho5.block K (Qaa.1 WX.o).1 (λhi=>by have:=IU.o K hi;have:=Fi.o;have:=zL.o;omega)).trans WX.o;have QO:aC W0 w4:=bq qa9.o qa9.o.size HYS.o.2.2.2 (λi hi=>by have:=Nn.o i hi;have:=yV.o;have:=zK.o;have:=HA.o.low.size;omega);have qbd:Hd (aC W0 w5):=bq QO QO.size HZS.o.2.2.2 (λi hi=>by have:=IU.o i hi;have:=zL.o;have:=zM.o;have:=WT.o.size;omega);have MW:Hd (dk w5 W (cT () () () 0)):=(qbd.o.block _ (by have:=Ni.o;omega)).trans (cI.o.bO rfl);obtain⟨p0,p1,p2',p3⟩:=af qeg.o;obtain⟨x0,x1,x2,x3⟩:=af MW.o;obtain⟨g0,g1,g2,g3⟩:=hZ MW.o;have HEY:Hd (ys=x.aP/\zs=x.aF):=⟨Ez Rh.o (ks:=V.map (·.1)) ((HMP.o.map (·.1)).nodup_iff.2 zz.o.keys) (show cA os=V.map (·.1)from HGA.o.ids) HGA.o.mem (λo ho=>(HMP.o.map (·.1)).mem_iff.2 (I4.o o ho)) HYS.o.1 HYS.o.2.1,B3 FM.o (ks:=V2.map (·.1)) ((qbb.o.map (·.1)).nodup_iff.2 HM3.o.keys) HGR.o.ids HGR.o.mem (λo ho=>(qbb.o.map (·.1)).mem_iff.2 (QW.o o ho)) hzs hsz⟩;have pJ:Hd (∀W',W'=((((w5.setCell (W,0) (xL ta x.aK.length tc)).setCell (W,1) (xL ga os.length gc)).setCell (W,2) (xL xa rs.length xc)).setCell (W,3) nx)->(∃lv ov rv,Value.agg #[xL ta x.aK.length tc,xL ga os.length gc,xL xa rs.length xc,nx]= .agg #[lv,ov,rv,nx]/\ab N W' lv x.aK/\ab N W' ov x.aP/\ab N W' rv x.aF)/\aC W W'):=λW' hW'=>by
      have ho:ao (λi=>i=W) w5 W':=by
       rw[hW'];exact((((ao.refl (λi=>i=W) w5).setCell (p:=⟨W,0,none⟩) (.inl rfl) _).setCell (p:=⟨W,1,none⟩) (.inl rfl) _).setCell (p:=⟨W,2,none⟩) (.inl rfl) _).setCell (p:=⟨W,3,none⟩) (.inl rfl) _
      have hn:∀i,i=W.heap.size->n1 i:=λi hi=>by rw[vL.o];exact .inr hi
      have hN:∀i,N i->n1 i:=λi hi=>by rw[vL.o];exact .inl hi
      obtain⟨e1,e2⟩:=HEY.o;have h3:=zL.o;have h2:=yV.o;have h4:=HQZ.o;have k4:=HYS.o.2.2.2;have k5:=HZS.o.2.2.2;have kl:ab N W' (xL ta x.aK.length tc) x.aK:=qed.o.ev ⟨((k4.mono λi hi=> .inr (.inr (by have:=Nn.o i hi;omega))).trans (k5.mono λi hi=> .inr (.inr (by have:=IU.o i hi;omega)))).trans (ho.mono λi hi=> .inl (hn i hi)),λi hi=> .inl (.inl (hN i hi))⟩;have ko:ab N W' (xL ga os.length gc) ys:=HYS.o.2.2.1.ev ⟨(k5.mono λi hi=> .inr (.inr (by have:=IU.o i hi;omega))).trans (ho.mono λi hi=> .inl (hn i hi)),λi hi=> .inl (.inl (hN i hi))⟩;have kr:ab N W' (xL xa rs.length xc) zs:=HZS.o.2.2.1.ev ⟨ho.mono λi hi=> .inl (hn i hi),λi hi=> .inl (.inl (hN i hi))⟩;rw[e1]at ko;rw[e2]at kr;have iL:aC W w5:=iW.o _ qbd.o;exact⟨⟨_,_,_,rfl,kl,ko,kr⟩,bq iL iL.size ho (λi hi=>by have hi:i=W:=hi;omega)⟩
     clear hzs hsz qbc ho5 p2 QO;go_wp2_with fail;exact Qae (v:= .agg #[xL ta x.aK.length tc,xL ga os.length gc,xL xa rs.length xc,nx]) (by simp[results,results38,go_sem,x0,x1,x2,x3,g0,g1,g2,g3]) rfl ⟨_,rfl,pJ.o _ rfl⟩
def EL(x:aW)(h:gx x)(M:aV)(w:ax)(hM:Bd M w)(hG:Gd w)(lv ov rv:aA)(js:ab M w lv x.aK)(kM:ab M w ov x.aP)(iM:ab M w rv x.aF):
 xC 31 #[.agg #[lv,ov,rv,x.next]] w (cu (xI 0) w):=by
 have HS:=ag (qT x h M (w.alloc (cT lv ov rv x.next)) (λi hi=>Qde (hM i hi) (by simp)) (hG.ae bU) lv ov rv (js.ae bU) (kM.ae bU) (iM.ae bU));have cI:=ag (Bx.eI w (cT lv ov rv x.next));obtain⟨la,lc,rfl,_⟩:=js.aq;obtain⟨oa,oc,rfl,_⟩:=kM.aq;obtain⟨ra,rc,rfl,_⟩:=iM.aq;clear js kM iM hM hG h;generalize x.next=nx at*;generalize x.aK.length=m1 at*;generalize x.aP.length=m2 at*;generalize x.aF.length=m3 at*;go_enter func31,ntmps31;go_upto_region 1 with fail;have⟨W1,hW1⟩:=bY (w.alloc (cT (xL la m1 lc) (xL oa m2 oc) (xL ra m3 rc) nx));rw[<-hW1]at cI HS;unfold cT at hW1;rw[<-hW1];clear hW1;have⟨a0,a1,a2,a3⟩:=af (cI.o.bO rfl);go_wp2_with fail;go_at_call 21;refine HS.o.mono ?_;rintro e w2⟨_,rfl,⟨lt,pm,rfl,hg⟩,hb⟩;obtain⟨ls,zJ,-⟩:=hg.late;obtain⟨za,zc,rfl,_⟩:=zJ.aq;have HF:=ag (cI.o.ae hb);clear hg zJ hb a0 a1 a2 a3;go_wp2;go_ret;exact⟨rfl,HF.o.1.alloc HF.o.1.size _⟩
def EM(x:aW)(r:ec)(y:aW):Prop:=∃F:Nat,((r.an=1/\F=33)\/(r.an=2/\F=34)\/(r.an=3/\F=35))/\
 ∀(M:aV)(w0 W:ax),Bd M w0->Gd w0->aC w0 W->∀B p b mo mr:Nat,sW w0 B p b mo mr->∀sv vv fv:aA,cz x (iC M B b mo mr) B p b mo mr sv W->ab M w0 vv r.kD.aZ->ab M w0 fv r.cL.ah->
  xC F #[xP B,yg r vv fv] W λe w'=>e=xR (xI 0)/\(∃p' b' sv',sW w0 B p' b' mo mr/\cz y (iC M B b' mo mr) B p' b' mo mr sv' w'/\(b'=b\/W.heap.size<=b'))/\ao (Na B b mo mr) W w'
inductive fW:aW->List ec->aW->Prop
 |nil(x:aW):fW x [] x
 |cons {x y z:aW}{r:ec}{l:List ec}:EM x r y->fW y l z->fW x (r::l) z
def EN {x:aW}(hx:dF x.aK){r:ec}{v:Nat}{l:aQ}(hk:r.an=1)(ho:iR x.aK 100000 r.kD k v l)(hid:1<=r.kD.id/\r.kD.id<=100000)(re:1<=x.next/\x.next<=100001):EM x r ⟨x.aK,mg x.aP r.kD,x.aF,yh x.next (r.kD.id+1)⟩:=
 ⟨_, .inl ⟨hk,rfl⟩,λM w0 W hM hG hb B p b mo mr hC sv vv fv hB hv hf=>(Vd x hx r k v l ho hid re M w0 W hM hG hb B p b mo mr hC sv vv fv hB hv (by have⟨a,c,e,_⟩:=hf.aq;exact⟨_,_,_,e⟩)).mono λe w'⟨h1,h2,h3⟩=>⟨h1,⟨p,b,sv,hC,h2, .inl rfl⟩,h3⟩⟩
def AO {x:aW}{r:ec}(hk:r.an=2)(hn:aM r.ai=true/\r.ai.size<=maxLen)(hid:1<=r.id/\r.id<=100000):EM x r ⟨x.aK,x.aP,mh x.aF ⟨r.ai,r.id⟩,x.next⟩:=
 ⟨_, .inr (.inl ⟨hk,rfl⟩),λM w0 W hM hG hb B p b mo mr hC sv vv fv hB hv hf=>(R7 x r hn hid M w0 W hb B p b mo mr hC sv vv fv hB (by have⟨a,c,e,_⟩:=hv.aq;exact⟨_,_,_,e⟩) (by have⟨a,c,e,_⟩:=hf.aq;exact⟨_,_,_,e⟩)).mono λe w'⟨h1,h2,h3⟩=>⟨h1,⟨p,b,sv,hC,h2, .inl rfl⟩,h3⟩⟩
abbrev vE(r:ec)(vv fv:aA):List aA:=[xI r.an,xI r.kD.id,xI r.kD.cL,xI r.kD.cQ,vv,xI r.id,xI r.cQ,xS r.ai,xS r.cL.ai,fv,xI r.pI.an,xS r.pI.field,xS r.pI.ai,xS r.pI.more,xI r.pI.type.an,xI r.pI.type.of,xS r.pI.cX,xS r.pI.bZ]
def B5 {l:List ec}(h:ab M w v l){r:ec}(hr:l[i]? =some r):∃b off cap vv fv,v=xL (some ⟨b,off,none⟩) l.length cap/\ab M w vv r.kD.aZ/\ab M w fv r.cL.ah/\∀W,aC w W->W.rangeAt b (off+i*18) (vE r vv fv):=by
 obtain⟨a,cap,rfl,hl,_,hc⟩:=h.aq;have hk:=(Qad.1 hr).1;obtain⟨b,off,rfl,_,hb,hcell⟩:=hc (by omega);obtain⟨cs,⟨vv,fv,rfl,hs,hf,_⟩,hcs⟩:=hcell i _ hr;refine⟨b,off,cap,vv,fv,rfl,hs,hf,λW hB j u hu=> ?_⟩;exact(hB.cell (p:=⟨b,off+i*18+j,none⟩) hb).trans (hcs j u hu)
def EO:(Tryz.prog.info? 75).map (·.size)=some 18:=by kernel_rfl
def oe {ops:Array Oper}{rest:List Oper}{op:Oper}{a:Act}{Q:Exit->Act->ax->Prop}(hw:Region.wanted op (yielded ops a.tmps)=true)(x:Operand)(ho:op.op= .load 75 x)(b o:Nat)(hx:a.eval x= .pointer (b,o)){r:ec}{vv:aA}(h:w.rangeAt b o (vE r vv fv))
 (hk:wpList prog ops Q rest (a.put op.dst (yg r vv fv)) w):wpList prog ops Q (op::rest) a w:=
 wpList_step λK hK=>by rw[if_pos hw];exact wp_load_mid 75 x ho b o hx _ _ h underlying75 rfl EO (hK _ _ hk)
def L1 {r:ec}{vv:aA}(h:bW W g (lL r vv fv)):W.rangeAt g 0 (vE r vv fv):=λj v hv=>by
 rw[Nat.zero_add];unfold lL at h;simp only[World.cell?,h];simpa using hv
abbrev yp(f B:Nat):aA:= .func (.func f) #[xP B] #[]
def qU(w:ax)(b B:Nat):Prop:=∃es clk,bP dO w b es clk/\
 bB es 1=some (yp 33 B)/\bB es 2=some (yp 34 B)/\bB es 3=some (yp 35 B)
theorem qU.same(h:qU w b B)(hb:w'.heap[b]? =w.heap[b]?):qU w' b B:=by
 obtain⟨es,clk,h1,h2⟩:=h;exact⟨es,clk,hb.trans h1,h2⟩
theorem qU.look(h:qU w b B){r:ec}{F:Nat}(hk:(r.an=1/\F=33)\/(r.an=2/\F=34)\/(r.an=3/\F=35)):(Instr.lookup 122 (.map (some b)) r.an true).run prog w= .ok (.tuple #[yp F B,true]) w:=by
 obtain⟨es,clk,h1,h2,h3,h4⟩:=h;rcases hk with⟨e1,rfl⟩|⟨e1,rfl⟩|⟨e1,rfl⟩;all_goals rw[e1]
 .exact bP.Eb dO underlying122 eo eO h1 1 _ h2
 .exact bP.Eb dO underlying122 eo eO h1 2 _ h3
 .exact bP.Eb dO underlying122 eo eO h1 3 _ h4
def sJ {es:List (Int×aA×Nat)}(h:bP dO w b es clk)(x:Int)(v:aA)(hv:bB es x=none):∃w',(Instr.mapUpdate 122 (.map (some b)) x v).run prog w= .ok () w'/\bP dO w' b (es++[(x,v,clk)]) (clk+1)/\ao (λi=>i=b) w w':=by
 have⟨h1,h2⟩:=bP.insert dO (.int .i64) oX (P:=prog) underlying122 underlying3 eO h x v hv;exact⟨_,h1,h2,(ao.refl (λi=>i=b) w).putObj (.inl rfl) _⟩
structure Vg(z:aW)(M:aV)(recs:List ec)(w0 w4:ax)(bw B b0 mo mr:Nat)(i:Nat)(wr:ax):Prop where
 st:∃y p b sv,fW y (recs.drop i) z/\sW w0 B p b mo mr/\cz y (iC M B b mo mr) B p b mo mr sv wr/\(b=b0\/w4.heap.size<=b)
 only:ao (Na B b0 mo mr) w4 wr
 ways:qU wr bw B
def R8 {y z:aW}{recs:List ec}(h:fW y (recs.drop i) z){r:ec}(hr:recs[i]? =some r):∃y',EM y r y'/\fW y' (recs.drop (i+1)) z:=by
 have hi:=(Qad.1 hr).1;rw[List.drop_eq_getElem_cons hi]at h;have:recs[i]=r:=(Qad.1 hr).2;rw[this]at h;cases h with
 |cons h1 h2=>exact⟨_,h1,h2⟩
def Po {y z:aW}{recs:List ec}(h:fW y (recs.drop i) z)(hi:recs.length<=i):y=z:=by
 rw[List.drop_eq_nil_of_le hi]at h;cases h;rfl
def AP(x z:aW)(hx:gx x)(hz:gx z)(recs:List ec)(hd:fW x recs z)(hn:recs.length<=1000)(M:aV)(w:ax)(hM:Bd M w)(hG:Gd w)(lv ov rv qv:aA)(js:ab M w lv x.aK)(kM:ab M w ov x.aP)(iM:ab M w rv x.aF)(hqv:ab M w qv recs):
 xG 10 #[.agg #[lv,ov,rv,x.next],qv] w λu w'=>∃TW TX TY,u= .tuple #[.agg #[TW,TX,TY,z.next],xI (recs.length:Int),xI 0]/\ab M w' TW z.aK/\ab M w' TX z.aP/\ab M w' TY z.aF:=by
 have CC:=gQ (w:=w) (λW hb=>EL x hx M W (hM.ae hb) (hG.ae hb) lv ov rv (js.ae hb) (kM.ae hb) (iM.ae hb));obtain⟨M1,Te⟩:∃M1:aV,M1=(λi=>M i\/i=[w]):=⟨_,rfl⟩;have hMM:∀i,M1 i->M i\/w.heap.size<=i:=λi hi=>by
  rw[Te]at hi;exact hi.imp_right λe=>by omega
 have I1:Hd (∀W,aC w W->w.heap.size+2<=W->Bd M1 W):=λW hb hz i hi=>by
  rw[Te]at hi;rcases hi with hi|hi
  .have:=hM i hi;omega
  .omega
 have hE:∀W,aC w W->Ev M w M1 W:=λW hb=>⟨ao.az hb,hMM⟩;have HLY:Hd (∀W,aC w W->w.heap.size+2<=W->_):=λW hb hz=>Vc x hx.nI hx.x9 (by have:=hx.len;omega) (by have:=hx.rlen;omega) M1 W (I1.o W hb hz) lv ov rv (js.ev (hE W hb)) (kM.ev (hE W hb)) (iM.ev (hE W hb));have Cr:Hd (∀W,aC w W->∀i r,recs[i]? =some r->_):=λW hb i r hr=>B5 (hqv.ev (hE W hb)) hr;have zz:=ag Te;clear hE hMM Te;have HZ:=ag hz;have HX:=ag hx;have HD:=ag hd;have HM:=ag hM;have HG:=ag hG;obtain⟨la,lc,rfl,-⟩:=js.aq;obtain⟨oa,oc,rfl,-⟩:=kM.aq;obtain⟨ra,rc,rfl,-⟩:=iM.aq;obtain⟨qa,qc,rfl,hqc,hqm,-⟩:=hqv.aq;clear js kM iM hM hG hx hz hd hqv;generalize re:x.next=nx at*;generalize oF:x.aK.length=m1 at*;generalize hm2:x.aP.length=m2 at*;generalize MU:x.aF.length=m3 at*;generalize hnn:recs.length=n at*;have tj:=ag re;clear re;have Cn:=ag oF;clear oF;have mz:=ag hm2;clear hm2;have HA3:=ag MU;clear MU;have v8:=ag hnn;clear hnn;have cI:=ag (Bx.du w (cT (xL la m1 lc) (xL oa m2 oc) (xL ra m3 rc) nx) (cT () () () 0));go_enter func10,ntmps10;go_upto_region 1 with fail;have⟨W1,hW1⟩:=bY ((w.alloc (cT (xL la m1 lc) (xL oa m2 oc) (xL ra m3 rc) nx)).alloc (cT () () () 0));rw[<-hW1]at cI;unfold cT at hW1;rw[<-hW1];clear hW1;have⟨a0,a1,a2,a3⟩:=af (cI.o.bO rfl);go_wp2_with fail;go_at_call 31;refine cC (CC.o _ cI.o.1) λw2 bE=> ?_;have bg:=ag (cI.o.ae bE);clear bE a0 a1 a2 a3;have⟨a0,a1,a2,a3⟩:=af (bg.o.bO rfl);go_wp2_with fail;go_at_call 32;refine(HLY.o _ bg.o.1 bg.o.bQ).mono ?_;rintro e w3⟨B,p,b0,mo,mr,rfl,hC,hB,hb3⟩;have HC:=ag hC;clear hC;have HB:=ag hB;clear hB;have bV:=ag hb3;clear hb3;clear a0 a1 a2 a3;have h0:bP dO (w3.alloc (.map #[] 0)) w3 [] 0:=(MapKept.heap_alloc w3 _).1;have⟨w0,hw0⟩:=bY (w3.alloc (.map #[] 0));rw[<-hw0]at h0;have⟨y1,e1,h1,o1⟩:=sJ h0 1 (yp 33 B) rfl;have⟨y2,e2,h2,o2⟩:=sJ h1 2 (yp 34 B) rfl;have⟨y3,e3,h3,o3⟩:=sJ h2 3 (yp 35 B) rfl;have⟨y4,e4,h4,o4⟩:=sJ h3 4 (yp 36 B) rfl;have⟨y5,e5,h5,o5⟩:=sJ h4 5 (yp 37 B) rfl;have HO:Hd (aC w3 y5):=((((ao.refl xF w3).alloc (.map #[] 0)).cV (hw0▸((((o1.trans o2).trans o3).trans o4).trans o5)) (λi hi bH=>by subst hi;omega)).ae);have HWY:Hd (qU y5 w3 B):=⟨_,_,h5,rfl,rfl,rfl⟩;clear h0 h1 h2 h3 h4 h5 o1 o2 o3 o4 o5;unfold yp at e1 e2 e3 e4 e5;have Cs:∀(fn:Fn)(au cap:Array aA)(w:ax),(Instr.makeFunc fn au cap).run prog w= .ok (.func fn au cap) w:=λ_ _ _ _=>rfl;have hmk:=eM 122 w3;rw[<-hw0]at hmk;clear hw0;go_upto_region 7 with fail;clear hmk e1 e2 e3 e4 e5;have nj:=ag ((HB.o).book.lt);have hst:Vg z M1 recs w2 y5 w3 B b0 mo mr 0 y5:=⟨⟨x,p,b0,_,by rw[List.drop_zero];exact HD.o,HC.o,HB.o.ae HO.o, .inl rfl⟩,ao.refl _ _,HWY.o⟩;have ia:=ag hst;clear hst;have Uh:=ag (show w3.heap.size<y5/\B<w3/\p<w3/\b0<w3/\mo<w3/\mr<w3 by
  obtain⟨es,clk,h1,-⟩:=HWY.o;exact⟨(Qaa.1 h1).1,(Qaa.1 HB.o.cell).1,nj.o.1,nj.o.2,HB.o.aP.lt,HB.o.aF.lt⟩);have iU:Hd (aC w2 y5):=bV.o.trans (HO.o.mono bV.o.size);generalize Qw:w3.heap.size=bw at*;have qX:=ag Qw;clear Qw;go_loopg [5,6,10,11,12,13,14,39]n(λgg _ _ _ _ _ _ _ iv wr=>∃i:Nat,gg=n-i/\i<=n/\iv=xI i/\Hd (Vg z M1 recs w2 y5 bw B b0 mo mr i wr));case atStart=>exact⟨0,rfl,Qbf _,rfl,ia⟩
 case round=>
  obtain⟨i,rfl,hi,rfl,HS⟩:=hrel;rename World=>wr;have Fw:Hd (aC w2 wr):=HC.o.ae iU.o HS.o.only;by_cases bH:i<n
  .have⟨r,hr⟩:=eG recs i (by have:=v8.o;omega);have⟨b1,off,cap,vv,fv,hv1,hvv,hfv,hrg⟩:=Cr.o w2 bg.o.1 i r hr;obtain⟨rfl,rfl⟩:=iY hv1;have⟨y,p,b,sv,hdo,hc,sX,hbb⟩:=HS.o.st;have⟨y',⟨F,hF,hdr⟩,hdo'⟩:=R8 hdo hr;obtain⟨va,vc,rfl,-⟩:=hvv.aq;obtain⟨fa,fc,rfl,-⟩:=hfv.aq;have uu:=ag (hrg wr Fw.o);have Ui:=ag hvv;have HFV:=ag hfv;have Nd:=ag hdr;have HDO:=ag hdo';have ni:=ag sX;have om:=ag hc;have CG:=ag hbb;have HF:=ag hF;clear hv1 hvv hfv hrg hdo sX hF hdr hdo' hr hc hbb;have HDS:=gQ (w:=wr) (λW hb=>Nd.o M1 w2 W (I1.o _ bg.o.1 bg.o.bQ) (HG.o.ae bg.o.1) (Fw.o.trans (hb.mono Fw.o.size)) B p b mo mr om.o _ _ _ (ni.o.ae hb) Ui.o HFV.o);have Zx:=gQ (w:=wr) (λW hb=>(HS.o.ways.same (hb.block _ (by have:=HS.o.only.size;have:=Uh.o;omega))).look HF.o);have hF:=HF.o;clear HF Nd ni Ui HFV;go_upto_region 8 with fail;go_upto_region 9 with(refine oe rfl (.tmp 42) rfl b1 (off+i*18) rfl uu.o ?_);have⟨W5,hW5⟩:=bY (wr.alloc (lL r (xL va r.kD.aZ.length vc) (xL fa r.cL.ah.length fc)));have lE:=ag (show dk W5 wr (lL r (xL va r.kD.aZ.length vc) (xL fa r.cL.ah.length fc))by rw[hW5];exact Qbh wr _);have qX:=ag (show aC wr W5 by rw[hW5];exact bU);unfold lL at hW5;rw[<-hW5];clear hW5;have pM:=Zx.o _ qX.o;have c0:=(fG lE.o).1;have HD5:=ag (HDS.o _ qX.o);clear HDS Zx uu;dsimp only[yp]at pM;rcases hF with⟨-,rfl⟩|⟨-,rfl⟩|⟨-,rfl⟩;all_goals
    go_wp2_with(refine oe rfl (.tmp 11) rfl wr 0 rfl (L1 lE.o) ?_);refine(HD5.o).mono ?_;rintro e w6⟨rfl,⟨p',b',sv',hc6,qbe,jn⟩,T8⟩;have ux:=ag (show Vg z M1 recs w2 y5 bw B b0 mo mr (i+1) w6 by
     have h1:=qX.o.size;have h2:=HS.o.only.size;have h3:=Uh.o;have h4:=CG.o;exact⟨⟨y',p',b',sv',HDO.o,hc6,qbe,by omega⟩,(HS.o.only.trans (ao.az qX.o)).cV T8 (λi hi bH=>by
      rcases hi with hi|hi|hi|hi
      .exact .inl hi
      .exact .inr (.inl (by omega))
      .exact .inr (.inr (.inl hi))
      .exact .inr (.inr (.inr hi))),HS.o.ways.same ((T8.block bw (by omega) (λhi=>by rcases hi with hi|hi|hi|hi<;>omega)).trans (qX.o.block bw (by omega)))⟩);clear qbe T8 pM c0 hc6 jn;go_wp2;go_roundg(n-(i+1));case measure=>omega
    case rel=>exact⟨i+1,rfl,by omega,by go_num,ux⟩
  .have kx:n<=i:=by omega
   obtain⟨y,p,b,sv,hdo,hc,sX,-⟩:=HS.o.st;have om:=ag hc;clear hc;obtain rfl:=Po hdo (by have:=v8.o;omega);have ni:=ag sX;have J8:=ag (om.o.bd ni.o Fw.o (I1.o _ bg.o.1 bg.o.bQ));have HWD:=ag (L0 y HZ.o.jR HZ.o.nI HZ.o.x9 (by have:=HZ.o.len;omega) (by have:=HZ.o.rlen;omega) (λo ho=>by
    have⟨j,hj⟩:=Qdg ho;exact(HZ.o.aP j o hj).2.2) (λr hr=>by have:=(HZ.o.mL r hr).2;unfold maxLen;omega) _ wr J8.o B p b mo mr _ ni.o);obtain rfl:i=n:=by omega
   clear hdo sX kx;generalize qbf:y.next=Uj at*;have HZN:=ag qbf;clear qbf;go_wp2_with fail;go_at_call 38;refine HWD.o.mono ?_;rintro e w7⟨_,rfl,⟨l7,o7,r7,rfl,hl7,ho7,Wd⟩,gP⟩;have HCZ:Hd (∀W,aC w7 W->xC 31 #[.agg #[l7,o7,r7,Uj]] W (cu (xI 0) W)):=λW hb=>by
    have h:=EL y HZ.o _ W (λk hk=>Qde (J8.o k hk) (Qcg gP.size hb.size)) ((HG.o.ae bg.o.1).ae (((Fw.o.trans (gP.mono Fw.o.size)).trans (hb.mono (Qcg Fw.o.size gP.size))))) l7 o7 r7 (hl7.ae hb) (ho7.ae hb) (Wd.ae hb);rw[HZN.o]at h;exact h
   have mA:Hd (aC w2 w7):=Fw.o.trans (gP.mono Fw.o.size);have TD:=ag (And.intro hl7 (And.intro ho7 Wd));obtain⟨Ye,Yf,rfl,-⟩:=hl7.aq;obtain⟨Yg,Yh,rfl,-⟩:=ho7.aq;obtain⟨Yi,Yj,rfl,-⟩:=Wd.aq;clear hl7 ho7 Wd gP;go_upto_region 17 with fail;have⟨W8,hW8⟩:=bY (w7.alloc (cT (xL Ye y.aK.length Yf) (xL Yg y.aP.length Yh) (xL Yi y.aF.length Yj) Uj));have QE:=ag (show aC w7 W8 by rw[hW8];exact bU);have QP:=ag (show dk W8 w7 (cT (xL Ye y.aK.length Yf) (xL Yg y.aP.length Yh) (xL Yi y.aF.length Yj) Uj)by rw[hW8];exact Qbh w7 _);unfold cT at hW8;rw[<-hW8];clear hW8;have⟨a0,a1,a2,a3⟩:=af QP.o;have Ra:=ag (HCZ.o _ QE.o);go_wp2_with fail;go_at_call 31;refine Ra.o.mono ?_;rintro e w9⟨rfl,vu⟩;have CO:Hd (dk w9 w7 (cT (xL Ye y.aK.length Yf) (xL Yg y.aP.length Yh) (xL Yi y.aF.length Yj) Uj)):=(vu.block _ (Qaa.1 QP.o).1).trans QP.o;have Bg:Hd (aC w7 w9):=QE.o.trans (vu.mono QE.o.size);have ui:=ag ((bg.o.ae mA.o).ae Bg.o);clear a0 a1 a2 a3 vu;have⟨a0,a1,a2,a3⟩:=af CO.o;have⟨x0,x1,x2,x3⟩:=af (ui.o.cg rfl);have⟨g0,g1,g2,g3⟩:=hZ (ui.o.cg rfl);have pJ:Hd (∀W',W'=((((w9.setCell ([w],0) (xL Ye y.aK.length Yf)).setCell ([w],1) (xL Yg y.aP.length Yh)).setCell ([w],2) (xL Yi y.aF.length Yj)).setCell ([w],3) Uj)->(∃TW TX TY,Value.tuple #[.agg #[xL Ye y.aK.length Yf,xL Yg y.aP.length Yh,xL Yi y.aF.length Yj,Uj],xI (i:Int),xI 0]= .tuple #[.agg #[TW,TX,TY,Uj],xI (i:Int),xI 0]/\ab M W' TW y.aK/\ab M W' TX y.aP/\ab M W' TY y.aF)/\aC w W'):=λW' hW'=>by
    have ho:ao (λi=>i=[w]) w9 W':=by
     rw[hW'];exact((((ao.refl (λi=>i=[w]) w9).setCell (p:=⟨[w],0,none⟩) (.inl rfl) _).setCell (p:=⟨[w],1,none⟩) (.inl rfl) _).setCell (p:=⟨[w],2,none⟩) (.inl rfl) _).setCell (p:=⟨[w],3,none⟩) (.inl rfl) _
    have hE:Ev (iC M1 B b mo mr) w9 M W':=⟨ho.mono λk hk=> .inl (by rw[zz.o];exact .inr hk),λk hk=> .inl (.inl (by rw[zz.o];exact .inl hk))⟩;have⟨k1,k2,k3⟩:=TD.o;exact⟨⟨_,_,_,rfl,(k1.ae Bg.o).ev hE,(k2.ae Bg.o).ev hE,(k3.ae Bg.o).ev hE⟩,bq ui.o.1 ui.o.1.size ho (λk hk=>by have hk:k=[w]:=hk;omega)⟩
   go_wp2_with fail;exact Qae (v:= .tuple #[.agg #[xL Ye y.aK.length Yf,xL Yg y.aP.length Yh,xL Yi y.aF.length Yj,Uj],xI (i:Int),xI 0]) (by simp[results,results10,go_sem,x0,x1,x2,x3,g0,g1,g2,g3]) rfl ⟨_,rfl,by rw[HZN.o];exact pJ.o _ rfl⟩
def yt(n:Int):List PanicEntry:=[{v:= .iface 99 (.agg #[n]),recovered:=false}]
def tU(w:ax):xC 26 #[xI 0] w λe w'=>e=xR (.tuple #[])/\w'=w:=by
 go_enter func26,ntmps26;go_wp2_with fail;exact bodyPost_end (by simp[results,results26,go_sem]) rfl ⟨rfl,rfl⟩
def L5(n:Int)(hn:n≠0)(w:ax):xC 26 #[n] w λe w'=>e= .panicked (yt n)/\w'=w:=by
 unfold yt;go_enter func26,ntmps26;go_wp2_with fail;exact⟨rfl,rfl,rfl⟩
def qg(n:Int)(w:ax):xC 63 #[true,n] w λe w'=>e=xR (.tuple #[])/\w'=w:=by
 go_enter func63,ntmps63;go_wp2_with fail;exact bodyPost_end (by simp[results,results63,go_sem]) rfl ⟨rfl,rfl⟩
def AR(n:Int)(w:ax):xC 63 #[false,n] w λe w'=>e= .panicked (yt n)/\w'=w:=by
 unfold yt;go_enter func63,ntmps63;go_wp2_with fail;exact⟨rfl,rfl,rfl⟩
def gN {α:Type} [DecidableEq α](K:α->aA)(w:ax)(b:Nat)(S:List α):Prop:=∃es clk,fF K w b es clk/\(∀p∈es,p.2.1=xB true)/\∀n,n∈es.map (·.1)↔n∈S
section
variable {α:Type} [DecidableEq α]{K:α->aA}{w w':ax}{b:Nat}{S:List α}{kt mt:TypeId}
theorem gN.lt(h:gN K w b S):b<w:=by obtain⟨es,clk,h1,_⟩:=h;exact h1.lt
theorem gN.same(h:gN K w b S)(hb:w'.heap[b]? =w.heap[b]?):gN K w' b S:=by
 obtain⟨es,clk,h1,h2⟩:=h;exact⟨es,clk,h1.same _ hb,h2⟩
theorem gN.at_(h:bW w b (.map #[] 0)):gN K w b []:=⟨[],0,⟨h,by simp,by simp,by simp⟩,by simp,by simp⟩
theorem gN.look(h:gN K w b S)(hm:Tryz.prog.underlying mt=some (.map kt 4))(hF:mf K prog kt)(hchk:∀(e:Bool)(x:α)(w:ax),(Instr.checkKey e 10000 kt (K x)).run prog w= .ok () w)(n:α)(hn:n∈S):(Instr.lookup mt (.map (some b)) (K n) false).run prog w= .ok (.bool true) w:=by
 obtain⟨es,clk,h1,h2,h3⟩:=h;cases hv:bB es n with
 |none=>exact absurd ((h3 n).2 hn) (dR.1 hv)
 |some v=>
  have⟨p,hp,_,e⟩:=mT hv;rw[h2 p hp]at e;subst e;exact bP.xX K hm hF hchk h1.is_ n _ hv
theorem gN.RP(h:gN K w b S)(hm:Tryz.prog.underlying mt=some (.map kt 4))(hF:mf K prog kt)(hchk:∀(e:Bool)(x:α)(w:ax),(Instr.checkKey e 10000 kt (K x)).run prog w= .ok () w)(n:α)(hn:n∉S):(Instr.lookup mt (.map (some b)) (K n) false).run prog w= .ok (.bool false) w:=by
 obtain⟨es,clk,h1,h2,h3⟩:=h;have hz:(zeroValue 4).run prog w= .ok false w:=by kernel_rfl
 have hf:=hF n es w;have hv:bB es n=none:=dR.2 (λhh=>hn ((h3 n).1 hh));simp only[Instr.lookup,Sem.run_bind,run_underlying hm,Result.andThen_ok,MapKept.run_getObj_map h1.is_,Sem.run_pure,hchk];rw[hf];have h2:=eX n es;rw[hv]at h2;cases hq:es.findIdx? λp=>decide (n=p.1)with
 |some j=>rw[hq]at h2;cases h2
 |none=>simp[hz]
theorem gN.put(h:gN K w b S)(hm:Tryz.prog.underlying mt=some (.map kt 4))(hF:mf K prog kt)(hchk:∀(e:Bool)(x:α)(w:ax),(Instr.checkKey e 10000 kt (K x)).run prog w= .ok () w)(hst:∀x w,(Instr.keyThatStays (K x) (K x)).run prog w= .ok (K x) w)(n:α):∃w',(Instr.mapUpdate mt (.map (some b)) (K n) (.bool true)).run prog w= .ok () w'/\gN K w' b (S++[n])/\ao (λi=>i=b) w w':=by
 obtain⟨es,clk,h1,h2,h3⟩:=h;have⟨w',es',clk',k1,k2,k3,_,k5⟩:=fF.put (K:=K) (P:=prog) hm hF hchk hst h1 n true;refine⟨w',k1,⟨es',clk',k2,λp hp=> ?_,λq=> ?_⟩,k5⟩
 .have e:=mS k2.keys hp;rw[k3]at e;by_cases Vy:p.1=n
  .rw[if_pos Vy]at e;exact(Option.some.inj e).symm
  .rw[if_neg Vy]at e;have⟨q,hq,_,e2⟩:=mT e;rw[<-e2];exact h2 q hq
 .have e:=k3 q;rw[Qch,Qea,<-h3 q];by_cases V8:q=n
  .rw[if_pos V8]at e;refine⟨λ_=> .inr V8,λ_=> ?_⟩;refine Classical.byContradiction λhh=> ?_;rw[dR.2 hh]at e;cases e
  .rw[if_neg V8]at e;refine⟨λhh=> .inl (Classical.byContradiction λhn=> ?_),λhh=>Classical.byContradiction λhn=> ?_⟩
   .rw[dR.2 hn]at e;exact dR.1 e hh
   .rw[dR.2 hn]at e;rcases hh with hh|hh
    .exact dR.1 e.symm hh
    .exact V8 hh
end
instance:aD aY where
 size:=1
 rep:=λ_ _ cs x=>cs=[xS x]
 len:=λh=>by rw[h];rfl
 flat:=λh u hu=>by rw[h]at hu;simp at hu;subst hu;rfl
 ev:=λh _=>h
structure oh where
 jR:List aQ
 next:Int
 reach:List Int
 news:Int
 made:Int
 aP:List bF
 aF:List bj
 defs:List ec
 reads:List aY
structure qH where
 T:Nat
 rb:Nat
 mo:Nat
 ml:Nat
 mr:Nat
 ms:Nat
 sb:Nat
 ov:aA
 rv:aA
def qhe(p:qH)(sv:aA)(next news made:Int)(dv kv:aA):Obj:=xK #[sv,p.ov,p.rv,next, .map (some p.rb),news,made, .map (some p.mo), .map (some p.ml), .map (some p.mr), .map (some p.ms),dv,kv, .map (some p.sb)] 117
def kS(p:qH):Nat->Prop:=λi=>i=p.T\/i=p.rb\/i=p.mo\/i=p.ml\/i=p.mr\/i=p.ms\/i=p.sb
def yR(p:qH)(z:Nat):Nat->Prop:=λi=>kS p i\/z<=i
def nh(M:aV)(p:qH):Nat->Prop:=λi=>M i\/kS p i
structure FE(M:aV)(z:Nat)(p:qH):Prop where
 lt:∀i,kS p i->i<z
 far:∀i,M i->i<z
 apart:[p.T,p.rb,p.mo,p.ml,p.mr,p.ms,p.sb].Nodup
def Ca(M:aV)(W:ax)(v:aA)(l:List ec):Prop:=ab M W v l/\(l=[]->v=())
theorem Ca.ev {l:List ec}(h:Ca M W v l)(e:Ev M W M' W'):Ca M' W' v l:=⟨h.1.ev e,h.2⟩
theorem Ca.ae {l:List ec}(h:Ca M W v l)(e:aC W W'):Ca M W' v l:=⟨h.1.ae e,h.2⟩
structure kT(x:oh)(M:aV)(z:Nat)(p:qH)(W:ax):Prop where
 st:∃sv dv kv,W.heap[p.T]? =some (qhe p sv x.next x.news x.made dv kv)/\ab (bu kv (nh M p)) W sv x.jR/\Ca (bu kv (nh M p)) W dv x.defs/\aS (nh M p) z 9 W kv x.reads/\fV (bu kv (nh M p)) W p.mo x.aP
 reach:gN dO W p.rb x.reach
 aF:iq W p.mr x.aF
 snaps:W.heap[p.ms]? =some (.map #[] 0)
 seen:gN fw W p.sb x.reads
 low:z<=W
def dJ {p:qH}{dv kv:aA}{next news made:Int}(h:bW W p.T (qhe p sv next news made dv kv)):bJ W p.T 0 sv/\bJ W p.T 3 next/\bJ W p.T 4 (.map (some p.rb))/\bJ W p.T 5 news/\bJ W p.T 6 made/\bJ W p.T 7 (.map (some p.mo))/\bJ W p.T 9 (.map (some p.mr))/\bJ W p.T 10 (.map (some p.ms))/\bJ W p.T 11 dv/\bJ W p.T 12 kv/\bJ W p.T 13 (.map (some p.sb)):=by
 unfold qhe at h;simp[World.cell?,h]
def Vh {p:qH}{dv kv kv':aA}{next news made:Int}(h:bW W p.T (qhe p sv next news made dv kv)):(W.setCell (p.T,12) kv').heap[p.T]? =some (qhe p sv next news made dv kv'):=by
 have:=Qca W p.T 12 _ _ kv' h;simpa [qhe]using this
theorem kT.ae {x:oh}{z:Nat}{p:qH}(h:kT x M z p W)(hb:aC W W'):kT x M z p W':=by
 have⟨sv,dv,kv,h1,h2,h3,h4,h5⟩:=h.st;exact⟨⟨sv,dv,kv,(hb.block _ (Qaa.1 h1).1).trans h1,h2.ae hb,h3.ae hb,h4.ae hb,h5.ae hb⟩,h.reach.same (hb.block _ h.reach.lt),h.aF.ae hb,(hb.block _ (Qaa.1 h.snaps).1).trans h.snaps,h.seen.same (hb.block _ h.seen.lt),Qcg h.low hb.size⟩
def L6 {w:ax}{b:Nat}{S:List aY}(h:gN fw w b S)(n:aY)(hn:n∈S):(Instr.lookup 115 (.map (some b)) (.string n) false).run prog w= .ok (.bool true) w:=h.look underlying115 qb jT n hn
def L7 {w:ax}{b:Nat}{S:List aY}(h:gN fw w b S)(n:aY)(hn:n∉S):(Instr.lookup 115 (.map (some b)) (.string n) false).run prog w= .ok (.bool false) w:=h.RP underlying115 qb jT n hn
def Pr {w:ax}{b:Nat}{S:List aY}(h:gN fw w b S)(n:aY):∃w',(Instr.mapUpdate 115 (.map (some b)) (.string n) (.bool true)).run prog w= .ok () w'/\gN fw w' b (S++[n])/\ao (λi=>i=b) w w':=h.put underlying115 qb jT AJ n
def Im {w:ax}{b:Nat}{S:List Int}(h:gN dO w b S)(n:Int)(hn:n∉S):(Instr.lookup 96 (.map (some b)) (.int .i64 n) false).run prog w= .ok (.bool false) w:=h.RP underlying96 eo eO n hn
def L8 {w:ax}{b:Nat}{S:List Int}(h:gN dO w b S)(n:Int):∃w',(Instr.mapUpdate 96 (.map (some b)) (.int .i64 n) (.bool true)).run prog w= .ok () w'/\gN dO w' b (S++[n])/\ao (λi=>i=b) w w':=h.put underlying96 eo eO AI n
def Ps:(Tryz.prog.info? 9).map (λi=>(i.zero,i.size,i.bytes))=some (some (xS ()),1,16):=by kernel_rfl
def oh.tV(x:oh)(k:aY)(x':oh):Prop:=(k∈x.reads/\x'=x)\/(k∉x.reads/\x'={x with reads:=x.reads++[k]})
theorem FE.ne {M:aV}{z:Nat}{p:qH}(h:FE M z p):(p.T≠p.rb/\p.T≠p.mo/\p.T≠p.ml/\p.T≠p.mr/\p.T≠p.ms/\p.T≠p.sb)/\(p.rb≠p.mo/\p.rb≠p.mr/\p.rb≠p.ms/\p.rb≠p.sb)/\(p.mo≠p.mr/\p.mo≠p.ms/\p.mo≠p.sb)/\(p.mr≠p.ms/\p.mr≠p.sb)/\p.ms≠p.sb:=by
 have h1:=h.apart;simp only[List.nodup_cons,Qdf,List.not_mem_nil,or_false,not_or,List.nodup_nil,and_true,not_false_eq_true]at h1;obtain⟨⟨a1,a2,a3,a4,a5,a6⟩,⟨b2,b3,b4,b5,b6⟩,⟨c3,c4,c5,c6⟩,⟨d4,d5,d6⟩,⟨e5,e6⟩,f6⟩:=h1;exact⟨⟨a1,a2,a3,a4,a5,a6⟩,⟨b2,b4,b5,b6⟩,⟨c4,c5,c6⟩,⟨e5,e6⟩,f6⟩
section
variable {x:oh}{M:aV}{z:Nat}{p:qH}{W W1 w6:ax}{sv dv kv kv':aA}{k:aY}{o:Obj}
theorem kT.Y4(h:kT x M z p W)(ha:FE M z p)(h1:bW W p.T (qhe p sv x.next x.news x.made dv kv))(h2:ab (bu kv (nh M p)) W sv x.jR)(h3:Ca (bu kv (nh M p)) W dv x.defs)(h5:fV (bu kv (nh M p)) W p.mo x.aP)
 (o1:ao (λi=>i=p.sb) W W1)(s1:gN fw W1 p.sb (x.reads++[k]))(a6:aS (nh M p) z 9 w6 kv' (x.reads++[k]))(e6:Ev (bu kv (nh M p)) (W1.alloc o) (bu kv' (nh M p)) w6)(b6:Below z (W1.alloc o) w6):
 kT {x with reads:=x.reads++[k]} M z p (w6.setCell (p.T,12) kv')/\ao (yR p z) W (w6.setCell (p.T,12) kv'):=by
 have⟨⟨n1,n2,n3,n4,n5,n6⟩,⟨n7,n8,n9,n10⟩,⟨n11,n12,n13⟩,⟨n14,n15⟩,n16⟩:=ha.ne;have hT:=ha.lt p.T (.inl rfl);have hzW:=h.low;have hs1:=o1.size;have hb:∀i,i<z->i≠p.sb->w6.heap[i]? =W.heap[i]? :=λi hi hne=>(b6.block i hi).trans ((Qcb W1 o i (by omega)).trans (o1.block i (by omega) hne));have hsb:w6.heap[p.sb]? =W1.heap[p.sb]? :=(b6.block _ (ha.lt _ (by unfold kS;simp))).trans (Qcb W1 o _ (by have:=ha.lt p.sb (by unfold kS;simp);omega));have o7:ao (λi=>i=p.T) w6 (w6.setCell (p.T,12) kv'):=(ao.refl (λi=>i=p.T) w6).setCell (.inl rfl) _;have jn:z<=w6:=by have:=b6.size;simp at this;omega
 have Ki:∀i,kS p i->i≠p.sb->i≠p.T->(w6.setCell (p.T,12) kv').heap[i]? =W.heap[i]? :=λi hi n1 n2=>(o7.block i (by have:=ha.lt i hi;omega) n2).trans (hb i (ha.lt i hi) n1);have hcell:=Vh (kv':=kv') ((hb p.T hT n6).trans h1);have E1:Ev (bu kv (nh M p)) W (bu kv (nh M p)) (W1.alloc o):=⟨(o1.mono λi hi=> .inl (.inr (.inr (.inr (.inr (.inr (.inr (.inr hi)))))))).trans (ao.az bU),λi hi=> .inl hi⟩;have E7:Ev (bu kv' (nh M p)) w6 (bu kv' (nh M p)) (w6.setCell (p.T,12) kv'):=⟨o7.mono λi hi=> .inl (.inr (.inl hi)),λi hi=> .inl hi⟩;have E:=(E1.trans e6).trans E7;have a7:=a6.pA o7 (λi hi=> .inr (.inl hi)) (λg hg he=>by have h1:=(a6.cG g hg).1;have h2:g=p.T:=he;omega);refine⟨⟨⟨sv,dv,kv',hcell,h2.ev E,h3.ev E,a7,h5.ev E (Ki _ (by unfold kS;simp) n13 (λe=>n2 e.symm))⟩,h.reach.same (Ki _ (by unfold kS;simp) n10 (λe=>n1 e.symm)),h.aF.ev (Ki _ (by unfold kS;simp) n15 (λe=>n4 e.symm)),(Ki _ (by unfold kS;simp) n16 (λe=>n5 e.symm)).trans h.snaps,s1.same ((o7.block _ (by have:=ha.lt p.sb (by unfold kS;simp);omega) (λe=>n6 e.symm)).trans hsb),Qcg jn o7.size⟩,?_⟩;refine⟨o7.os.trans (b6.os.trans (o1.os)),o7.tape.trans (b6.tape.trans o1.tape),o7.output.trans (b6.output.trans o1.output),by have:=b6.size;have:=o7.size;simp at*;omega,λi hi hn=> ?_⟩;have QU:i<z:=Classical.byContradiction λhh=>hn (.inr (by omega));have ZD:¬kS p i:=λhh=>hn (.inl hh);exact(o7.block i (by omega) (λe=>ZD (.inl e))).trans (hb i QU (λe=>ZD (.inr (.inr (.inr (.inr (.inr (.inr e))))))))
end
def JP(x:oh)(M:aV)(z:Nat)(p:qH)(ha:FE M z p)(W:ax)(h:kT x M z p W)(k:aY)(b off c:Nat)(hc:bJ W b off k)(hl:x.reads.length<=1000):
 xC 73 #[xP p.T,xL (b,off) 1 c] W λe w'=>e=xR (.tuple #[])/\(∃x',x.tV k x'/\kT x' M z p w')/\ao (yR p z) W w':=by
 have⟨i0,hi0,hz0,hz1,hz2⟩:=info_parts Ps;have HH:=ag h;have HA:=ag ha;have HC:=ag hc;go_enter func73,ntmps73;go_wp2;go_loopg [5,8]1(λgg _ iv wr=>∃i:Nat,gg=1-i/\i<=1/\iv=xI i/\Hd ((i=0/\wr=W)\/(i=1/\(∃x',x.tV k x'/\kT x' M z p wr)/\ao (yR p z) W wr)));case atStart=>exact⟨0,rfl,by omega,rfl,ag (.inl ⟨rfl,rfl⟩)⟩
 case round=>
  obtain⟨i,rfl,hi,rfl,HS⟩:=hrel;rename World=>wr;by_cases bH:i<1
  .obtain rfl:i=0:=by omega
   obtain rfl:wr=W:=by
    rcases HS.o with⟨_,e⟩|⟨e,_⟩
    .exact e
    .cases e
   have⟨sv,dv,kv,h1,h2,h3,h4,h5⟩:=HH.o.st;obtain⟨-,-,-,-,-,-,-,-,-,-,c13⟩:=dJ h1;have hc0:=HC.o;by_cases hk:k∈x.reads
   .have pM:=L6 HH.o.seen k hk;have HK:Hd (x.tV k x):= .inl ⟨hk,rfl⟩;go_wp2;go_roundg 0;case measure=>omega
    case rel=>exact⟨1,rfl,by omega,by go_num,ag (.inr ⟨rfl,⟨x,HK.o,HH.o⟩,ao.refl _ _⟩)⟩
   .have pM:=L7 HH.o.seen k hk;have HK:Hd (x.tV k {x with reads:=x.reads++[k]}):= .inr ⟨hk,rfl⟩;have⟨W1,hput,hs1,ho1⟩:=Pr HH.o.seen k;obtain⟨ka,kc,rfl,_,_⟩:=h4.aq;have hne:=HA.o.ne;have hs:=ho1.size;have ha1:aS (nh M p) z 9 W1 (xL ka x.reads.length kc) x.reads:=h4.pA ho1 (λi hi=> .inr (.inr (.inr (.inr (.inr (.inr (.inr hi))))))) (λg hg he=>by have h1:=(h4.cG g hg).1;have h2:g=p.sb:=he;have:=HA.o.lt p.sb (by unfold kS;simp);omega);have hT1:bW W1 p.T (qhe p sv x.next x.news x.made dv (xL ka x.reads.length kc)):=(ho1.block _ (Qaa.1 h1).1 hne.1.2.2.2.2.2).trans h1;obtain⟨-,-,-,-,-,-,-,-,-,d12,d13⟩:=dJ hT1;have Q6:=ag (show z<=W1 by have:=HH.o.low;omega);have H1:=ag h1;have H2:=ag h2;have H3:=ag h3;have H4:=ag h4;have H5:=ag h5;have qL:=ag hs1;have q9:=ag ho1;have Cn:=ag ha1;have Qx:=ag hT1;go_wp2_with(at_builtin;refine bo (α:=aY) rfl _ _ _ rfl (nh M p) z 9 i0 _ 16 underlying54 hi0 hz0 hz1 hz2 rfl (by decide) (.slice ka x.reads.length kc) x.reads rfl (Cn.o.alloc _) (λ_=>True) _ [.string k] k rfl (fN _ _ #[.string k] _ 1 rfl rfl trivial) (show _=_ from rfl) (by unfold maxLen;omega) (by omega) (by have:=Q6.o;simp;omega) ?_;intro a2 c2 w6 bD dK jn;have ML:=ag (HH.o.Y4 HA.o H1.o H2.o H3.o H5.o q9.o qL.o bD dK jn);have gP:=(jn.block p.T (HA.o.lt _ (.inl rfl))).trans ((Qcb W1 _ p.T (by have:=Q6.o;have:=HA.o.lt p.T (.inl rfl);omega)).trans Qx.o);have s6:=(dJ gP).2.2.2.2.2.2.2.2.2.1;have f6:=aj gP 12;clear bD dK jn gP);go_roundg 0;case measure=>omega
    case rel=>exact⟨1,rfl,by omega,by go_num,ag (.inr ⟨rfl,⟨_,HK.o,ML.o.1⟩,ML.o.2⟩)⟩
  .obtain rfl:i=1:=by omega
   go_wp2_with fail;rcases HS.o with⟨e,_⟩|⟨_,h1,h2⟩
   .cases e
   .exact bodyPost_end (results_none rfl _ _ _) rfl ⟨rfl,h1,h2⟩
def AS(x:oh)(M:aV)(z:Nat)(p:qH)(W:ax)(h:kT x M z p W)(n:Int)(hn:n∉x.reach):xC 143 #[xP p.T,n] W λe w'=>e=xR false/\w'=W:=by
 have pM:=Im h.reach n hn;obtain⟨sv,dv,kv,h1,-⟩:=h.st;obtain⟨-,-,c4,-⟩:=dJ h1;clear h1 h hn;go_enter func143,ntmps143;go_wp2;go_ret;exact⟨rfl,rfl⟩
def numberT_ok(x:oh)(M:aV)(z:Nat)(p:qH)(W:ax)(h:kT x M z p W)(n:Int)(hn: -1000<=n/\n<=1000000)(hx:0<=x.next/\x.next<=1000000):xC 142 #[xP p.T,n] W λe w'=>e=xR (xI (if n<0 then x.next-n-1 else n))/\w'=W:=by
 obtain⟨sv,dv,kv,h1,-⟩:=h.st;obtain⟨-,c3,-⟩:=dJ h1;clear h1 h;generalize x.next=nx at*;obtain⟨g1,g2⟩:=hn;obtain⟨g3,g4⟩:=hx;by_cases bH:n<0
 .rw[if_pos bH];go_enter func142,ntmps142;go_wp2;go_ret;refine⟨?_,rfl⟩;first|rfl|(rw[Qbe _ (by omega),Qbe _ (by omega)])|trace_state
 .rw[if_neg bH];go_enter func142,ntmps142;go_wp2;go_ret;exact⟨rfl,rfl⟩
def gW(k:Int):Int:=if k=3 then 1 else if k=4 then 2 else if k=1 then 3 else if k=2 then 4 else 5
def JQ(k:Int)(hk:1<=k/\k<=5)(w:ax):xC 80 #[k] w λe w'=>e=xR (gW k)/\w'=w:=by
 have h:k=1\/k=2\/k=3\/k=4\/k=5:=by omega
 clear hk;rcases h with rfl|rfl|rfl|rfl|rfl;all_goals
  go_enter func80,ntmps80;go_wp2;go_ret;exact⟨rfl,rfl⟩
def L9(x:oh)(M:aV)(z:Nat)(p:qH)(W:ax)(h:kT x M z p W)(id:Int)(hr:id∉x.reach):
 xC 71 #[xP p.T,yr 7 id () () () () ()] W λe w'=>e= .panicked (yt 101)/\aC W w':=by
 have HF:Hd (∀V,aC W V->_):=λV hb=>AS x M z p V (h.ae hb) id hr;have HU:=ag (AR 101);have HX:=ag (Bx.eI W (gU 7 id () () () () ()));clear h hr;go_enter func71,ntmps71;go_upto_region 1 with fail;have⟨W1,hW1⟩:=bY (W.alloc (gU 7 id () () () () ()));rw[<-hW1]at HX;unfold gU at hW1;rw[<-hW1];clear hW1;have a1:=(bM (HX.o.bO rfl)).c1;have nj:=ag (show W.heap.size<W1 by have:=HX.o.bQ;simp at this;omega);clear a1;refine' lu 6 ?hl ?hm ?hB1 ?hB ?hh;case hl=>exact rfl
 case hm=>kernel_rfl
 case hB1=>kernel_rfl
 case hB=>kernel_rfl
 intro ι _ F jM yW;have s0:=λi=>(bM (((jM i).block _ nj.o).trans (HX.o.bO rfl))).c1;have jq:=ag jM;have yL:=ag yW;clear jM yW;simp only[List.take_succ_cons,List.take_zero,Act.put,List.setIfInBounds_toArray,List.set_cons_zero,List.set_cons_succ];repeat(go_big_quiet_step(first
  |(go_at_call 143;refine(HF.o _ (HX.o.1.trans ((jq.o _).mono HX.o.1.size))).mono ?_;rintro e w3⟨rfl,rfl⟩;exact⟨rfl,yL.o _ (jq.o _)⟩)))
 refine wpQuiet_nil ?_;rintro _⟨nq,rfl⟩;have HBn:Hd (aC W (F nq)):=HX.o.1.trans ((jq.o nq).mono HX.o.1.size);clear s0;go_simp;go_at_call 63;refine(HU.o _).mono ?_;rintro e w3⟨rfl,rfl⟩;exact⟨rfl,rfl,HBn.o⟩
end
section
open Go.RowKit Go.Shelf Go.Lib
open Go.Sort (SWO grow alloc_eq_grow grow_grow)
def EP:Go.Shelf.Ren:=⟨λ|6=>77|15=>131|14=>147|28=>196|29=>197|20=>205|21=>206|22=>207|23=>208|24=>209|25=>210|26=>211|27=>212|46=>258|47=>249|48=>250|49=>259|50=>260|57=>284|n=>n,λ|22=>55|24=>75|25=>166|3=>3|39=>216|0=>0|53=>279|55=>281|4=>4|46=>272|45=>271|50=>63|5=>5|9=>9|66=>329|70=>333|76=>366|77=>367|n=>n,λ|n=>n⟩
def Sa:Go.Proofs.SlLaysF0.n6 prog EP:={
 mixed:=by kernel_rfl
 f6:=⟨Tryz.f77.name,by decide,Tryz.func77.trans (by kernel_rfl)⟩
 f14:=⟨Tryz.f147.name,by decide,Tryz.func147.trans (by kernel_rfl)⟩
 f15:=Tryz.func131.trans (by kernel_rfl)
 f20:=⟨Tryz.f205.name,by decide,Tryz.func205.trans (by kernel_rfl)⟩
 f21:=⟨Tryz.f206.name,by decide,Tryz.func206.trans (by kernel_rfl)⟩
 f22:=⟨Tryz.f207.name,by decide,Tryz.func207.trans (by kernel_rfl)⟩
 f23:=⟨Tryz.f208.name,by decide,Tryz.func208.trans (by kernel_rfl)⟩
 f24:=⟨Tryz.f209.name,by decide,Tryz.func209.trans (by kernel_rfl)⟩
 f25:=⟨Tryz.f210.name,by decide,Tryz.func210.trans (by kernel_rfl)⟩
 f26:=⟨Tryz.f211.name,by decide,Tryz.func211.trans (by kernel_rfl)⟩
 f27:=⟨Tryz.f212.name,by decide,Tryz.func212.trans (by kernel_rfl)⟩
 f28:=Tryz.func196.trans (by kernel_rfl)
 f29:=Tryz.func197.trans (by kernel_rfl)
 f46:=⟨Tryz.f258.name,by decide,Tryz.func258.trans (by kernel_rfl)⟩
 f47:=Tryz.func249.trans (by kernel_rfl)
 f48:=Tryz.func250.trans (by kernel_rfl)
 f49:=⟨Tryz.f259.name,by decide,Tryz.func259.trans (by kernel_rfl)⟩
 f50:=⟨Tryz.f260.name,by decide,Tryz.func260.trans (by kernel_rfl)⟩
 f57:=⟨Tryz.f284.name,by decide,Tryz.func284.trans (by kernel_rfl)⟩
 t0:=underlying0
 a0:=isAgg0
 z0:=sizeOf0
 v0:=zeroValue0
 t3:=underlying3
 a3:=isAgg3
 z3:=sizeOf3
 v3:=zeroValue3
 t4:=underlying4
 a4:=isAgg4
 z4:=sizeOf4
 v4:=zeroValue4
 t5:=underlying5
 a5:=isAgg5
 z5:=sizeOf5
 v5:=zeroValue5
 t9:=underlying9
 a9:=isAgg9
 z9:=sizeOf9
 v9:=zeroValue9
 t22:=underlying55
 a22:=isAgg55
 z22:=sizeOf55
 v22:=zeroValue55
 t25:=underlying166
 a25:=isAgg166
 z25:=sizeOf166
 v25:=zeroValue166
 t39:=underlying216
 a39:=isAgg216
 z39:=sizeOf216
 v39:=zeroValue216
 t45:=underlying271
 a45:=isAgg271
 z45:=sizeOf271
 v45:=zeroValue271
 t46:=underlying272
 a46:=isAgg272
 z46:=sizeOf272
 v46:=zeroValue272
 t50:=underlying63
 a50:=isAgg63
 z50:=sizeOf63
 v50:=zeroValue63
 t53:=underlying279
 a53:=isAgg279
 z53:=sizeOf279
 v53:=zeroValue279
 t55:=underlying281
 a55:=isAgg281
 z55:=sizeOf281
 v55:=zeroValue281
 t66:=underlying329
 a66:=isAgg329
 z66:=sizeOf329
 v66:=zeroValue329
 t70:=underlying333
 a70:=isAgg333
 z70:=sizeOf333
 v70:=zeroValue333
 t76:=underlying366
 a76:=isAgg366
 z76:=sizeOf366
 v76:=zeroValue366
 t77:=underlying367
 a77:=isAgg367
 z77:=sizeOf367
 v77:=zeroValue367}
abbrev lA:={r:ec//1<=r.an/\r.an<=3}
instance:aD lA where
 size:=18
 rep:=λM w cs x=>aD.rep M w cs x.1
 len:=λh=>aD.len (α:=ec) h
 flat:=λh=>aD.flat (α:=ec) h
 ev:=λh k=>aD.ev (α:=ec) h k
def tW(r:ec):Int×Int×Int×aY:=if r.an=1 then(3,r.kD.id,0,())else if r.an=2 then(4,0,0,r.ai)else(1,r.id,r.cQ,())
def zu(a b:Int×Int×Int×aY):Bool:=decide (a.1<b.1)||(decide (a.1=b.1)&&(decide (a.2.1<b.2.1)||(decide (a.2.1=b.2.1)&&(decide (a.2.2.1<b.2.2.1)||(decide (a.2.2.1=b.2.2.1)&&eP a.2.2.2 b.2.2.2)))))
def Vi(a b:ec):Int:=if Lib.compareInt (gW a.an) (gW b.an)≠0 then Lib.compareInt (gW a.an) (gW b.an)else if a.an=1 then Lib.compareInt a.kD.id b.kD.id else if a.an=2 then pr a.ai b.ai else if Lib.compareInt a.id b.id≠0 then Lib.compareInt a.id b.id else Lib.compareInt a.cQ b.cQ
def Vj {x y:Int}:Lib.compareInt x y=0↔x=y:=by
 unfold Lib.compareInt;by_cases h1:x<y
 .simp[h1];omega
 .by_cases h2:y<x
  .simp[h1,h2];omega
  .simp[h1,h2];omega
def Pt {x y:Int}:Lib.compareInt x y<0↔x<y:=by
 have:=ltInt x y;simpa using this
def Pu {k:Int}(h:1<=k/\k<=3):k=1\/k=2\/k=3:=by omega
def pD(a b:ec)(ha:1<=a.an/\a.an<=3)(hb:1<=b.an/\b.an<=3):decide (Vi a b<0)=zu (tW a) (tW b):=by
 have c1:gW 1=3:=rfl;have c2:gW 2=4:=rfl;have c3:gW 3=1:=rfl;have e:∀r:Int,Lib.compareInt r r=0:=λr=>Vj.2 rfl;rcases Pu ha with h|h|h<;>rcases Pu hb with k|k|k;all_goals
  unfold Vi tW zu;rw[h,k];simp only[c1,c2,c3,e]
 .simp[Pt,cZ]
 .simp[Lib.compareInt]
 .simp[Lib.compareInt]
 .simp[Lib.compareInt]
 .simpa using Pj a.ai b.ai
 .simp[Lib.compareInt]
 .simp[Lib.compareInt]
 .simp[Lib.compareInt]
 .by_cases hq:a.id=b.id
  .simp[hq,Vj,Pt,e,cZ]
  .have:Lib.compareInt a.id b.id≠0:=λhh=>hq (Vj.1 hh);simp[this,hq,Pt]
def Io(a:Int×Int×Int×aY):zu a a=false:=by simp[zu,cZ]
def qh {a b:Int×Int×Int×aY}:zu a b=true↔a.1<b.1\/(a.1=b.1/\(a.2.1<b.2.1\/(a.2.1=b.2.1/\(a.2.2.1<b.2.2.1\/(a.2.2.1=b.2.2.1/\eP a.2.2.2 b.2.2.2=true))))):=by simp[zu]
def Ma {a b c:Int×Int×Int×aY}(h:zu a b=true)(k:zu b c=true):zu a c=true:=by
 rw[qh]at*;rcases h with h|⟨h0,h|⟨h1,h|⟨h2,h⟩⟩⟩<;>rcases k with k|⟨k0,k|⟨k1,k|⟨k2,k⟩⟩⟩;all_goals first
  |(left;omega)
  |(refine .inr ⟨by omega, .inl (by omega)⟩)
  |(refine .inr ⟨by omega, .inr ⟨by omega, .inl (by omega)⟩⟩)
  |(refine .inr ⟨by omega, .inr ⟨by omega, .inr ⟨by omega,gy h k⟩⟩⟩)
def Ip {a b c:Int×Int×Int×aY}(h:zu a b=false)(k:zu b c=false):zu a c=false:=by
 have h':¬(zu a b=true):=by simp[h]
 have k':¬(zu b c=true):=by simp[k]
 rw[qh]at h' k';cases hq:zu a c with
 |false=>rfl
 |true=>
  rw[qh]at hq;exfalso;rcases hq with q|⟨q0,q|⟨q1,q|⟨q2,q⟩⟩⟩
  .have h1:¬a.1<b.1:=λe=>h' (.inl e);have k1:¬b.1<c.1:=λe=>k' (.inl e);omega
  .have h1:¬a.1<b.1:=λe=>h' (.inl e);have k1:¬b.1<c.1:=λe=>k' (.inl e);have h2:¬a.2.1<b.2.1:=λe=>h' (.inr ⟨by omega, .inl e⟩);have k2:¬b.2.1<c.2.1:=λe=>k' (.inr ⟨by omega, .inl e⟩);omega
  .have h1:¬a.1<b.1:=λe=>h' (.inl e);have k1:¬b.1<c.1:=λe=>k' (.inl e);have h2:¬a.2.1<b.2.1:=λe=>h' (.inr ⟨by omega, .inl e⟩);have k2:¬b.2.1<c.2.1:=λe=>k' (.inr ⟨by omega, .inl e⟩);have h3:¬a.2.2.1<b.2.2.1:=λe=>h' (.inr ⟨by omega, .inr ⟨by omega, .inl e⟩⟩);have k3:¬b.2.2.1<c.2.2.1:=λe=>k' (.inr ⟨by omega, .inr ⟨by omega, .inl e⟩⟩);omega
  .have h1:¬a.1<b.1:=λe=>h' (.inl e);have k1:¬b.1<c.1:=λe=>k' (.inl e);have h2:¬a.2.1<b.2.1:=λe=>h' (.inr ⟨by omega, .inl e⟩);have k2:¬b.2.1<c.2.1:=λe=>k' (.inr ⟨by omega, .inl e⟩);have h3:¬a.2.2.1<b.2.2.1:=λe=>h' (.inr ⟨by omega, .inr ⟨by omega, .inl e⟩⟩);have k3:¬b.2.2.1<c.2.2.1:=λe=>k' (.inr ⟨by omega, .inr ⟨by omega, .inl e⟩⟩);have h4:eP a.2.2.2 b.2.2.2=false:=by
    cases hh:eP a.2.2.2 b.2.2.2 with
    |false=>rfl
    |true=>exact absurd (.inr ⟨by omega, .inr ⟨by omega, .inr ⟨by omega,hh⟩⟩⟩) h'
   have k4:eP b.2.2.2 c.2.2.2=false:=by
    cases hh:eP b.2.2.2 c.2.2.2 with
    |false=>rfl
    |true=>exact absurd (.inr ⟨by omega, .inr ⟨by omega, .inr ⟨by omega,hh⟩⟩⟩) k'
   have:=uV h4 k4;rw[q]at this;cases this
theorem JR {β κ:Type}(f:β->κ)(lt:κ->κ->Bool):∀{l m:List β},l.Perm m->l.Pairwise (λa b=>lt (f b) (f a)=false)->m.Pairwise (λa b=>lt (f a) (f b)=true)->l=m
 |[],m,h,_,_=>by rw[List.nil_perm.1 h]
 |a::l,[],h,_,_=>by have:=h.length_eq;simp at this
 |a::l,b::m,h,h1,h2=>by
  rw[List.pairwise_cons]at h1 h2;have ha:a∈b::m:=h.mem_iff.1 List.mem_cons_self;have hb:b∈a::l:=h.mem_iff.2 List.mem_cons_self;have e:a=b:=by
   rcases Qdf.1 ha with e|ha
   .exact e
   .rcases Qdf.1 hb with e|hb
    .exact e.symm
    .have k1:=h1.1 b hb;have k2:=h2.1 a ha;rw[k1]at k2;cases k2
  subst e;rw[JR f lt (List.perm_cons a|>.1 h) h1.2 h2.2]
abbrev RC:={t:ec×(Option Addr×Nat×Nat)×(Option Addr×Nat×Nat)//1<=t.1.an/\t.1.an<=3}
instance:Inhabited RC:=⟨⟨(⟨1,⟨0,0,0,[]⟩,0,0,(),⟨⟨#[]⟩,[]⟩,⟨0,(),(),(),⟨0,0⟩,(),()⟩⟩,(none,0,0),(none,0,0)),by decide⟩⟩
def Y5:DN lA RC (Int×Int×Int×aY)where
 enc b:=vE b.1.1 (xL b.1.2.1.1 b.1.2.1.2.1 b.1.2.1.2.2) (xL b.1.2.2.1 b.1.2.2.2.1 b.1.2.2.2.2)
 key b:=tW b.1.1
 keyA x:=tW x.1
 len _:=rfl
 one b v hv:=by simp at hv;rcases hv with rfl|rfl|rfl|rfl|rfl|rfl|rfl|rfl|rfl|rfl|rfl|rfl|rfl|rfl|rfl|rfl|rfl|rfl<;>rfl
 dec {M w cs x}:=λ⟨vv,fv,h,h1,h2,_⟩=>by
  obtain⟨a,c,rfl,_⟩:=h1.aq;obtain⟨a2,c2,rfl,_⟩:=h2.aq;exact⟨⟨(x.1,(a,_,c),(a2,_,c2)),x.2⟩,h.symm,rfl⟩
def Y6:SWO (ltOf λx y:RC=>Vi x.1.1 y.1.1)where
 irrefl x:=by unfold ltOf;rw[pD _ _ x.2 x.2];exact Io _
 trans x y z h1 h2:=by unfold ltOf at*;rw[pD _ _ x.2 y.2]at h1;rw[pD _ _ y.2 z.2]at h2;rw[pD _ _ x.2 z.2];exact Ma h1 h2
 ntrans x y z h1 h2:=by unfold ltOf at*;rw[pD _ _ x.2 y.2]at h1;rw[pD _ _ y.2 z.2]at h2;rw[pD _ _ x.2 z.2];exact Ip h1 h2
def qck(a b:ec)(ha:1<=a.an/\a.an<=3)(hb:1<=b.an/\b.an<=3)(va fa vb fb:aA)(hva:∃p n c,va=xL p n c)(Q7:∃p n c,fa=xL p n c)(hvb:∃p n c,vb=xL p n c)(hfb:∃p n c,fb=xL p n c)(W:ax):xC 78 #[yg a va fa,yg b vb fb] W λe w'=>e=xR (Vi a b)/\∃q os',w'=grow (W.drewN q) os':=by
 obtain⟨va1,va2,va3,rfl⟩:=hva;obtain⟨SJ,fa2,fa3,rfl⟩:=Q7;obtain⟨vb1,vb2,vb3,rfl⟩:=hvb;obtain⟨fb1,fb2,fb3,rfl⟩:=hfb;have ZX:=ag (λV=>JQ a.an (by omega) V);have HRB:=ag (λV=>JQ b.an (by omega) V);have MY:Hd (∀V,xC 79 #[gW a.an,gW b.an] V λe w'=>e=xR (xI (Lib.compareInt (gW a.an) (gW b.an)))/\w'=V):=λV=>(sH (gW a.an) (gW b.an) V).mono λ_ _ h=>⟨h.1,h.2.symm⟩;have yM:=ag (λV=>sH a.kD.id b.kD.id V);have J5:=ag (λV=>JM a.ai b.ai V);have HC3:=ag (λV=>sH a.id b.id V);have J4:=ag (λV=>sH a.cQ b.cQ V);have CI:Hd (Vi a b=if Lib.compareInt (gW a.an) (gW b.an)≠0 then Lib.compareInt (gW a.an) (gW b.an)else if a.an=1 then Lib.compareInt a.kD.id b.kD.id else if a.an=2 then pr a.ai b.ai else if Lib.compareInt a.id b.id≠0 then Lib.compareInt a.id b.id else Lib.compareInt a.cQ b.cQ):=rfl;have HX:=ag (Bx.du W (lL a (xL va1 va2 va3) (xL SJ fa2 fa3)) (lL b (xL vb1 vb2 vb3) (xL fb1 fb2 fb3)));have hk:=Pu ha;clear ha hb;generalize Vi a b=cf at*;generalize Lib.compareInt (gW a.an) (gW b.an)=c0 at*;generalize Lib.compareInt a.kD.id b.kD.id=c1 at*;generalize pr a.ai b.ai=c2 at*;generalize Lib.compareInt a.id b.id=c3 at*;generalize Lib.compareInt a.cQ b.cQ=c4 at*;generalize gW a.an=ra at*;generalize gW b.an=rb at*;go_enter func78,ntmps78;go_upto_region 1 with fail;have⟨W1,hW1⟩:=bY ((W.alloc (lL a (xL va1 va2 va3) (xL SJ fa2 fa3))).alloc (lL b (xL vb1 vb2 vb3) (xL fb1 fb2 fb3)));rw[<-hW1]at HX;have HG:Hd (∀q,∃q' os',W1.drewN q=grow (W.drewN q') os'):=λq=>⟨q,_,by rw[hW1,alloc_eq_grow,alloc_eq_grow,grow_grow];rfl⟩;unfold lL at hW1;rw[<-hW1];clear hW1;obtain⟨a0,a1,-,-,-,a5,a6,a7,-,-⟩:=fG (HX.o.bO rfl);obtain⟨b0,b1,-,-,-,b5,b6,b7,-,-⟩:=fG (HX.o.cg rfl);go_quiet(first
  |(go_at_call 80;(with_reducible first|exact Calls.quiet_of_same (ZX.o _)|exact Calls.quiet_of_same (HRB.o _)))
  |(go_at_call 79;exact Calls.quiet_of_same (MY.o _)));by_cases hc:c0=0
 .subst hc;rcases hk with hk|hk|hk
  .have e:cf=c1:=by rw[CI.o];simp[hk]
   subst e;rw[hk]at a0;clear CI hk;go_wp2_with fail;refine dw (yM.o _) ?_;go_wp2;go_ret;exact⟨rfl,HG.o nq⟩
  .have e:cf=c2:=by rw[CI.o];simp[hk]
   subst e;rw[hk]at a0;clear CI hk;go_wp2_with fail;refine dw (J5.o _) ?_;go_wp2;go_ret;exact⟨rfl,HG.o nq⟩
  .rw[hk]at a0;by_cases XI:c3=0
   .have e:cf=c4:=by rw[CI.o];simp[hk,XI]
    subst e;subst XI;clear CI hk;go_wp2_with fail;refine dw (HC3.o _) ?_;go_wp2_with fail;refine dw (J4.o _) ?_;go_wp2;go_ret;exact⟨rfl,HG.o nq⟩
   .have e:cf=c3:=by rw[CI.o];simp[hk,XI]
    subst e;clear CI hk;go_wp2_with fail;refine dw (HC3.o _) ?_;go_wp2;go_ret;exact⟨rfl,HG.o nq⟩
 .have e:cf=c0:=by rw[CI.o];simp[hc]
  subst e;clear CI;go_wp2;go_ret;exact⟨rfl,HG.o nq⟩
def Iq(M:aV)(base:Nat)(w:ax)(v:aA)(xs:List lA)(h:aS M base 75 w v xs)(hM:∀g,v.ownBlock=some g->¬M g)(hx:xs.length<1000000):
 xC 77 #[v, .func (.func 78) #[] #[]] w λe w'=>e=xR (.tuple #[])/\∃ys,xs.Perm ys/\(ys.map λx:lA=>tW x.1).Pairwise (λa b=>zu b a=false)/\ab M w' v ys/\ao (λi=>v.ownBlock=some i) w w':=by
 have h1:=xA Y5 Sa isAgg75 sizeOf75 (λx y=>Vi x.1.1 y.1.1) zu (λb c=>pD _ _ b.2 c.2) Y6 78 (enters_of func78 (by kernel_rfl) rfl) (λx y W=>qck x.1.1 y.1.1 x.2 y.2 _ _ _ _ ⟨_,_,_,rfl⟩ ⟨_,_,_,rfl⟩ ⟨_,_,_,rfl⟩ ⟨_,_,_,rfl⟩ W) M base 75 w v xs h hM hx;exact h1
end
section
open Go.RowKit Go.Shelf
def tX:(Tryz.prog.info? 75).map (λi=>(i.zero,i.size,i.bytes))=some (some (.agg #[xI 0,xI 0,xI 0,xI 0,(),xI 0,xI 0,"","",(),xI 0,"","","",xI 0,xI 0,"",""]),18,232):=by kernel_rfl
def Pv:aN:=⟨0,(),(),(),⟨0,0⟩,(),()⟩
def pE(o:bF):ec:=⟨1,o,0,0,(),⟨⟨#[]⟩,[]⟩,Pv⟩
def kC(r:bj):ec:=⟨2,⟨0,0,0,[]⟩,r.id,0,r.ai,⟨⟨#[]⟩,[]⟩,Pv⟩
def zw(o:bF):lA:=⟨pE o,by show 1<=(1:Int)/\(1:Int)<=3;omega⟩
def qI(r:bj):lA:=⟨kC r,by show 1<=(2:Int)/\(2:Int)<=3;omega⟩
def Pw {M:aV}{w:ax}{v:aA}{l:List lA}:ab M w v l↔ab M w v (l.map Subtype.val):=by
 constructor
 .rintro⟨css,h1,h2,h3⟩;refine⟨css,by rw[Qdc];exact h1,by rw[Qdc];exact h2,λi cs x hc hx=> ?_⟩;rw[List.getElem?_map]at hx;obtain⟨y,hy,rfl⟩:=Option.map_eq_some_iff.1 hx;exact h3 i cs y hc hy
 .rintro⟨css,h1,h2,h3⟩;rw[Qdc]at h1 h2;exact⟨css,h1,h2,λi cs x hc hx=>h3 i cs x.1 hc (by rw[List.getElem?_map,hx];rfl)⟩
section
variable {P:Program}{α:Type} [aD α]{o:Oper}{a:Act}{w:ax}{ops:Array Oper}{rest:List Oper}{Q:Exit->Act->ax->Prop}(hgd:o.guard=none)(s x:Operand)(t:TypeId)
 (ho:o.op= .call {callee:= .builtin .append,args:= #[s,x],argTypes:= #[t,t]})
 (M:aV)(base:Nat)(e:TypeId)(i:TypeInfo)(z:aA)(bytes:Nat)(ht:P.underlying t=some (.slice e))(hi:P.info? e=some i)(hz:i.zero=some z)
 (hsize:i.size=aD.size α)(hby:i.bytes=bytes)(hzs:z.cells.size=aD.size α)(hsz:0<aD.size α)
 (v:aA)(xs:List α)(hs:a.eval s=v)(hacc:aS M base e w v xs)
 (F:aV)(sv:aA)(cs:List aA)(y:α)(hx:a.eval x=sv)(hr:ct F w (aD.size α) sv 1 cs)(hy:aD.rep (bu v M) w cs y)
 (h63:xs.length+1<=maxLen)(hbytes:(xs.length+1)*bytes<=140737488355328)(hbase:base<=w.heap.size)
include hgd ho ht hi hz hsize hby hzs hsz hs hacc hx hr hy h63 hbytes hbase
def lB
 (h:∀a' c' w',aS M base e w' (xL a' (xs.length+1) c') (xs++[y])->ao (λk=>v.ownBlock=some k) w w'->((Value.slice a' (xs.length+1) c').ownBlock=v.ownBlock\/(Value.slice a' (xs.length+1) c').ownBlock=some w.heap.size)->wpList P ops Q rest (a.put o.dst (xL a' (xs.length+1) c')) w'):wpList P ops Q (o::rest) a w:=by
 obtain⟨css,h1,h2,h3⟩:=hacc;refine gY w hgd s x t ho base e i z (aD.size α) bytes ht hi hz hsize hby hzs hsz v xs.length css.flatten hs h1 sv 1 cs hx hr (aD.flat hy) h63 hbytes hbase λa' c' w' k1 k2 k3=> ?_;exact h a' c' w' (aS.snoc h2 h3 hy k1 k2 k3) ((ao.refl (λk=>v.ownBlock=some k) w).grown k2 λg hg=> .inl hg) k3
end
structure ER {β:Type}(M:aV)(base r mb clk:Nat)(W3:ax)(v:aA)(V:List (β×aA×Nat))(rs:List lA)(wr:ax):Prop where
 low:Below base W3 wr
 iter:IterM wr r mb V clk
 acc:aS (orM M r) base 75 wr v rs
 own:∀g,v.ownBlock=some g->g≠r
 big:base<=wr
section
variable {β:Type}{M:aV}{base r mb clk:Nat}{W3 wr w' w5 w6:ax}{v v2:aA}{V V':List (β×aA×Nat)}{rs rs':List lA}
theorem ER.ae(h:ER M base r mb clk W3 v V rs wr)(hb:aC wr w'):ER M base r mb clk W3 v V rs w':=
 ⟨h.low.trans (hb.mono h.big),(hb.block _ (Qaa.1 h.iter).1).trans h.iter,h.acc.ae hb,h.own,Qcg h.big hb.size⟩
theorem ER.drawn(h:ER M base r mb clk W3 v V rs wr)(hr:base<=r)(ho:ao (λi=>i=r) wr w')(hi:IterM w' r mb V' clk):ER M base r mb clk W3 v V' rs w':=
 ⟨bq h.low h.big ho (λi hi=>by have hi:i=r:=hi;omega),hi,h.acc.pA ho (λi hi=> .inr hi) h.own,h.own,Qcg h.big ho.size⟩
theorem ER.next(h:ER M base r mb clk W3 v V rs w5)(ha:aS (orM M r) base 75 w6 v2 rs')(ho:ao (λk=>v.ownBlock=some k) (w5.alloc o1) w6)(hv:v2.ownBlock=v.ownBlock\/v2.ownBlock=some (w5.alloc o1).heap.size):ER M base r mb clk W3 v2 V rs' w6:=by
 have hr:=(Qaa.1 h.iter).1;have hz:(w5.alloc o1).heap.size=[w5]:=by simp
 refine⟨bq (h.low.alloc h.big o1) (by have:=h.big;omega) ho (λi hi=>(h.acc.cG i hi).1),?_,ha,λg hg=> ?_,by have:=h.big;have:=ho.size;omega⟩
 .exact(ho.block r (by omega) (λe=>h.own r e rfl)).trans ((Qcb w5 o1 r hr).trans h.iter)
 .rcases hv with hv|hv
  .exact h.own g (by rw[<-hv];exact hg)
  .rw[hv]at hg;cases hg;omega
theorem ER.map(h:ER M base r mb clk W3 v V rs wr){Ky:β->aA}{es:List (β×aA×Nat)}(hm:fF Ky W3 mb es clk)(hmb:mb<base):fF Ky wr mb es clk:=hm.same _ (h.low.block _ hmb)
end
def ES(M:aV)(w:ax)(v:aA)(l:List lA)(h:ab M w v l)(hl:l.length<=40):
 xG 76 #[v] w λv w'=>aS M w 75 w' v l:=by
 have⟨i0,hi0,hz0,hz1,hz2⟩:=info_parts tX;have HS:=ag h;obtain⟨a,c,rfl,cY,hmx,ho⟩:=h.aq;have HE:Hd (aS (α:=lA) M w 75 (w.alloc (xK #[] 75)) (xL (w,0) 0 0) []):=aS.made M #[] 0 bT (by unfold maxLen;omega) rfl;have q89:∀(w:ax)(a:fx)(n c n' c':Nat),(binOp .eql 55 (.slice a n c) (.slice none n' c')).run prog w= .ok (.bool a.isNone) w:=λw a n c n' c'=>Lib.run_eql_slice_nil w _ _ a n c n' c' underlying55;have⟨n,hn⟩:=jN (l.length);have HO:Hd (a=none->l=[]):=λha=>by
  by_cases hp:0<l.length
  .have⟨b,off,h1,_⟩:=ho hp;rw[ha]at h1;cases h1
  .exact List.length_eq_zero_iff.1 (by omega)
 rw[hn]at hl cY⊢;have gn:=ag (show ab M w (xL a n c) l by rw[<-hn];exact HS.o);have HN:=ag hn;cases a with
 |none=>
  obtain rfl:=HO.o rfl;go_enter func76,ntmps76;go_wp2;go_ret;exact⟨_,rfl,aS.nil _ _ _ _,dS⟩
 |some adr=>
 go_enter func76,ntmps76;go_wp2_with(at_builtin;go_loud(refine dp (α:=lA) rfl _ _ _ rfl M w 75 i0 _ 232 underlying55 hi0 hz0 hz1 hz2 rfl (by decide) (.slice (w,0) 0 0) [] rfl HE.o (.slice (some adr) n c) l rfl (gn.o.ev (vW HE.o rfl bU)) (by rw[HN.o];simp;unfold maxLen;omega) (by rw[HN.o];simp;omega) (by simp) ?_);rw[HN.o];simp only[Qcd,Nat.zero_add,List.nil_append];intro a2 c2 w2 bD dK bE;have dr:=ag bD;have bV:Hd (aC w w2):=bU.trans bE;clear bD dK bE);go_ret;exact⟨_,rfl,dr.o,bV.o⟩
def nM(ds:List lA)(os:List bF)(rs:List bj):List lA:=ds++os.map zw++rs.map qI
def Mb {l ys:List bF}{ks:List Int}(hl:(cA l).Pairwise (·< ·))(hk:ks.Nodup)(hy:ys.map bF.id=ks)(kx:∀o∈ys,o∈l)(hall:∀o∈l,o.id∈ks):ys.Perm l:=by
 have hyn:ys.Nodup:=by
  have h1:(ys.map bF.id).Nodup:=by rw[hy];exact hk
  rw[List.nodup_iff_pairwise_ne,List.pairwise_map]at h1;exact h1.imp λh e=>h (by rw[e])
 have MP:l.Nodup:=by
  have h1:(l.map bF.id).Pairwise (·< ·):=hl;rw[List.pairwise_map]at h1;exact h1.imp λh e=>by rw[e]at h;omega
 refine(List.perm_ext_iff_of_nodup hyn MP).2 λo=>⟨kx o,λho=> ?_⟩;have h1:=hall o ho;rw[<-hy]at h1;have⟨o',ho',e⟩:=Qdh.1 h1;have⟨i,hi⟩:=Qdg ho;have⟨j,hj⟩:=Qdg (kx o' ho');obtain rfl:=jJ hl hi hj e.symm;rw[hi]at hj;cases hj;exact ho'
def Ir {l ys:List bj}{ks:List aY}(hl:eN l)(hk:ks.Nodup)(hy:ys.map bj.ai=ks)(kx:∀o∈ys,o∈l)(hall:∀o∈l,o.ai∈ks):ys.Perm l:=by
 have hyn:ys.Nodup:=by
  have h1:(ys.map bj.ai).Nodup:=by rw[hy];exact hk
  rw[List.nodup_iff_pairwise_ne,List.pairwise_map]at h1;exact h1.imp λh e=>h (by rw[e])
 have MP:l.Nodup:=by
  have h1:(l.map bj.ai).Pairwise (λa b=>eP a b=true):=hl;rw[List.pairwise_map]at h1;exact h1.imp λh e=>by rw[e,cZ]at h;cases h
 refine(List.perm_ext_iff_of_nodup hyn MP).2 λo=>⟨kx o,λho=> ?_⟩;have h1:=hall o ho;rw[<-hy]at h1;have⟨o',ho',e⟩:=Qdh.1 h1;have⟨i,hi⟩:=Qdg ho;have⟨j,hj⟩:=Qdg (kx o' ho');obtain rfl:=pq hl hi hj e.symm;rw[hi]at hj;cases hj;exact ho'
def Is(x:oh)(M:aV)(z:Nat)(p:qH)(ha:FE M z p)(W:ax)(h:kT x M z p W)(ds:List lA)(hds:x.defs=ds.map Subtype.val)(hd:ds.length<=40)(Ug:∀r∈x.aF,r.ai.size<=maxLen)(Uk:(cA x.aP).Pairwise (·< ·))(XS:eN x.aF)(sT:x.aP.length<=1000)(hlr:x.aF.length<=1000)
 (hst:(nM ds x.aP x.aF).Pairwise (λa b=>zu (tW a.1) (tW b.1)=true)):
 xG 30 #[xP p.T] W λv w'=>ab M w' v ((nM ds x.aP x.aF).map Subtype.val):=by
 have⟨i0,hi0,hz0,hz1,hz2⟩:=info_parts tX;obtain⟨sv,dv,kv,h1,h2,⟨h3,-⟩,h4,h5⟩:=h.st;obtain⟨n1,hn1⟩:∃N:aV,N=bu kv (nh M p):=⟨_,rfl⟩;have Zr:Hd (∀i,n1 i->i<W.heap.size):=λi hi=>by
  rw[hn1]at hi;have:=h.low;rcases hi with(hi|hi)|hi
  .have:=ha.far i hi;omega
  .have:=ha.lt i hi;omega
  .exact(h4.cG i hi).2
 have qW:Hd (∀i,M i->n1 i):=λi hi=>by rw[hn1];exact .inl (.inl hi)
 rw[<-hn1]at h3 h5;clear hn1 h2 h4;obtain⟨es,clk,hm,hes,hall⟩:=h5;have⟨fs,clk2,hm2,hfs,hall2⟩:=h.aF;have MU:fF fw W p.ms [] 0:=⟨h.snaps,by simp,by simp,by simp⟩;rw[hds]at h3;have HDF:=ag (Pw.2 h3);have sZ:=ag (show p.T<W/\p.mo<W/\p.mr<W/\p.ms<W by
  have:=h.low;have h1:=ha.lt p.T (by unfold kS;simp);have h2:=ha.lt p.mo (by unfold kS;simp);have h3:=ha.lt p.mr (by unfold kS;simp);have h4:=ha.lt p.ms (by unfold kS;simp);omega);have A6:=ag hm;have Bf:=ag hm2;have HMS:=ag MU;have HES:=ag hes;have iD:=ag hfs;have I4:=ag hall;have QW:=ag hall2;have Rh:=ag Uk;have FM:=ag XS;have WO:=ag Ug;have ia:=ag hst;have MR:=ag h1;have hel:es.length<=1000:=by
  have h1:=mR (x.aP.map bF.id) (es.map (·.1)) hm.keys (λq hq=>by
   obtain⟨p,hp,rfl⟩:=Qdh.1 hq;have⟨o,vv,j1,j2,_⟩:=hes p hp;exact Qdh.2 ⟨o,j1,j2.symm⟩);simp at h1;omega
 have vN:fs.length<=1000:=by
  have h1:=mR (x.aF.map bj.ai) (fs.map (·.1)) hm2.keys (λq hq=>by
   obtain⟨p,hp,rfl⟩:=Qdh.1 hq;have⟨o,j1,j2,_⟩:=hfs p hp;exact Qdh.2 ⟨o,j1,j2.symm⟩);simp at h1;omega
 clear hm hm2 MU hes hfs hall hall2 h Uk XS Ug hst ha hds;obtain⟨-,-,-,-,-,c7,-,-,c11,-⟩:=dJ h1;obtain⟨da,dc,rfl,-⟩:=HDF.o.aq;clear h1 h3;generalize hdn:ds.length=dn at*;have ZM:=ag hdn;clear hdn;generalize x.aP=xo at*;generalize x.aF=xr at*;have lM:=ag (ES n1 W _ ds HDF.o (by rw[ZM.o];exact hd));go_enter func30,ntmps30;go_wp2_with fail;refine(lM.o).mono ?_;rintro e w1⟨_,rfl,hacc,hb1⟩;have bz:=ag hb1;have HAC:=ag hacc;obtain⟨va,vc,hve,-,-⟩:=hacc.aq;rw[ZM.o]at hve;subst hve;obtain⟨-,-,-,-,-,k7,-⟩:=dJ ((hb1.block _ sZ.o.1).trans MR.o);have hr1:=run_range_map (P:=prog) w1 113 _ _ p.mo _ clk underlying113 ((hb1.block _ sZ.o.2.1).trans A6.o.is_);clear hacc hb1 c7 c11;go_upto_region 3 with fail;clear hr1 k7;have⟨W2,hW2⟩:=bY (w1.alloc (.mapIter (some p.mo) clk #[] clk));have bg:=ag (show aC w1 W2 by rw[hW2];exact bU);have mw:=ag (show IterM W2 w1 p.mo ([]:List (Int×aA×Nat)) clk by rw[hW2];exact Qbh w1 _);rw[<-hW2];clear hW2;have hs0:ER n1 W w1 p.mo clk W (xL va dn vc) ([]:List (Int×aA×Nat)) (ds++([]:List bF).map zw) W2:=⟨bz.o.trans (bg.o.mono bz.o.size),mw.o,by
  rw[List.map_nil,List.append_nil];exact(HAC.o.more λi hi=>hi.imp_right λe=>by omega).ae bg.o,λg hg=>by have:=(HAC.o.cG g hg).2;omega,Qcg bz.o.size bg.o.size⟩;have Sy:Hd (ER n1 W w1 p.mo clk W (xL va dn vc) ([]:List (Int×aA×Nat)) (ds++([]:List bF).map zw) W2/\Pm bF.id xo es [] []):=⟨hs0,⟨by simp,by simp,by simp,by simp⟩⟩;have mZ:Hd (W.heap.size<=w1):=bz.o.size;generalize w1.heap.size=r1 at*;clear hs0;generalize hnn:es.length=n at*;have v8:=ag hnn;clear hnn;have qbg:∀(oi oc ov:Int)(a:fx)(m c:Nat)(W:ax),(Instr.build 75 #[(0,xI 1),(1, .agg #[oi,oc,ov,xL a m c])]).run prog W= .ok (.agg #[xI 1,oi,oc,ov,xL a m c,xI 0,xI 0,"","",(),xI 0,"","","",xI 0,xI 0,"",""]) W:=λ_ _ _ _ _ _ W=>run_build W _ _ _ (by kernel_rfl);go_loopg [3,5]n(λgg v3 _ wr=>∃(V:List (Int×aA×Nat))(os:List bF),gg=n-V.length/\Hd (ER n1 W r1 p.mo clk W v3 V (ds++os.map zw) wr/\Pm bF.id xo es V os));case atStart=>exact⟨[],[],by simp,Sy⟩
 case round=>
  obtain⟨V,os,rfl,HS⟩:=hrel;rename World=>wr;have⟨gl,hgl⟩:=bY (ds++os.map zw);rw[<-hgl]at HS;have HGN:Hd (gl.length=dn+V.length/\ds++os.map zw=gl):=⟨by
   have h1:=congrArg List.length HS.o.2.ids;have h2:=ZM.o;rw[hgl];simp at h1⊢;omega,hgl.symm⟩;clear hgl;have QJ:=HS.o.1.map A6.o sZ.o.2.1;rcases QJ.step (P:=prog) dO HS.o.1.iter HS.o.2.sub HS.o.2.nod 0 with⟨jz,gE⟩|⟨q,WZ,hp,Q8,gE,uy,lG,oF,ho1,iN⟩;rotate_left
  .have FL:=iT (es:=es) lG (λz hz=>by
    rcases Qch.1 hz with hz|hz
    .exact HS.o.2.sub z hz
    .rw[Qea.1 hz];exact hp);rw[Qda,List.length_singleton,v8.o]at FL;have⟨o,vv,ho,e1,e2,hvs⟩:=HES.o q hp;have HD:=ag (HS.o.1.drawn (V':=V++[q]) mZ.o ho1 uy);have HQ:=ag (HS.o.2.more hp lG ho e1);have Fu:=hvs;obtain⟨xa,xc,rfl,_⟩:=Fu.aq;have yS:=ag hvs;obtain⟨q1,q2,q3⟩:=q;dsimp only at e1 e2 gE iN;subst e1;subst e2;dsimp only[dO,qS]at gE iN;obtain⟨ya,yc,rfl,-,-⟩:=HD.o.acc.aq;clear hvs Fu uy lG oF ho1 hp Q8 ho;go_upto_region 5 with fail;clear gE iN;have⟨W4,hW4⟩:=bY (WZ.alloc (eh o (xL xa o.aZ.length xc)));have nQ:=ag (show bW W4 WZ (eh o (xL xa o.aZ.length xc))by rw[hW4];exact Qbh WZ _);have FO:=ag (HD.o.ae (hW4▸bU));unfold eh at hW4;rw[<-hW4];clear hW4;have⟨x0,x1,x2,x3⟩:=af nQ.o;have hgb:gl.length<=2000:=by have:=HGN.o.1;omega
   have fq:Hd (∀o1,aD.rep (α:=lA) (bu (xL ya gl.length yc) (orM n1 r1)) (W4.alloc o1) [xI 1,xI o.id,xI o.cL,xI o.cQ,xL xa o.aZ.length xc,xI 0,xI 0,"","",(),xI 0,"","","",xI 0,xI 0,"",""] (zw o)):=λo1=>⟨xL xa o.aZ.length xc,(),rfl,yS.o.ev ⟨ao.az (FO.o.low.alloc FO.o.big o1),λi hi=>by
    rcases hi with(hi|hi)|hi
    .exact .inl hi
    .right;have:=mZ.o;omega
    .right;exact(FO.o.acc.cG i hi).1⟩,ab.nil _ _,show(ByteArray.mk #[]).size<=maxLen by decide,show(ByteArray.mk #[]).size<=maxLen by decide⟩;have IL:Hd (W.heap.size<=W4):=FO.o.big;go_wp2_with(at_builtin;refine lB (α:=lA) rfl _ _ _ rfl (orM n1 r1) W 75 i0 _ 232 underlying55 hi0 hz0 hz1 hz2 rfl (by decide) (.slice ya gl.length yc) gl rfl (FO.o.acc.alloc _) (λ_=>True) _ _ (zw o) rfl (cF _ _ _ _ rfl trivial) (fq.o _) (by unfold maxLen;omega) (by omega) (by have:=IL.o;simp;omega) ?_;intro a2 c2 w6 bD Co hv2;have tj:=ag (FO.o.next bD Co hv2);clear bD Co hv2);go_roundg(n-(V.length+1));case measure=>omega
   case rel=>
    refine⟨V++[(o.id,qS o (xL xa o.aZ.length xc),q3)],os++[o],by simp,ag ⟨?_,HQ.o⟩⟩;rw[List.map_append,<-List.append_assoc,HGN.o.2];exact tj.o
  .have TQ:Hd (os.Perm xo):=Mb Rh.o (ks:=V.map (·.1)) ((jz.map (·.1)).nodup_iff.2 A6.o.keys) HS.o.2.ids HS.o.2.mem (λo ho=>(jz.map (·.1)).mem_iff.2 (I4.o o ho));have CH:=ag (show V.length<=n by have h1:=jz.length_eq;have h2:=v8.o;omega);obtain⟨ya,yc,rfl,-,-⟩:=HS.o.1.acc.aq;have Nf:=ag HS.o.1;have Tf:=(Nf.o.low.block _ sZ.o.1).trans MR.o;obtain⟨-,-,-,-,-,-,k9,-⟩:=dJ Tf;have hr2:=run_range_map (P:=prog) wr 114 _ _ p.mr _ clk2 underlying114 ((Nf.o.low.block _ sZ.o.2.2.1).trans Bf.o.is_);clear jz QJ HS Tf;go_upto_region 7 with fail;clear hr2 k9 gE;have⟨W5,hW5⟩:=bY (wr.alloc (.mapIter (some p.mr) clk2 #[] clk2));have iU:=ag (show aC wr W5 by rw[hW5];exact bU);have T7:=ag (show IterM W5 wr p.mr ([]:List (aY×aA×Nat)) clk2 by rw[hW5];exact Qbh wr _);rw[<-hW5];clear hW5;have hs1:ER n1 W wr p.mr clk2 W (xL ya gl.length yc) ([]:List (aY×aA×Nat)) (gl++([]:List bj).map qI) W5:=⟨Nf.o.low.trans (iU.o.mono Nf.o.big),T7.o,by
    rw[List.map_nil,List.append_nil];exact(Nf.o.acc.more λi hi=>by
     rcases hi with hi|hi
     .exact .inl (.inl hi)
     .right;omega).ae iU.o,λg hg=>by have:=(Nf.o.acc.cG g hg).2;omega,Qcg Nf.o.big iU.o.size⟩;have qL:Hd (ER n1 W wr p.mr clk2 W (xL ya gl.length yc) ([]:List (aY×aA×Nat)) (gl++([]:List bj).map qI) W5/\Pm bj.ai xr fs [] []):=⟨hs1,⟨by simp,by simp,by simp,by simp⟩⟩;have vI:Hd (W.heap.size<=wr):=Nf.o.big;generalize wr.heap.size=r2 at*;clear hs1;generalize QM:fs.length=n2 at*;have QN:=ag QM;clear QM;have qbh:∀(nm:aY)(ri:Int)(W:ax),(Instr.build 75 #[(0,xI 2),(4,xS nm),(2,xI ri)]).run prog W= .ok (.agg #[xI 2,xI 0,xI 0,xI 0,(),ri,xI 0,nm,"",(),xI 0,"","","",xI 0,xI 0,"",""]) W:=λ_ _ W=>run_build W _ _ _ (by kernel_rfl);go_loopg [3,6,7]n2(λgg v3 _ _ wq=>∃(V2:List (aY×aA×Nat))(rs:List bj),gg=n2-V2.length/\Hd (ER n1 W r2 p.mr clk2 W v3 V2 (gl++rs.map qI) wq/\Pm bj.ai xr fs V2 rs));case atStart=>exact⟨[],[],by simp,qL⟩
   case round=>
    obtain⟨V2,rs,rfl,HS⟩:=hrel;rename World=>wq;have⟨g2,hg2⟩:=bY (gl++rs.map qI);rw[<-hg2]at HS;have SD:Hd (g2.length=gl.length+V2.length/\gl++rs.map qI=g2):=⟨by
     have h1:=congrArg List.length HS.o.2.ids;rw[hg2];simp at h1⊢;omega,hg2.symm⟩;clear hg2;have QJ:=HS.o.1.map Bf.o sZ.o.2.2.1;rcases QJ.step (P:=prog) fw HS.o.1.iter HS.o.2.sub HS.o.2.nod 0 with⟨jz,gE⟩|⟨q,WZ,hp,Q8,gE,uy,lG,oF,ho1,iN⟩;rotate_left
    .have FL:=iT (es:=fs) lG (λz hz=>by
      rcases Qch.1 hz with hz|hz
      .exact HS.o.2.sub z hz
      .rw[Qea.1 hz];exact hp);rw[Qda,List.length_singleton,QN.o]at FL;have⟨o,ho,e1,e2⟩:=iD.o q hp;have HD:=ag (HS.o.1.drawn (V':=V2++[q]) vI.o ho1 uy);have HQ:=ag (HS.o.2.more hp lG ho e1);have HNZ:Hd (o.ai.size<=maxLen):=WO.o o ho;obtain⟨q1,q2,q3⟩:=q;dsimp only at e1 e2 gE iN;subst e1;subst e2;dsimp only[fw]at gE iN;obtain⟨ga,gc,rfl,-,-⟩:=HD.o.acc.aq;have hgb:g2.length<=4000:=by have:=SD.o.1;have:=HGN.o.1;have:=CH.o;omega
     obtain⟨rn,ri⟩:=o;dsimp only at gE iN;have fq:Hd (∀o1,aD.rep (α:=lA) (bu (xL ga g2.length gc) (orM n1 r2)) (WZ.alloc o1) [xI 2,xI 0,xI 0,xI 0,(),xI ri,xI 0,xS rn,"",(),xI 0,"","","",xI 0,xI 0,"",""] (qI ⟨rn,ri⟩)):=λo1=>⟨(),(),rfl,ab.nil _ _,ab.nil _ _,HNZ.o,show(ByteArray.mk #[]).size<=maxLen by decide⟩;have IL:Hd (W.heap.size<=WZ):=HD.o.big;clear uy lG oF ho1 hp Q8 ho;go_wp2_with(at_builtin;refine lB (α:=lA) rfl _ _ _ rfl (orM n1 r2) W 75 i0 _ 232 underlying55 hi0 hz0 hz1 hz2 rfl (by decide) (.slice ga g2.length gc) g2 rfl (HD.o.acc.alloc _) (λ_=>True) _ _ (qI ⟨rn,ri⟩) rfl (cF _ _ _ _ rfl trivial) (fq.o _) (by unfold maxLen;omega) (by omega) (by have:=IL.o;simp;omega) ?_;intro a2 c2 w6 bD Co hv2;have tj:=ag (HD.o.next bD Co hv2);clear bD Co hv2);go_roundg(n2-(V2.length+1));case measure=>omega
     case rel=>
      refine⟨V2++[(rn,xI ri,q3)],rs++[⟨rn,ri⟩],by simp,ag ⟨?_,HQ.o⟩⟩;rw[List.map_append,<-List.append_assoc,SD.o.2];exact tj.o
    .have HPR:Hd (rs.Perm xr):=Ir FM.o (ks:=V2.map (·.1)) ((jz.map (·.1)).nodup_iff.2 Bf.o.keys) HS.o.2.ids HS.o.2.mem (λo ho=>(jz.map (·.1)).mem_iff.2 (QW.o o ho));obtain⟨ga,gc,rfl,-,-⟩:=HS.o.1.acc.aq;have qY:=ag HS.o.1;have Tf:=(qY.o.low.block _ sZ.o.1).trans MR.o;obtain⟨-,-,-,-,-,-,-,k10,-⟩:=dJ Tf;have SG:=run_range_map (P:=prog) wq 114 _ _ p.ms _ 0 underlying114 ((qY.o.low.block _ sZ.o.2.2.2).trans HMS.o.is_);have MP:g2.length<1000000:=by have h1:=jz.length_eq;have:=QN.o;have:=SD.o.1;have:=HGN.o.1;have:=CH.o;omega
     clear jz QJ HS Tf;go_upto_region 11 with fail;clear SG k10 gE;have⟨W7,hW7⟩:=bY (wq.alloc (.mapIter (some p.ms) 0 #[] 0));have mA:=ag (show aC wq W7 by rw[hW7];exact bU);have HI7:=ag (show IterM W7 wq p.ms ([]:List (aY×aA×Nat)) 0 by rw[hW7];exact Qbh wq _);rw[<-hW7];clear hW7;have HM7:Hd (fF fw W7 p.ms [] 0):=HMS.o.same _ ((mA.o.block _ (by have:=sZ.o.2.2.2;have:=qY.o.big;omega)).trans (qY.o.low.block _ sZ.o.2.2.2));have HSO:=ag (Iq (orM n1 r2) W W7 (xL ga g2.length gc) g2 (qY.o.acc.ae mA.o) (λg hg hi=>by
      rcases hi with hi|hi
      .have:=Zr.o g hi;have:=(qY.o.acc.cG g hg).1;omega
      .exact qY.o.own g hg hi) MP);go_loopg [3,8,9]0(λgg v3 _ _ wz=>gg=0/\v3=xL ga g2.length gc/\wz=W7);case atStart=>exact⟨rfl,rfl,rfl⟩
     case round=>
      obtain⟨rfl,rfl,rfl⟩:=hrel;rcases HM7.o.step (P:=prog) fw HI7.o (by simp) (by simp) 0 with⟨-,gE⟩|⟨q,WZ,hp,-⟩;rotate_left
      .simp at hp
      .go_wp2_with fail;go_at_call 77;refine HSO.o.mono ?_;rintro e w8⟨rfl,ys,hys,Yd,hsl,Zj⟩;have jz:ys.Perm (nM ds xo xr):=hys.symm.trans (by
        rw[<-SD.o.2,<-HGN.o.2];exact((List.Perm.refl ds).append (TQ.o.map zw)).append (HPR.o.map qI));rw[List.pairwise_map]at Yd;obtain rfl:=JR (λx:lA=>tW x.1) zu jz Yd ia.o;have SE:Hd (ab M w8 (xL ga g2.length gc) ((nM ds xo xr).map Subtype.val)/\aC W w8):=⟨Pw.1 (hsl.ev (Ev.dL w8 λi hi=> .inl (qW.o i hi))),bq (qY.o.low.trans (mA.o.mono qY.o.big)) (by have:=qY.o.big;have:=mA.o.size;omega) Zj (λi hi=>(qY.o.acc.cG i hi).1)⟩;clear hys Yd hsl Zj jz;go_wp2;go_ret;exact⟨_,rfl,SE.o.1,SE.o.2⟩
abbrev CB(f:Nat):aA:= .agg #[.func (.func f) #[] #[]]
def iu {es:List (Int×aA×Nat)}(h:bP dO w b es clk)(x:Int)(v:aA)(hv:bB es x=none):∃w',(Instr.mapUpdate 105 (.map (some b)) x v).run prog w= .ok () w'/\bP dO w' b (es++[(x,v,clk)]) (clk+1)/\ao (λi=>i=b) w w':=by
 have⟨h1,h2⟩:=bP.insert dO (.int .i64) oX (P:=prog) underlying105 underlying3 eO h x v hv;exact⟨_,h1,h2,(ao.refl (λi=>i=b) w).putObj (.inl rfl) _⟩
def jW(w:ax)(b:Nat):Prop:=∃es clk,bP dO w b es clk/\bB es 1=some (CB 65)/\bB es 3=some (CB 67)/\bB es 5=some (CB 69)/\bB es 7=some (CB 71)/\bB es 8=some (CB 72)
theorem jW.same(h:jW w b)(hb:w'.heap[b]? =w.heap[b]?):jW w' b:=by
 obtain⟨es,clk,h1,h2⟩:=h;exact⟨es,clk,hb.trans h1,h2⟩
theorem jW.lt(h:jW w b):b<w:=by
 obtain⟨es,clk,h1,-⟩:=h;exact(Qaa.1 h1).1
theorem jW.look(h:jW w b){k:Int}{F:Nat}(hk:(k=1/\F=65)\/(k=3/\F=67)\/(k=5/\F=69)\/(k=7/\F=71)\/(k=8/\F=72)):(Instr.lookup 105 (.map (some b)) k false).run prog w= .ok (CB F) w:=by
 obtain⟨es,clk,h1,h2,h3,h4,h5,h6⟩:=h;rcases hk with⟨rfl,rfl⟩|⟨rfl,rfl⟩|⟨rfl,rfl⟩|⟨rfl,rfl⟩|⟨rfl,rfl⟩
 .exact bP.xX dO underlying105 eo eO h1 1 _ h2
 .exact bP.xX dO underlying105 eo eO h1 3 _ h3
 .exact bP.xX dO underlying105 eo eO h1 5 _ h4
 .exact bP.xX dO underlying105 eo eO h1 7 _ h5
 .exact bP.xX dO underlying105 eo eO h1 8 _ h6
def Px(w:ax):xC 29 #[] w λe w'=>∃b,e=xR (.map (some b))/\jW w' b/\w.heap.size<=b/\aC w w':=by
 have h0:bP dO (w.alloc (.map #[] 0)) w [] 0:=(MapKept.heap_alloc w _).1;have⟨w0,hw0⟩:=bY (w.alloc (.map #[] 0));rw[<-hw0]at h0;have⟨w1,e1,h1,o1⟩:=iu h0 1 (CB 65) rfl;have⟨w2,e2,h2,o2⟩:=iu h1 2 (CB 66) rfl;have⟨w3,e3,h3,o3⟩:=iu h2 3 (CB 67) rfl;have⟨w4,e4,h4,o4⟩:=iu h3 4 (CB 68) rfl;have⟨w5,e5,h5,o5⟩:=iu h4 5 (CB 69) rfl;have⟨w6,e6,h6,o6⟩:=iu h5 6 (CB 70) rfl;have⟨w7,e7,h7,o7⟩:=iu h6 7 (CB 71) rfl;have⟨w8,e8,h8,o8⟩:=iu h7 8 (CB 72) rfl;have⟨w9,e9,h9,o9⟩:=iu h8 9 (CB 74) rfl;have⟨w10,e10,h10,o10⟩:=iu h9 10 (CB 75) rfl;have HO:Hd (aC w w10):=((((ao.refl xF w).alloc (.map #[] 0)).cV (hw0▸(((((((((o1.trans o2).trans o3).trans o4).trans o5).trans o6).trans o7).trans o8).trans o9).trans o10)) (λi hi bH=>by subst hi;omega)).ae);have HM:Hd (jW w10 w):=⟨_,_,h10,rfl,rfl,rfl,rfl,rfl⟩;clear h0 h1 h2 h3 h4 h5 h6 h7 h8 h9 h10 o1 o2 o3 o4 o5 o6 o7 o8 o9 o10;unfold CB at e1 e2 e3 e4 e5 e6 e7 e8 e9 e10;have hmk:=eM 105 w;rw[<-hw0]at hmk;clear hw0;go_enter func29,ntmps29;go_wp2;go_ret;exact⟨_,rfl,HM.o,bT,HO.o⟩
def Mc(x:aW)(M:aV)(w:ax)(hM:Bd M w)(lv ov rv qv:aA)(js:ab M w lv x.aK)(kM:ab M w ov x.aP)(iM:ab M w rv x.aF)(reach:List Int)(hq:ab xF w qv reach)(sT:x.aP.length<=1000)(hlr:reach.length<=1000)(news:Int):
 xC 28 #[.agg #[lv,ov,rv,x.next],qv,news] w λe w'=>∃p:qH,e=xR (xP p.T)/\p.ov=ov/\p.rv=rv/\(∀z,w'.heap.size<=z->FE M z p)/\(∀i,kS p i->w.heap.size<=i)/\(∀W,Below w' w' W->kT ⟨x.aK,x.next,reach,news,0,[],[],[],[]⟩ M W p W)/\aC w w':=by
 have HM:=ag hM;have MQ:=ag js;have HO:Hd (∀i o,x.aP[i]? =some o->_):=λi o ho=>iJ kM ho;have HQ:Hd (∀i n,reach[i]? =some n->_):=λi n hn=>pW hq hn;obtain⟨la,lc,rfl,-⟩:=js.aq;obtain⟨oa,oc,rfl,WK,hom,-⟩:=kM.aq;obtain⟨ra,rc,rfl,-⟩:=iM.aq;obtain⟨qa,qc,rfl,hqc,hqm,-⟩:=hq.aq;clear js kM iM hq hM;generalize oF:x.aK.length=m1 at*;generalize hm2:x.aP.length=m2 at*;generalize MU:x.aF.length=m3 at*;generalize hm4:reach.length=m4 at*;generalize re:x.next=nx at*;have zz:=ag oF;clear oF;have Qc:=ag hm2;clear hm2;have HM3:=ag MU;clear MU;have HM4:=ag hm4;clear hm4;have tj:=ag re;clear re;have hk1:=λW=>eM 96 W;have hk2:=λW=>eM 113 W;have vq:=λW=>eM 114 W;have hk4:=λW=>eM 115 W;have qbg:∀(a1 a2 a3:fx)(l1 l2 l3 c1 c2 c3:Nat)(n:Int)(mb:Nat)(W:ax),(Instr.build 112 #[(0, .agg #[xL a1 l1 c1,xL a2 l2 c2,xL a3 l3 c3,n]),(1, .map (some mb))]).run prog W= .ok (.agg #[xL a1 l1 c1,xL a2 l2 c2,xL a3 l3 c3,n, .map (some mb)]) W:=λ_ _ _ _ _ _ _ _ _ _ _ W=>run_build W _ _ _ (by kernel_rfl);have qbh:∀(a1 a2 a3:fx)(l1 l2 l3 c1 c2 c3:Nat)(n nw:Int)(mb b3 b4 b5 b6 b9:Nat)(W:ax),(Instr.build 117 #[(0, .agg #[xL a1 l1 c1,xL a2 l2 c2,xL a3 l3 c3,n, .map (some mb)]),(1,xI nw),(3, .map (some b3)),(4, .map (some b4)),(5, .map (some b5)),(6, .map (some b6)),(9, .map (some b9))]).run prog W= .ok (.agg #[xL a1 l1 c1,xL a2 l2 c2,xL a3 l3 c3,n, .map (some mb),nw,xI 0, .map (some b3), .map (some b4), .map (some b5), .map (some b6),(),(), .map (some b9)]) W:=λ_ _ _ _ _ _ _ _ _ _ _ _ _ _ _ _ _ W=>run_build W _ _ _ (by kernel_rfl);have cI:=ag (Bx.eI w (cT (xL la m1 lc) (xL oa m2 oc) (xL ra m3 rc) nx));have⟨a0,a1,a2,a3⟩:=af (cI.o.bO rfl);go_enter func28,ntmps28;go_upto_region 2 with fail;have⟨p,hp⟩:=bY ((⟨w.heap.size+1+1+1+1+1+1+1,w.heap.size+1,w.heap.size+1+1,w.heap.size+1+1+1,w.heap.size+1+1+1+1,w.heap.size+1+1+1+1+1,w.heap.size+1+1+1+1+1+1,xL oa m2 oc,xL ra m3 rc⟩:qH));have⟨W1,hW1⟩:=bY ((((((((w.alloc (xK #[xL la m1 lc,xL oa m2 oc,xL ra m3 rc,nx] 35)).alloc (.map #[] 0)).alloc (.map #[] 0)).alloc (.map #[] 0)).alloc (.map #[] 0)).alloc (.map #[] 0)).alloc (.map #[] 0)).alloc (xK #[xL la m1 lc,xL oa m2 oc,xL ra m3 rc,nx, .map (some [w]),news,xI 0, .map (some [w,w]), .map (some [w,w,w]), .map (some (w.heap.size+1+1+1+1)), .map (some (w.heap.size+1+1+1+1+1)),(),(), .map (some (w.heap.size+1+1+1+1+1+1))] 117));have HB:=ag (show Bx w [cT (xL la m1 lc) (xL oa m2 oc) (xL ra m3 rc) nx, .map #[] 0, .map #[] 0, .map #[] 0, .map #[] 0, .map #[] 0, .map #[] 0,qhe p (xL la m1 lc) nx news 0 () ()] W1 by
  rw[hW1,hp];exact((((Bx.NQ w _ _ _ _ _).snoc (by simp) _).snoc (by simp) _).snoc (by simp) _));rw[<-hW1];clear hW1 a0 a1 a2 a3 hk1 hk2 vq hk4 qbg qbh cI;have uq:=ag (show p.T=↑w+7/\p.rb=[w]/\p.mo=↑w+2/\p.ml=↑w+3/\p.mr=↑w+4/\p.ms=↑w+5/\p.sb=↑w+6 by rw[hp];exact⟨rfl,rfl,rfl,rfl,rfl,rfl,rfl⟩);have HPV:=ag (show p.ov=xL oa m2 oc/\p.rv=xL ra m3 rc by rw[hp];exact⟨rfl,rfl⟩);have q7:w.heap.size+1+1+1+1+1+1+1=p.T:=by rw[hp]
 have q6:w.heap.size+1+1+1+1+1+1=p.sb:=by rw[hp]
 have q5:w.heap.size+1+1+1+1+1=p.ms:=by rw[hp]
 have q4:w.heap.size+1+1+1+1=p.mr:=by rw[hp]
 have q3:w.heap.size+1+1+1=p.ml:=by rw[hp]
 have q2:w.heap.size+1+1=p.mo:=by rw[hp]
 have q1:w.heap.size+1=p.rb:=by rw[hp]
 rw[q7,q6,q5,q4,q3,q2,q1];clear q1 q2 q3 q4 q5 q6 q7 hp;have MR:=ag (show bW W1 p.T (qhe p (xL la m1 lc) nx news 0 () ())by rw[uq.o.1];exact HB.o.at_ 7 rfl);have HRB:=ag (show bW W1 p.rb (.map #[] 0)by rw[uq.o.2.1];exact HB.o.at_ 1 rfl);have A6:=ag (show bW W1 p.mo (.map #[] 0)by rw[uq.o.2.2.1];exact HB.o.at_ 2 rfl);have TK:=ag (show bW W1 p.ml (.map #[] 0)by rw[uq.o.2.2.2.1];exact HB.o.at_ 3 rfl);have Bf:=ag (show bW W1 p.mr (.map #[] 0)by rw[uq.o.2.2.2.2.1];exact HB.o.at_ 4 rfl);have HMS:=ag (show bW W1 p.ms (.map #[] 0)by rw[uq.o.2.2.2.2.2.1];exact HB.o.at_ 5 rfl);have S0:=ag (show bW W1 p.sb (.map #[] 0)by rw[uq.o.2.2.2.2.2.2];exact HB.o.at_ 6 rfl);have ui:Hd (dk W1 w (cT (xL la m1 lc) (xL oa m2 oc) (xL ra m3 rc) nx)):=HB.o.bO rfl;have Cy:Hd (w.heap.size+8<=W1):=HB.o.bQ;have qbi:gN dO W1 p.rb (reach.take 0):=by rw[List.take_zero];exact gN.at_ HRB.o
 have IP:Hd (gN dO W1 p.rb (reach.take 0)/\ao (λk=>k=p.rb) W1 W1):=⟨qbi,ao.refl _ _⟩;clear qbi;go_wp2;go_loopg [9,25]m4(λgg _ iv wr=>∃i:Nat,gg=m4-i/\i<=m4/\iv=xI i/\Hd (gN dO wr p.rb (reach.take i)/\ao (λk=>k=p.rb) W1 wr));case atStart=>exact⟨0,rfl,Qbf _,rfl,IP⟩
 case round=>
  obtain⟨i,rfl,hi,rfl,HS⟩:=hrel;rename World=>wr;have Fw:Hd (aC w wr):=bq HB.o.1 HB.o.1.size HS.o.2 (λk hk=>by have hk:k=p.rb:=hk;have:=uq.o;omega);by_cases bH:i<m4
  .have⟨nn,hnn⟩:=eG reach i (by have:=HM4.o;omega);have⟨b,off,cap,hv,hbl,hcl⟩:=HQ.o i nn hnn;obtain⟨rfl,rfl⟩:=iY hv;have c0:=hcl wr Fw.o;obtain⟨-,-,c4,-⟩:=dJ ((HS.o.2.block p.T (by have:=uq.o;have:=Cy.o;omega) (by have:=uq.o;omega)).trans MR.o);have⟨w2,hput,hs2,ho2⟩:=L8 HS.o.1 nn;have HN:Hd (gN dO w2 p.rb (reach.take (i+1))/\ao (λk=>k=p.rb) W1 w2):=⟨by rw[Qbb,hnn];exact hs2,HS.o.2.trans ho2⟩;clear hv hbl hcl hs2 ho2 hnn;go_wp2;go_roundg(m4-(i+1));case measure=>omega
   case rel=>exact⟨i+1,rfl,by omega,by go_num,HN⟩
  .obtain rfl:i=m4:=by omega
   obtain⟨-,a1,-,-⟩:=af ((HS.o.2.block w (by have:=Cy.o;omega) (by have:=uq.o;omega)).trans ui.o);have HSR:=ag (show gN dO wr p.rb reach by
    have h1:=HS.o.1;rw[Qah (by rw[HM4.o];exact bT)]at h1;exact h1);have QL:Hd ((∃l,fV (λk=>M k\/k=p.ml) wr p.ml l)/\gN dO wr p.rb reach/\ao (λk=>k=p.rb\/k=p.ml) W1 wr):=⟨⟨[],fV.at_ ((HS.o.2.block p.ml (by have:=uq.o;have:=Cy.o;omega) (by have:=uq.o;omega)).trans TK.o)⟩,HSR.o,HS.o.2.mono λk hk=> .inl hk⟩;clear HS HSR;go_wp2;go_loopg [11,39]m2(λgg _ iv wq=>∃j:Nat,gg=m2-j/\j<=m2/\iv=xI j/\Hd ((∃l,fV (λk=>M k\/k=p.ml) wq p.ml l)/\gN dO wq p.rb reach/\ao (λk=>k=p.rb\/k=p.ml) W1 wq));case atStart=>exact⟨0,rfl,Qbf _,rfl,QL⟩
   case round=>
    obtain⟨j,rfl,hj,rfl,HS⟩:=hrel;rename World=>wq;have Td:Hd (aC w wq):=bq HB.o.1 HB.o.1.size HS.o.2.2 (λk hk=>by have hk:k=p.rb\/k=p.ml:=hk;have:=uq.o;omega);by_cases bH:j<m2
    .have⟨o,ho⟩:=eG x.aP j (by have:=Qc.o;omega);have⟨b,off,cap,va,vc,hv,hbl,hvs,hcl⟩:=HO.o j o ho;obtain⟨rfl,rfl⟩:=iY hv;have⟨c0,c1,c2,c3⟩:=hcl wq Td.o;have⟨⟨l,hob⟩,Xa,hon⟩:=HS.o;have yS:=ag hvs;clear hv hbl hcl hvs;go_upto_region 10 with fail;have⟨W6,hW6⟩:=bY (wq.alloc (eh o (xL va o.aZ.length vc)));have kE:=ag (show aC wq W6 by rw[hW6];exact bU);have yT:=ag (show dk W6 wq (eh o (xL va o.aZ.length vc))by rw[hW6];exact Qbh wq _);unfold eh at hW6;rw[<-hW6];clear hW6 c0 c1 c2 c3;have hvE:∀V,aC wq V->ab (λk=>M k\/k=p.ml) V (xL va o.aZ.length vc) o.aZ:=λV hb=>yS.o.ev ⟨ao.az (Td.o.trans (hb.mono Td.o.size)),λk hk=>hk.imp_right λe=>by have:=uq.o;omega⟩;have⟨wa,ea,ma,na⟩:=(hob.ae kE.o).put (o:=o) (vv:=xL va o.aZ.length vc) (.inr rfl) (hvE _ kE.o);have⟨wb,eb,mb,nb⟩:=(hob.ae kE.o.drew).put (o:=o) (vv:=xL va o.aZ.length vc) (.inr rfl) (hvE _ kE.o.drew);have re:∀V V2,aC wq V->ao (λk=>k=p.ml) V V2->gN dO V2 p.rb reach/\ao (λk=>k=p.rb\/k=p.ml) W1 V2:=λV V2 hb h2=>⟨Xa.same ((h2.block _ (Qde Xa.lt hb.size) (by have:=uq.o;omega)).trans (hb.block _ Xa.lt)),(hon.trans (ao.az hb)).trans (h2.mono λk hk=> .inr hk)⟩;have HNA:=ag (And.intro (Exists.intro _ ma) (re _ _ kE.o na));have Zr:=ag (And.intro (Exists.intro _ mb) (re _ _ kE.o.drew nb));have⟨x0,x1,x2,x3⟩:=af yT.o;have Tf:=(kE.o.block p.T (by have:=uq.o;have:=Cy.o;have:=hon.size;omega)).trans ((hon.block p.T (by have:=uq.o;have:=Cy.o;omega) (by have:=uq.o;omega)).trans MR.o);have y8:bJ W6 p.T 8 (.map (some p.ml)):=by unfold qhe at Tf;simp[World.cell?,Tf]
     dsimp only[qS]at ea eb;clear hob Xa hon hvE ma na mb nb re Tf;go_region_law fail;all_goals
      clear x0 x1 x2 x3 y8 ea eb;go_wp2;go_roundg(m2-(j+1));case measure=>omega
      case rel=>first|exact⟨j+1,rfl,by omega,by go_num,Zr⟩|exact⟨j+1,rfl,by omega,by go_num,HNA⟩
    .obtain rfl:j=m2:=by omega
     go_wp2;go_ret;obtain⟨-,Xa,hon⟩:=HS.o;have hP:=uq.o;have hz:=Cy.o;have hzq:=hon.size;have qbj:∀k,k<W1.heap.size->k≠p.rb->k≠p.ml->wq.heap[k]? =W1.heap[k]? :=λk hk h1 h2=>hon.block k hk (λhh=>hh.elim h1 h2);have hS:∀k,kS p k->w.heap.size+1<=k/\k<=w.heap.size+7:=λk hk=>by
      unfold kS at hk;omega
     refine⟨p,rfl,HPV.o.1,HPV.o.2,λz hzz=>⟨λk hk=>by have:=hS k hk;omega,λk hk=>by have:=HM.o k hk;omega,?_⟩,λk hk=>by have:=hS k hk;omega,λW hb=> ?_,Td.o⟩
     .obtain⟨e1,e2,e3,e4,e5,e6,e7⟩:=hP;rw[e1,e2,e3,e4,e5,e6,e7];simp
     .have hE:Ev M w (bu () (nh M p)) wq:=⟨ao.az Td.o,λk hk=>by
       rcases hk with(hk|hk)|hk
       .exact .inl hk
       .right;have:=hS k hk;omega
       .cases hk⟩;have hk2:∀k,k<W1.heap.size->k≠p.rb->k≠p.ml->W.heap[k]? =W1.heap[k]? :=λk hk h1 h2=>(hb.block k (by omega)).trans (qbj k hk h1 h2);refine⟨⟨xL la m1 lc,(),(),?_,(MQ.o.ev hE).ae hb,⟨ab.nil _ _,λ_=>rfl⟩,aS.nil _ _ _ _,fV.at_ ((hk2 _ (by omega) (by omega) (by omega)).trans A6.o)⟩,Xa.same (hb.block _ Xa.lt),iq.at_ ((hk2 _ (by omega) (by omega) (by omega)).trans Bf.o),(hk2 _ (by omega) (by omega) (by omega)).trans HMS.o,gN.at_ ((hk2 _ (by omega) (by omega) (by omega)).trans S0.o),bT⟩;exact(hk2 _ (by omega) (by omega) (by omega)).trans MR.o
end
end Go.Proofs.YtepaofffbkfodaaGreatDoor
