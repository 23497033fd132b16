/- A part; no condition. -/
import Derived.Test.YtpjdjlnknfmfkaaGreatDoorM14
import Derived.Test.YtpjdjlnknfmfkaaGreatDoorM15
import Derived.Shelf.SlSortCmp.NoneTotal
set_option linter.all false
set_option maxHeartbeats 8000000
set_option maxRecDepth 100000
namespace Go.Proofs.YtpjdjlnknfmfkaaGreatDoor
open Go.Proofs.Tryz
variable{i g cap base k b B clk j p K:Nat}{W w w' w0 W':bq}{M M':bY}{l:List bE}{cur:Array bt}{o1 o0:Obj}{v fv sv:bt}{id:Int}
section
open Go.RowKit Go.Shelf Go.Lib
open Go.Sort (flatK size_flatK get_flatK HoldsK PermIn SortedIn SWO putRowK mapBlock grow)
section
variable {α β:Type}
def sQ(R:β->α->Prop):List β->List α->Prop
 |[],[]=>True
 |b::d,x::xs=>R b x/\sQ R d xs
 |_,_=>False
theorem sQ.length {R:β->α->Prop}:∀{d:List β}{xs:List α},sQ R d xs->d.length=xs.length
 |[],[],_=>rfl
 |_::_,_::_,h=>by simp[sQ.length h.2]
 |[],_::_,h=>h.elim
 |_::_,[],h=>h.elim
theorem sQ.at_ {R:β->α->Prop}:∀{d:List β}{xs:List α},sQ R d xs->∀(i:Nat)(b:β)(x:α),d[i]? =some b->xs[i]? =some x->R b x
 |[],[],_,i,b,x,h,_=>by simp at h
 |a::d,y::xs,h,0,b,x,h1,h2=>by
  simp at h1 h2;subst h1;subst h2;exact h.1
 |a::d,y::xs,h,i+1,b,x,h1,h2=>sQ.at_ h.2 i b x (by simpa using h1) (by simpa using h2)
 |[],_::_,h,_,_,_,_,_=>h.elim
 |_::_,[],h,_,_,_,_,_=>h.elim
def sQ.perm {R:β->α->Prop}{d d':List β}(hp:d.Perm d'):∀{xs:List α},sQ R d xs->∃ys,xs.Perm ys/\sQ R d' ys:=by
 induction hp with
 |nil=>
  intro xs h;cases xs with
  |nil=>exact⟨[], .refl _,trivial⟩
  |cons a r=>exact h.elim
 |cons b _ ih=>
  intro xs h;cases xs with
  |nil=>exact h.elim
  |cons a r=>
   have⟨ys,h1,h2⟩:=ih h.2;exact⟨a::ys,h1.cons a,h.1,h2⟩
 |swap b c l=>
  intro xs h;match xs,h with
  |a::e::r,h=>exact⟨e::a::r, .swap _ _ _,h.2.1,h.1,h.2.2⟩
 |trans _ _ ih1 ih2=>
  intro xs h;have⟨ys,h1,h2⟩:=ih1 h;have⟨zs,h3,h4⟩:=ih2 h2;exact⟨zs,h1.trans h3,h4⟩
end
def getD_at {α:Type} [Inhabited α]{l:List α}{x:α}(h:l[i]? =some x):l.toArray[i]! =x:=by
 have⟨h1,h2⟩:=ag.1 h;rw[getElem!_pos l.toArray i (by simpa using h1)];simpa using h2
structure Ed(α:Type) [bD α](β:Type)(κ:Type)where
 enc:β->List bt
 key:β->κ
 keyA:α->κ
 len:∀b,(enc b).length=bD.size α
 one:∀b,∀v∈enc b,v.oneCell'=true
 dec:∀{M:bY}{w:bq}{cs:List bt}{x:α},bD.rep M w cs x->∃b,enc b=cs/\key b=keyA x
section
variable {α:Type} [bD α]{β:Type} [Inhabited β]{κ:Type}(E:Ed α β κ)
omit [Inhabited β] in
theorem Ed.Zj {N:Nat->Prop}{w:World}:∀{css:List (List Value)}{xs:List α},css.length=xs.length->(∀(i:Nat)(cs:List Value)(x:α),css[i]? =some cs->xs[i]? =some x->bD.rep N w cs x)->∃d:List β,d.map E.enc=css/\sQ (λb x=>bD.rep N w (E.enc b) x/\E.key b=E.keyA x) d xs
 |[],[],_,_=>⟨[],rfl,trivial⟩
 |cs::css,x::xs,hl,h=>by
  have⟨b,h1,h2⟩:=E.dec (h 0 cs x rfl rfl);have⟨d,h3,h4⟩:=Ed.Zj (css:=css) (xs:=xs) (by simpa using hl) λi c y hc hy=>h (i+1) c y (by simpa using hc) (by simpa using hy);refine⟨b::d,by simp[h1,h3],⟨by rw[h1];exact h 0 cs x rfl rfl,h2⟩,h4⟩
 |[],_::_,hl,_=>by simp at hl
 |_::_,[],hl,_=>by simp at hl
theorem Ed.holds {w:World}{base g n cap:Nat}{e:TypeId}{d:List β}(hn:d.length=n)(h:w.ownsRow base e (bD.size α) (.slice (g,0) n cap) n (d.map E.enc).flatten):HoldsK E.enc (bD.size α) w g 0 d.toArray:=by
 intro j hj;rw[size_flatK]at hj;have hj':j<n*bD.size α:=by simpa [hn]using hj
 rw[Nat.zero_add,h.cellAt j hj'];refine⟨?_,h.frozenAt j⟩;have NN:0<bD.size α:=by
  rcases Nat.eq_zero_or_pos (bD.size α)with h0|h0
  .rw[h0]at hj';simp at hj'
  exact h0
 have hq:j/bD.size α<d.length:=by
  rw[hn];exact(Nat.div_lt_iff_lt_mul NN).2 hj'
 have hb:d[j/bD.size α]? =some d[j/bD.size α]:=af hq;have hm:j%bD.size α<(E.enc d[j/bD.size α]).length:=by rw[E.len];exact Nat.mod_lt _ NN
 have h1:=jt (css:=d.map E.enc) (size:=bD.size α) (λi cs hcs=>by
  rw[List.getElem?_map]at hcs;obtain⟨b,_,rfl⟩:=Option.map_eq_some_iff.1 hcs;exact E.len b) (j/bD.size α) (E.enc d[j/bD.size α]) (j%bD.size α) _ (by rw[List.getElem?_map,hb];rfl) (af hm);rw[show j/bD.size α*bD.size α+j%bD.size α=j from Nat.div_add_mod' _ _]at h1;rw[h1,id,get_flatK _ _ _ _ hj,getD_at hb,getElem!_pos (E.enc d[j/bD.size α]) (j%bD.size α) hm]
def Ed.slice {n:Nat}{d:Array β}{ys:List α}(hd:d.size=n)(hn:n<=cap)(hc:cap<=maxLen)(hg:g<W)(hM:¬M g)(h:HoldsK E.enc (bD.size α) W g 0 d)(hr:sQ (λb x=>bD.rep M W (E.enc b) x) d.toList ys):aS M W (xL (g,0) n cap) ys:=by
 have UI:=hr.length;rw[Array.length_toList,hd]at UI;have hlen:∀(i:Nat)(cs:List bt),(d.toList.map E.enc)[i]? =some cs->cs.length=bD.size α:=λi cs hcs=>by
  rw[List.getElem?_map]at hcs;obtain⟨b,_,rfl⟩:=Option.map_eq_some_iff.1 hcs;exact E.len b
 have JE:∀(l:List β),(l.map E.enc).flatten.length=l.length*bD.size α:=λl=>by
  induction l with
  |nil=>simp
  |cons a r ih=>rw[List.map_cons,List.flatten_cons,aJ,ih,E.len,aC,Nat.succ_mul,Nat.add_comm]
 refine⟨d.toList.map E.enc,⟨?_,_,cap,by rw[UI],by omega,hc,λh0=>⟨g,0,rfl,hM,hg,λj u hu=> ?_⟩⟩,by rw[aL,Array.length_toList,hd,UI],λi cs x hcs hx=> ?_⟩
 .rw[JE,Array.length_toList,hd,UI]
 .have hj:=(ag.1 hu).1;rw[JE,Array.length_toList]at hj;have NN:0<bD.size α:=by
   rcases Nat.eq_zero_or_pos (bD.size α)with h0|h0
   .rw[h0]at hj;simp at hj
   exact h0
  have hq:j/bD.size α<d.size:=(Nat.div_lt_iff_lt_mul NN).2 hj;have hb:d.toList[j/bD.size α]? =some d[j/bD.size α]:=by rw[Array.getElem?_toList];exact Array.getElem?_eq_getElem hq
  have hm:j%bD.size α<(E.enc d[j/bD.size α]).length:=by rw[E.len];exact Nat.mod_lt _ NN
  have h1:=jt (css:=d.toList.map E.enc) (size:=bD.size α) hlen (j/bD.size α) (E.enc d[j/bD.size α]) (j%bD.size α) _ (by rw[List.getElem?_map,hb];rfl) (af hm);rw[show j/bD.size α*bD.size α+j%bD.size α=j from Nat.div_add_mod' _ _,hu]at h1;have h2:=(h j (by rw[size_flatK];exact hj)).1;rw[h2,_root_.id,get_flatK _ _ _ _ hj,getElem!_pos d (j/bD.size α) hq,getElem!_pos (E.enc d[j/bD.size α]) (j%bD.size α) hm];exact h1.symm
 rw[List.getElem?_map]at hcs;obtain⟨b,hb,rfl⟩:=Option.map_eq_some_iff.1 hcs;exact hr.at_ i b x hb hx
omit [bD α] in
def Hy {enc:β->List Value}{k:Nat}{w:World}{g n:Nat}{d:Array β}{os:Array Obj}:bh (λi=>i=g) w (sortWorldK enc k w g 0 n d os):=by
 refine⟨rfl,rfl,rfl,?_,λi hi hS=> ?_⟩
 .exact size_sortWorldK_c enc k w g 0 n d os
 unfold sortWorldK grow putRowK Go.Sort.putRow mapBlock;show((w.heap.modify g _)++os)[i]? =_;rw[Array.getElem?_append_left (by simpa using hi),Array.getElem?_modify];rw[if_neg (λe=>hS e.symm)]
def yh {P:Program}{ρ:Ren}(L:SlLaysF0.n6 P ρ)(aE:∀w,(isAgg (ρ.t 24)).run P w= .ok true w)(zE:∀w,(Go.sizeOf (ρ.t 24)).run P w= .ok (bD.size α) w)(cf:β->β->Int)(lt:κ->κ->Bool)(cE:∀b c,ltOf cf b c=lt (E.key b) (E.key c))(hO:SWO (ltOf cf))(G:Nat)
 (eg:∀args w,(callFunc G args).run P w= .ok (.enter G args) w)(hcl:∀(x y:β)(W:World),Calls P G #[.agg (E.enc x).toArray, .agg (E.enc y).toArray] W λe w'=>e= .returned (.int .i64 (cf x y))/\∃q os',w'=grow (W.drewN q) os')
 (M:Nat->Prop)(base:Nat)(e:TypeId)(w:World)(v:Value)(xs:List α)(h:bP M base e w v xs)(hM:∀g,v.ownBlock=some g->¬M g)(hx:xs.length<1000000):
 Calls P (ρ.f 6) #[v, .func (.func G) #[] #[]] w λe w'=>e= .returned (.tuple #[])/\∃ys,xs.Perm ys/\(ys.map E.keyA).Pairwise (λa b=>lt b a=false)/\aS M w' v ys/\bh (λi=>v.ownBlock=some i) w w':=by
 obtain⟨css,hown,qdv,hrep⟩:=h;have qaj:=hown;rcases qaj.2 with⟨rfl,h0⟩|⟨g,cap,cur,rfl,hb,hh,Yb,Jo,hcs,htk⟩
 .have QJ:xs=[]:=List.length_eq_zero_iff.1 h0;subst QJ;refine(AnyF.slices_SortFunc_none L none 0 _ w).mono ?_;rintro e w'⟨rfl,rfl⟩;exact⟨rfl,[], .refl _,by simp,aS.nil _ _,bh.refl _ _⟩
 have⟨d,hd,hR⟩:=E.Zj qdv hrep;subst hd;have hdl:=hR.length;have hH:=E.holds hdl hown;have hgl:=(ab.1 hh).1;have hsz:d.toArray.size=xs.length:=by simpa using hdl
 have UJ:=AnyQ.slices_SortFunc L (bD.size α) aE zE E.enc E.len E.one cf hO G #[] g 0 cap d.toArray w eg (λ_ _ _ _ x y=>by
  have:=hcl x y (sortWorldK E.enc (bD.size α) w g 0 ‹_› ‹_› ‹_›);exact this) hH hgl (by omega);rw[hsz]at UJ;refine UJ.mono ?_;rintro e w'⟨rfl,d',n,os,hp,hs,rfl⟩;obtain⟨hps,_,iJ⟩:=hp;have UK:∀a:Array β,a.size=xs.length->a.extract 0 xs.length=a:=λa ha=>by rw[<-ha];exact Array.extract_size
 rw[UK _ (by rw[hps,hsz]),UK _ hsz]at iJ;have⟨ys,hy1,hy2⟩:=hR.perm iJ.symm;have hO':=Hy (enc:=E.enc) (k:=bD.size α) (w:=w) (g:=g) (n:=n) (d:=d') (os:=os);have hyl:=hy2.length;refine⟨rfl,ys,hy1,?_,?_,hO'.mono (λi hi=>by subst hi;rfl)⟩
 .refine List.pairwise_iff_getElem.2 λi j hi hj hij=> ?_;rw[aL]at hi hj;rw[List.getElem_map,List.getElem_map];rw[Array.length_toList]at hyl;have hdi:d'.toList[i]? =some d'[i]:=by rw[Array.getElem?_toList];exact Array.getElem?_eq_getElem (by omega)
  have hdj:d'.toList[j]? =some d'[j]:=by rw[Array.getElem?_toList];exact Array.getElem?_eq_getElem (by omega)
  have k1:=(hy2.at_ i _ _ hdi (af hi)).2;have k2:=(hy2.at_ j _ _ hdj (af hj)).2;have hs1:=hs i j (ax _) hij (by omega);rw[getElem!_pos d' j (by omega),getElem!_pos d' i (by omega),cE,k1,k2]at hs1;exact hs1
 have hgM:¬M g:=hM g rfl;refine E.slice (by rw[hps,hsz]) Yb Jo (aN hgl hO'.size) hgM (holdsK_sortWorldK_c E.enc (bD.size α) w g 0 d.toArray d' n os hH hgl hps) ?_;have hEv:Ev (cz (.slice (g,0) xs.length cap) M) w M (sortWorldK E.enc (bD.size α) w g 0 n d' os):=⟨hO'.mono (λi hi=>by subst hi;exact .inr rfl),λi hi=> .inl (.inl hi)⟩;have mono:∀{l:List β}{zs:List α},sQ (λb x=>bD.rep (cz (.slice (g,0) xs.length cap) M) w (E.enc b) x/\E.key b=E.keyA x) l zs->sQ (λb x=>bD.rep M (sortWorldK E.enc (bD.size α) w g 0 n d' os) (E.enc b) x) l zs:=by
  intro l;induction l with
  |nil=>intro zs hz;cases zs with
   |nil=>trivial
   |cons _ _=>exact hz.elim
  |cons b l ih=>intro zs hz;cases zs with
   |nil=>exact hz.elim
   |cons z zs=>exact⟨bD.ev hz.1.1 hEv,ih hz.2⟩
 exact mono hy2
end
end
section
open Go.RowKit Go.Shelf Go.Lib
open Go.Sort (SWO grow alloc_eq_grow grow_grow)
def IL:Go.Shelf.Ren:=⟨λ|6=>95|15=>164|14=>175|28=>225|29=>226|20=>233|21=>234|22=>235|23=>236|24=>237|25=>238|26=>239|27=>240|46=>286|47=>280|48=>281|49=>287|50=>288|57=>337|n=>n,λ|22=>31|24=>41|25=>191|3=>3|39=>248|0=>0|53=>305|55=>307|4=>4|46=>299|45=>298|50=>63|5=>5|9=>9|66=>359|70=>363|76=>404|77=>405|n=>n,λ|n=>n⟩
def VO:Go.Proofs.SlLaysF0.n6 prog IL:={
 mixed:=by kernel_rfl
 f6:=⟨Tryz.f95.name,by decide,Tryz.func95.trans (by kernel_rfl)⟩
 f14:=⟨Tryz.f175.name,by decide,Tryz.func175.trans (by kernel_rfl)⟩
 f15:=Tryz.func164.trans (by kernel_rfl)
 f20:=⟨Tryz.f233.name,by decide,Tryz.func233.trans (by kernel_rfl)⟩
 f21:=⟨Tryz.f234.name,by decide,Tryz.func234.trans (by kernel_rfl)⟩
 f22:=⟨Tryz.f235.name,by decide,Tryz.func235.trans (by kernel_rfl)⟩
 f23:=⟨Tryz.f236.name,by decide,Tryz.func236.trans (by kernel_rfl)⟩
 f24:=⟨Tryz.f237.name,by decide,Tryz.func237.trans (by kernel_rfl)⟩
 f25:=⟨Tryz.f238.name,by decide,Tryz.func238.trans (by kernel_rfl)⟩
 f26:=⟨Tryz.f239.name,by decide,Tryz.func239.trans (by kernel_rfl)⟩
 f27:=⟨Tryz.f240.name,by decide,Tryz.func240.trans (by kernel_rfl)⟩
 f28:=Tryz.func225.trans (by kernel_rfl)
 f29:=Tryz.func226.trans (by kernel_rfl)
 f46:=⟨Tryz.f286.name,by decide,Tryz.func286.trans (by kernel_rfl)⟩
 f47:=Tryz.func280.trans (by kernel_rfl)
 f48:=Tryz.func281.trans (by kernel_rfl)
 f49:=⟨Tryz.f287.name,by decide,Tryz.func287.trans (by kernel_rfl)⟩
 f50:=⟨Tryz.f288.name,by decide,Tryz.func288.trans (by kernel_rfl)⟩
 f57:=⟨Tryz.f337.name,by decide,Tryz.func337.trans (by kernel_rfl)⟩
 t0:=underlying0
 a0:=isAgg0
 z0:=sizeOf0
 v0:=zeroValue0
 t3:=underlying3
 a3:=isAgg3
 z3:=sizeOf3
 v3:=zeroValue3
 t4:=underlying4
 a4:=isAgg4
 z4:=sizeOf4
 v4:=zeroValue4
 t5:=underlying5
 a5:=isAgg5
 z5:=sizeOf5
 v5:=zeroValue5
 t9:=underlying9
 a9:=isAgg9
 z9:=sizeOf9
 v9:=zeroValue9
 t22:=underlying31
 a22:=isAgg31
 z22:=sizeOf31
 v22:=zeroValue31
 t25:=underlying191
 a25:=isAgg191
 z25:=sizeOf191
 v25:=zeroValue191
 t39:=underlying248
 a39:=isAgg248
 z39:=sizeOf248
 v39:=zeroValue248
 t45:=underlying298
 a45:=isAgg298
 z45:=sizeOf298
 v45:=zeroValue298
 t46:=underlying299
 a46:=isAgg299
 z46:=sizeOf299
 v46:=zeroValue299
 t50:=underlying63
 a50:=isAgg63
 z50:=sizeOf63
 v50:=zeroValue63
 t53:=underlying305
 a53:=isAgg305
 z53:=sizeOf305
 v53:=zeroValue305
 t55:=underlying307
 a55:=isAgg307
 z55:=sizeOf307
 v55:=zeroValue307
 t66:=underlying359
 a66:=isAgg359
 z66:=sizeOf359
 v66:=zeroValue359
 t70:=underlying363
 a70:=isAgg363
 z70:=sizeOf363
 v70:=zeroValue363
 t76:=underlying404
 a76:=isAgg404
 z76:=sizeOf404
 v76:=zeroValue404
 t77:=underlying405
 a77:=isAgg405
 z77:=sizeOf405
 v77:=zeroValue405}
def IM:Go.Shelf.Ren:=⟨λ|6=>97|15=>164|14=>176|28=>225|29=>226|20=>241|21=>242|22=>243|23=>244|24=>245|25=>246|26=>247|27=>248|46=>289|47=>280|48=>281|49=>290|50=>291|57=>338|n=>n,λ|22=>32|24=>37|25=>193|3=>3|39=>248|0=>0|53=>305|55=>307|4=>4|46=>299|45=>298|50=>63|5=>5|9=>9|66=>359|70=>363|76=>404|77=>405|n=>n,λ|n=>n⟩
def VP:Go.Proofs.SlLaysF0.n6 prog IM:={
 mixed:=by kernel_rfl
 f6:=⟨Tryz.f97.name,by decide,Tryz.func97.trans (by kernel_rfl)⟩
 f14:=⟨Tryz.f176.name,by decide,Tryz.func176.trans (by kernel_rfl)⟩
 f15:=Tryz.func164.trans (by kernel_rfl)
 f20:=⟨Tryz.f241.name,by decide,Tryz.func241.trans (by kernel_rfl)⟩
 f21:=⟨Tryz.f242.name,by decide,Tryz.func242.trans (by kernel_rfl)⟩
 f22:=⟨Tryz.f243.name,by decide,Tryz.func243.trans (by kernel_rfl)⟩
 f23:=⟨Tryz.f244.name,by decide,Tryz.func244.trans (by kernel_rfl)⟩
 f24:=⟨Tryz.f245.name,by decide,Tryz.func245.trans (by kernel_rfl)⟩
 f25:=⟨Tryz.f246.name,by decide,Tryz.func246.trans (by kernel_rfl)⟩
 f26:=⟨Tryz.f247.name,by decide,Tryz.func247.trans (by kernel_rfl)⟩
 f27:=⟨Tryz.f248.name,by decide,Tryz.func248.trans (by kernel_rfl)⟩
 f28:=Tryz.func225.trans (by kernel_rfl)
 f29:=Tryz.func226.trans (by kernel_rfl)
 f46:=⟨Tryz.f289.name,by decide,Tryz.func289.trans (by kernel_rfl)⟩
 f47:=Tryz.func280.trans (by kernel_rfl)
 f48:=Tryz.func281.trans (by kernel_rfl)
 f49:=⟨Tryz.f290.name,by decide,Tryz.func290.trans (by kernel_rfl)⟩
 f50:=⟨Tryz.f291.name,by decide,Tryz.func291.trans (by kernel_rfl)⟩
 f57:=⟨Tryz.f338.name,by decide,Tryz.func338.trans (by kernel_rfl)⟩
 t0:=underlying0
 a0:=isAgg0
 z0:=sizeOf0
 v0:=zeroValue0
 t3:=underlying3
 a3:=isAgg3
 z3:=sizeOf3
 v3:=zeroValue3
 t4:=underlying4
 a4:=isAgg4
 z4:=sizeOf4
 v4:=zeroValue4
 t5:=underlying5
 a5:=isAgg5
 z5:=sizeOf5
 v5:=zeroValue5
 t9:=underlying9
 a9:=isAgg9
 z9:=sizeOf9
 v9:=zeroValue9
 t22:=underlying32
 a22:=isAgg32
 z22:=sizeOf32
 v22:=zeroValue32
 t25:=underlying193
 a25:=isAgg193
 z25:=sizeOf193
 v25:=zeroValue193
 t39:=underlying248
 a39:=isAgg248
 z39:=sizeOf248
 v39:=zeroValue248
 t45:=underlying298
 a45:=isAgg298
 z45:=sizeOf298
 v45:=zeroValue298
 t46:=underlying299
 a46:=isAgg299
 z46:=sizeOf299
 v46:=zeroValue299
 t50:=underlying63
 a50:=isAgg63
 z50:=sizeOf63
 v50:=zeroValue63
 t53:=underlying305
 a53:=isAgg305
 z53:=sizeOf305
 v53:=zeroValue305
 t55:=underlying307
 a55:=isAgg307
 z55:=sizeOf307
 v55:=zeroValue307
 t66:=underlying359
 a66:=isAgg359
 z66:=sizeOf359
 v66:=zeroValue359
 t70:=underlying363
 a70:=isAgg363
 z70:=sizeOf363
 v70:=zeroValue363
 t76:=underlying404
 a76:=isAgg404
 z76:=sizeOf404
 v76:=zeroValue404
 t77:=underlying405
 a77:=isAgg405
 z77:=sizeOf405
 v77:=zeroValue405}
def tx(a b:Int)(w:bq):xC 85 #[a,b] w (j7 (Lib.compareInt a b) w):=by
 rcases Int.lt_trichotomy a b with h|h|h;all_goals
  have h1:Lib.compareInt a b=(if a<b then-1 else if a>b then 1 else 0):=rfl;first
   |rw[if_pos h]at h1
   |(rw[if_neg (by omega),if_neg (by omega)]at h1)
   |(rw[if_neg (by omega),if_pos (by omega)]at h1)
  rw[h1];delta xC;go_in;go_wp2_with fail;refine ey (L8 _ _) ?_;go_wp2_with fail;refine ey (L8 _ _) ?_;go_wp2;go_ret;exact⟨rfl,rfl⟩
def qg(a b:bS):Int:=if gP a b then-1 else if gP b a then 1 else 0
def Kt(a b:bS)(w:bq):xC 87 #[a,b] w (j7 (qg a b) w):=by
 have hc:qg a b=(if gP a b then-1 else if gP b a then 1 else 0):=rfl;rcases nO a b with h|h|h
 .rw[if_pos h]at hc;rw[hc];have h1:Op.bytesLess a.toList b.toList=true:=h;go_enter func87,ntmps87;go_wp2_with fail;refine ey (zJ _ _) ?_;go_wp2_with fail;refine ey (zJ _ _) ?_;go_wp2;go_ret;exact⟨rfl,rfl⟩
 .subst h;rw[dQ,if_neg (by simp),if_neg (by simp)]at hc;rw[hc];have h1:Op.bytesLess a.toList a.toList=false:=dQ a;go_enter func87,ntmps87;go_wp2_with fail;refine ey (zJ _ _) ?_;go_wp2_with fail;refine ey (zJ _ _) ?_;go_wp2;go_ret;exact⟨rfl,rfl⟩
 have h0:gP a b=false:=by
  cases hq:gP a b with
  |false=>rfl
  |true=>have:=jA hq h;rw[dQ]at this;cases this
 rw[h0,if_neg (by simp),if_pos h]at hc;rw[hc];have h1:Op.bytesLess a.toList b.toList=false:=h0;have h2:Op.bytesLess b.toList a.toList=true:=h;have h3:(a.toList==b.toList)=false:=by
  rw[beq_eq_false_iff_ne];intro e;rw[ByteArray.toList_eq,ByteArray.toList_eq]at e;have:=yB e;subst this;rw[dQ]at h;cases h
 go_enter func87,ntmps87;go_wp2_with fail;refine ey (zJ _ _) ?_;go_wp2_with fail;refine ey (zJ _ _) ?_;go_wp2;go_ret;exact⟨rfl,rfl⟩
structure OB where
 id:Int
 dz:Int
 dB:Int
 a:Option Addr
 n:Nat
 c:Nat
instance:Inhabited OB:=⟨⟨0,0,0,none,0,0⟩⟩
def PQ:Ed cm OB Int where
 enc b:=[xI b.id,xI b.dz,xI b.dB,xL b.a b.n b.c]
 key b:=b.id
 keyA:=cm.id
 len _:=rfl
 one b v hv:=by simp at hv;rcases hv with rfl|rfl|rfl|rfl<;>rfl
 dec:=λ⟨vv,h,h1⟩=>by
  obtain⟨a,c,rfl,_⟩:=h1.bj;exact⟨⟨_,_,_,a,_,c⟩,h.symm,rfl⟩
instance:Inhabited (bS×Int):=⟨((),0)⟩
def PR:Ed bT (bS×Int) bS where
 enc b:=[xS b.1,xI b.2]
 key b:=b.1
 keyA:=bT.aX
 len _:=rfl
 one b v hv:=by simp at hv;rcases hv with rfl|rfl<;>rfl
 dec:=λ⟨h,_⟩=>⟨(_,_),h.symm,rfl⟩
def qco(x y:OB)(W:bq):xC 96 #[.agg (PQ.enc x).toArray, .agg (PQ.enc y).toArray] W λe w'=>e=xR (Lib.compareInt x.id y.id)/\∃q os',w'=grow (W.drewN q) os':=by
 have Rs:=λW'=>tx x.id y.id W';generalize Lib.compareInt x.id y.id=r at Rs⊢;show Calls _ _ #[.agg #[x.id,x.dz,x.dB,xL x.a x.n x.c], .agg #[y.id,y.dz,y.dB,xL y.a y.n y.c]] _ _;have dp:=aV (Bx.ei W (xK #[x.id,x.dz,x.dB,xL x.a x.n x.c] 41) (xK #[y.id,y.dz,y.dB,xL y.a y.n y.c] 41));obtain⟨c0,-,-,-⟩:=aU (dp.o.cP rfl);obtain⟨d0,-,-,-⟩:=aU (dp.o.cZ rfl);go_enter func96,ntmps96;go_wp2_with fail;refine ey (Rs _) ?_;go_wp2;go_ret;exact⟨rfl,0,_,by rw[alloc_eq_grow,alloc_eq_grow,grow_grow];rfl⟩
def qcp(x y:bS×Int)(W:bq):xC 98 #[.agg (PR.enc x).toArray, .agg (PR.enc y).toArray] W λe w'=>e=xR (qg x.1 y.1)/\∃q os',w'=grow (W.drewN q) os':=by
 have Rs:=λW'=>Kt x.1 y.1 W';generalize qg x.1 y.1=r at Rs⊢;show Calls _ _ #[.agg #[xS x.1,xI x.2], .agg #[xS y.1,xI y.2]] _ _;have dp:=aV (Bx.ei W (xK #[xS x.1,xI x.2] 37) (xK #[xS y.1,xI y.2] 37));obtain⟨c0,-⟩:=aZ (dp.o.cP rfl);obtain⟨d0,-⟩:=aZ (dp.o.cZ rfl);go_enter func98,ntmps98;go_wp2_with fail;refine ey (Rs _) ?_;go_wp2;go_ret;exact⟨rfl,0,_,by rw[alloc_eq_grow,alloc_eq_grow,grow_grow];rfl⟩
def ltInt(x y:Int):(decide (Lib.compareInt x y<0))=decide (x<y):=by
 unfold Lib.compareInt;by_cases h1:x<y
 .simp[h1]
 by_cases h2:y<x<;>simp[h1,h2]
def Zq:SWO (ltOf λx y:OB=>Lib.compareInt x.id y.id)where
 irrefl x:=by unfold ltOf;rw[ltInt];simp
 trans x y z h1 h2:=by unfold ltOf at*;rw[ltInt]at*;simp at*;omega
 ntrans x y z h1 h2:=by unfold ltOf at*;rw[ltInt]at*;simp at*;omega
def PS(x y:bS):(decide (qg x y<0))=gP x y:=by
 unfold qg;cases gP x y with
 |true=>simp
 |false=>cases gP y x<;>simp
def vA {a b c:bS}(h:gP a b=false)(k:gP b c=false):gP a c=false:=by
 cases hq:gP a c with
 |false=>rfl
 |true=>
  rcases nO a b with e|e|e
  .rw[h]at e;cases e
  .subst e;rw[k]at hq;cases hq
  have:=jA e hq;rw[k]at this;cases this
def Zr:SWO (ltOf λx y:bS×Int=>qg x.1 y.1)where
 irrefl x:=by unfold ltOf;rw[PS];exact dQ _
 trans x y z h1 h2:=by unfold ltOf at*;rw[PS]at*;exact jA h1 h2
 ntrans x y z h1 h2:=by unfold ltOf at*;rw[PS]at*;exact vA h1 h2
def IN(M:bY)(base:Nat)(w:bq)(v:bt)(xs:List cm)(h:bP M base 41 w v xs)(hM:∀g,v.ownBlock=some g->¬M g)(hx:xs.length<1000000):
 xC 95 #[v, .func (.func 96) #[] #[]] w λe w'=>e=xR (.tuple #[])/\∃ys,xs.Perm ys/\(ys.map cm.id).Pairwise (λa b=>decide (b<a)=false)/\aS M w' v ys/\bh (λi=>v.ownBlock=some i) w w':=by
 have h1:=yh PQ VO isAgg41 sizeOf41 (λx y=>Lib.compareInt x.id y.id) (λa b=>decide (a<b)) (λb c=>ltInt _ _) Zq 96 (enters_of func96 (by kernel_rfl) rfl) qco M base 41 w v xs h hM hx;exact h1
def EY(M:bY)(base:Nat)(w:bq)(v:bt)(xs:List bT)(h:bP M base 37 w v xs)(hM:∀g,v.ownBlock=some g->¬M g)(hx:xs.length<1000000):
 xC 97 #[v, .func (.func 98) #[] #[]] w λe w'=>e=xR (.tuple #[])/\∃ys,xs.Perm ys/\(ys.map bT.aX).Pairwise (λa b=>gP b a=false)/\aS M w' v ys/\bh (λi=>v.ownBlock=some i) w w':=by
 have h1:=yh PR VP isAgg37 sizeOf37 (λx y=>qg x.1 y.1) gP (λb c=>PS _ _) Zr 98 (enters_of func98 (by kernel_rfl) rfl) qcp M base 37 w v xs h hM hx;exact h1
end
section
open Go.RowKit Go.Shelf
def Gb.slice {w':bq}{v:bt}(h:Gb W l v w')(hl:l.length<=maxLen)(hM:∀i,M i->i<W.heap.size):aS M w' v l:=by
 rcases h with⟨rfl,rfl⟩|⟨B,h0,hB,rfl,hr⟩
 .exact aS.nil _ _
 exact hr.slice hl λi hi=>by have:=hM i hi;omega
def Uh(N:bY)(K r:Nat):Nat->Prop:=λi=>N i\/i=K\/i=r
def ZA(N:bY)(K z:Nat):Nat->Prop:=λi=>N i\/i=K\/z<=i
structure WaA(x:bU)(N:bY)(W0:bq)(K:Nat)(lv:bt)(wx:bq):Prop where
 low:bC W0 wx
 new:W0<=K
 blk:wx.heap[K]? =some (dI lv () () x.next)
 bH:aS (orM N K) wx lv x.bH
section
variable {x:bU}{N:bY}{W0 w4 w5:bq}{K:Nat}{lv:bt}{o:Obj}
def ZB(hj:bC W0 w4)(hs:aS N w4 lv x.bH):WaA x N W0 w4 lv (w4.alloc (xK #[lv,(),(),x.next] 34)):=by
 have hb:bC w4 (w4.alloc (xK #[lv,(),(),x.next] 34)):=cU;exact⟨hj.trans (hb.mono hj.size),hj.size,az w4 _,hs.ev ⟨bh.bA hb,λi hi=>hi.imp_right λe=>by omega⟩⟩
def ZC(hx:cX w5 K (.cells cur 34 (0,0))/\W0<=K)(h4:cur.size=4)(hj:bC W0 w5)(hs:aS (orM N K) w5 lv x.bH):WaA x N W0 K lv (((((w5.setCell (K,0) lv).setCell (K,1) ()).setCell (K,2) ()).setCell (K,3) x.next)):=by
 refine⟨dS hj hx.2,hx.2,?_,hs.ev (((((Ev.refl _ w5).setCell (p:=⟨K,0,none⟩) (.inl (.inr rfl)) _).setCell (p:=⟨K,1,none⟩) (.inl (.inr rfl)) _).setCell (p:=⟨K,2,none⟩) (.inl (.inr rfl)) _).setCell (p:=⟨K,3,none⟩) (.inl (.inr rfl)) _)⟩;obtain⟨l⟩:=cur;match l,h4 with
 |[_,_,_,_],_=>exact fG (o:=0) hx.1 _ _ _ _
end
structure CX {α β:Type} [bD α](e:TypeId)(mk:bt->Obj)(N:bY)(W2:bq)(K r mb clk:Nat)(v:bt)(V:List (β×bt×Nat))(os:List α)(wr:bq):Prop where
 only:bh (λk=>k=K\/k=r) W2 wr
 blk:wr.heap[K]? =some (mk v)
 iter:IterM wr r mb V clk
 acc:bP (Uh N K r) W2 e wr v os
structure PV {α β:Type}(key:α->β)(l:List α)(es V:List (β×bt×Nat))(os:List α):Prop where
 sub:∀p∈V,p∈es
 nod:(V.map (·.2.2)).Nodup
 ids:os.map key=V.map (·.1)
 mem:∀o∈os,o∈l
def bP.tz {α:Type} [bD α]{e:TypeId}{w':bq}{v:bt}{xs:List α}{S:bY}(h:bP M base e w v xs)(ho:bh S w w')(hS:∀i,S i->M i)(hg:∀g,v.ownBlock=some g->¬S g):bP M base e w' v xs:=by
 obtain⟨css,h1,h2,h3⟩:=h;refine⟨css,⟨h1.1,?_⟩,h2,λi cs x hc hx=>bD.ev (h3 i cs x hc hx) ⟨ho.mono λk hk=> .inl (hS k hk),λk hk=> .inl hk⟩⟩;rcases h1.2 with h0|⟨g,cap,cur,k1,k2,k3,k4⟩
 .exact .inl h0
 exact .inr ⟨g,cap,cur,k1,k2,(ho.block g (ab.1 k3).1 (hg g (by rw[k1];rfl))).trans k3,k4⟩
def bP.more {α:Type} [bD α]{e:TypeId}{v:bt}{xs:List α}(h:bP M base e w v xs)(hM:∀i,M' i->M i\/w.heap.size<=i):bP M' base e w v xs:=by
 obtain⟨css,h1,h2,h3⟩:=h;refine⟨css,h1,h2,λi cs x hc hx=>bD.ev (h3 i cs x hc hx) ⟨bh.refl _ _,λk hk=> ?_⟩⟩;rcases hk with hk|hk
 .exact(hM k hk).imp_left .inl
 exact .inl (.inr hk)
def bP.VZ {e:TypeId}{w':bq}{v:bt}{xs:List bT}{S:bY}(h:bP M base e w v xs)(ho:bh S w w')(hg:∀g,v.ownBlock=some g->¬S g):bP M' base e w' v xs:=by
 obtain⟨css,h1,h2,h3⟩:=h;refine⟨css,⟨h1.1,?_⟩,h2,h3⟩;rcases h1.2 with h0|⟨g,cap,cur,k1,k2,k3,k4⟩
 .exact .inl h0
 exact .inr ⟨g,cap,cur,k1,k2,(ho.block g (ab.1 k3).1 (hg g (by rw[k1];rfl))).trans k3,k4⟩
section
variable {α β:Type} [bD α]{e:TypeId}{mk:bt->Obj}{N:bY}{W2 wr w' w5 w6:bq}{K r mb clk:Nat}{v v2:bt}{V V':List (β×bt×Nat)}{os os':List α}
def CX.aT(h:CX e mk N W2 K r mb clk v V os wr)(hb:bC wr w'):CX e mk N W2 K r mb clk v V os w':=
 ⟨h.only.trans (bh.bA hb),(hb.block _ (ab.1 h.blk).1).trans h.blk,(hb.block _ (ab.1 h.iter).1).trans h.iter,h.acc.aT hb⟩
def CX.drawn(h:CX e mk N W2 K r mb clk v V os wr)(RV:K≠r)(hr:r<W2)(ho:bh (λi=>i=r) wr w')(hi:IterM w' r mb V' clk):CX e mk N W2 K r mb clk v V' os w':=
 ⟨h.only.trans (ho.mono λi hi=> .inr hi),(ho.block K (ab.1 h.blk).1 RV).trans h.blk,hi,h.acc.tz ho (λi hi=> .inr (.inr hi)) λg hg he=>by have h1:=(h.acc.dC g hg).1;have h2:g=r:=he;omega⟩
def CX.next(h:CX e mk N W2 K r mb clk v V os w5)(hK:K<W2)(hr:r<W2)(RV:K≠r)(hb:Below W2 (w5.alloc o1) w6)(ha:bP (Uh N K r) W2 e w6 v2 os'){c:Nat}(hm:∀W:bq,cX W K (mk v)->(W.setCell (K,c) v2).heap[K]? =some (mk v2)):
 CX e mk N W2 K r mb clk v2 V os' (w6.setCell (K,c) v2):=by
 have hz:=h.only.size;have hk:∀k,k<W2.heap.size->w6.heap[k]? =w5.heap[k]? :=λk hk=>(hb.block k hk).trans (aB w5 o1 k (by omega));have h2:bh (λk=>k=K\/k=r) W2 w6:=⟨hb.os.trans h.only.os,hb.tape.trans h.only.tape,hb.output.trans h.only.output,aH hz (aH (by simp) hb.size),λk k1 k2=>(hk k k1).trans (h.only.block k k1 k2)⟩;have o3:bh (λi=>i=K) w6 (w6.setCell (K,c) v2):=(bh.refl (λi=>i=K) w6).setCell (.inl rfl) _;refine⟨h2.trans (o3.mono λi hi=> .inl hi),hm _ ((hk K hK).trans h.blk),?_,ha.tz o3 (λi hi=> .inr (.inl hi)) λg hg he=>by have h1:=(ha.dC g hg).1;have h3:g=K:=he;omega⟩;exact(o3.block r (by have:=h2.size;omega) (λe=>RV e.symm)).trans ((hk r hr).trans h.iter)
def CX.map(h:CX e mk N W2 K r mb clk v V os wr){Ky:β->bt}{es:List (β×bt×Nat)}(hm:fK Ky W2 mb es clk)(h1:mb≠K)(h2:mb≠r):fK Ky wr mb es clk:=
 hm.same _ (h.only.block _ hm.lt (λhh=>hh.elim h1 h2))
end
def PV.more {α β:Type}{key:α->β}{l:List α}{es V:List (β×bt×Nat)}{os:List α}(h:PV key l es V os){p:β×bt×Nat}(hp:p∈es)(hn:((V++[p]).map (·.2.2)).Nodup){o:α}(ho:o∈l)(hk:p.1=key o):PV key l es (V++[p]) (os++[o]):=by
 refine⟨λq hq=> ?_,hn,?_,λq hq=> ?_⟩
 .rcases aI.1 hq with hq|hq
  .exact h.sub q hq
  rw[aR.1 hq];exact hp
 .rw[List.map_append,List.map_append,h.ids,List.map_cons,List.map_cons,hk];rfl
 rcases aI.1 hq with hq|hq
 .exact h.mem q hq
 rw[aR.1 hq];exact ho
def qcu {K:Nat}{lv v rv v2:bt}{nx:Int}(h:cX W K (dI lv v rv nx)):(W.setCell (K,1) v2).heap[K]? =some (dI lv v2 rv nx):=by
 have:=aA W K 1 _ _ v2 h;simpa [dI]using this
def qcv {K:Nat}{lv v ov v2:bt}{nx:Int}(h:cX W K (dI lv ov v nx)):(W.setCell (K,2) v2).heap[K]? =some (dI lv ov v2 nx):=by
 have:=aA W K 2 _ _ v2 h;simpa [dI]using this
def szA(w:bq)(o:Obj):w.heap.size<(w.alloc o).heap.size:=by simp
def szD(w:bq)(o:Obj):w.heap.size<(w.alloc o).drew.heap.size:=szA w o
def szE(w:bq)(o:Obj):w.heap.size<(w.drew.alloc o).heap.size:=szA w.drew o
def MB(x:bU)(hx:eS x.bH)(hr:(dV x.bN).Pairwise (·< ·))(hn:gJ x.bB)(Wt:x.bN.length<=1000)(hr5:x.bB.length<=1000)(hob:∀o∈x.bN,∃k v l,jS x.bH 100000 o k v l)(UY:∀r∈x.bB,r.aX.size<=maxLen)(N:bY)(W:bq)(hN:Bd N W)(B p b mo mr:Nat)(sv:bt)(hB:dw x N B p b mo mr sv W):
 xG 37 #[xP B] W λu w'=>∃lv ov rv,u= .agg #[lv,ov,rv,x.next]/\aS N w' lv x.bH/\aS N w' ov x.bN/\aS N w' rv x.bB:=by
 obtain⟨i0,hi0,hz0,hz1,hz2⟩:=info_parts yM;obtain⟨i1,hi1,hy0,hy1,hy2⟩:=info_parts AF;have Da:Hd (∀(N':bY)W',bC W W'->(∀i,N' i->N i\/W.heap.size<=i)->Bd N' W'->_):=λN' W' hb hi qM=>mg x.bH (by have:=hx.len;omega) (λy hy=>⟨by have:=((cw _).1 (hx.bH y hy).bu.right).2.1;omega,(hx.bH y hy).len⟩) N' W' sv qM (hB.book.bH.ev ⟨bh.bA hb,hi⟩);have HFO:Hd (∀(o:cm),o∈x.bN->∀(N':bY)W' v,Bd N' W'->aS N' W' v o.bR->_):=λo ho N' W' v qM hs=>by
  obtain⟨k,v',l,hk⟩:=hob o ho;have h6:=hx.bH l (ai hk.line);have h8:=((cw (bV l v')).1 (h6.lr v').right).2.1;have h9:=hk.bR.1;exact vD hk.bR (by omega) N' W' v qM hs
 have C3:Hd (∀o∈x.bN,o.bR.length<=12):=λo ho=>by
  obtain⟨k,v',l,hk⟩:=hob o ho;have h6:=hx.bH l (ai hk.line);have h8:=((cw (bV l v')).1 (h6.lr v').right).2.1;have h9:=hk.bR.1;omega
 have nk:=aV hB;have HNW:=aV hN;have NX:=aV hr;have C9:=aV hn;have XF:=aV UY;obtain⟨sa,sc,rfl,_⟩:=hB.book.bH.bj;obtain⟨es,clk,hm,zw,hall⟩:=hB.bN;obtain⟨fs,clk2,hm2,hfs,hall2⟩:=hB.bB;have Bz:=aV hm;have BI:=aV hm2;have HES:=aV zw;have jL:=aV hfs;have zu:=aV hall;have RN:=aV hall2;have hel:es.length<=1000:=by
  have h1:=nJ (x.bN.map cm.id) (es.map (·.1)) hm.keys (λq hq=>by
   obtain⟨p,hp,rfl⟩:=aQ.1 hq;obtain⟨o,vv,j1,j2,_⟩:=zw p hp;exact aQ.2 ⟨o,j1,j2.symm⟩);simp at h1;omega
 have JE:fs.length<=1000:=by
  have h1:=nJ (x.bB.map bT.aX) (fs.map (·.1)) hm2.keys (λq hq=>by
   obtain⟨p,hp,rfl⟩:=aQ.1 hq;obtain⟨o,j1,j2,_⟩:=hfs p hp;exact aQ.2 ⟨o,j1,j2.symm⟩);simp at h1;omega
 clear hm hm2 zw hfs hall hall2 hB hN hr hn hob hx UY;generalize rW:x.next=nx at*;have rX:=aV rW;clear rW;have dp:=aV (Bx.fm W (dI () () () 0));delta xG;go_in;go_upto_region 1 with fail;obtain⟨W0,hW0⟩:=dd (W.alloc (dI () () () 0));rw[<-hW0]at dp;unfold dI at hW0;rw[<-hW0];clear hW0;have hz0':=dp.o.cM;simp only[aC,aD]at hz0';have NS:=aV hz0';have HJ:Hd (bC W0 W0):=eH;have ik:Hd (∀V,bC W0 V->bC W V):=λV hb=>(dp.o.aT hb).1;have eh:Hd (∀V,bC W0 V->cC V B 0 (xL sa x.bH.length sc)/\cC V B 4 nx):=λV hb=>by
  obtain⟨k0,k1,k2,k3,k4⟩:=eK (nk.o.aT (ik.o V hb)).cell;rw[rX.o]at k4;exact⟨k0,k4⟩
 obtain⟨n1,hn1⟩:∃N1:bY,N1=(λi=>N i\/i=W):=⟨_,rfl⟩;have uT:=aV hn1;clear hn1;have Ru:Hd (∀i,n1 i->i<W0.heap.size):=λi hi=>by
  rw[uT.o]at hi;have h0:=NS.o;rcases hi with hi|hi
  .have:=HNW.o i hi;omega
  omega
 have XG:Hd (∀i,n1 i->N i\/W.heap.size<=i):=λi hi=>by
  rw[uT.o]at hi;rcases hi with hi|hi
  .exact .inl hi
  right;omega
 have NA:Hd (∀V,bC W0 V->_):=λV hb=>Da.o n1 V (ik.o V hb) XG.o (λi hi=>aN (Ru.o i hi) hb.size);have wN:Hd (∀V K,bC W0 V->W0.heap.size<=K->K<V.heap.size->_):=λV K hb h1 h2=>Da.o (orM n1 K) V (ik.o V hb) (λi hi=>hi.elim (XG.o i) λe=>by have:=NS.o;right;omega) (λi hi=>hi.elim (λh=>aN (Ru.o i h) hb.size) λe=>by omega);obtain⟨z0,z1⟩:=eh.o _ HJ.o;go_cut [3](λs3 wx=>∃(K:Nat)(ta:fM)(tc:Nat),s3=xP K/\Hd (WaA x n1 W0 K (xL ta x.bH.length tc) wx))
 .rw[<-rX.o]at*;go_region_held3(λV=>cC V B 0 (xL sa x.bH.length sc)/\cC V B 4 x.next)
   (with_reducible first|exact eh.o _ ee.o|exact eh.o _ ee.o.drew|exact eh.o _ HJ.o|exact eh.o _ HJ.o.drew|exact eh.o _ (ee.o.alloc ee.o.size _)|exact eh.o _ (HJ.o.alloc HJ.o.size _)|exact eh.o _ (HJ.o.alloc HJ.o.size _).drew|exact eh.o _ (HJ.o.drew.alloc HJ.o.size _)|exact eh.o _ (dS ee.o CR.o.2)|fail)
   (first
     |(go_at_call 93;first
       |(with_reducible refine(NA.o _ HJ.o).mono ?_)
       |(with_reducible refine(NA.o _ HJ.o.drew).mono ?_)
       |(with_reducible refine(wN.o _ W0 (HJ.o.alloc HJ.o.size _) cN (szA _ _)).mono ?_)
       |(with_reducible refine(wN.o _ W0 (HJ.o.alloc HJ.o.size _).drew cN (szD _ _)).mono ?_)
       |(with_reducible refine(wN.o _ W0 (HJ.o.drew.alloc HJ.o.size _) cN (szE _ _)).mono ?_)
       |fail
       rintro e w3⟨_,rfl,⟨u,rfl,hu⟩,hb3⟩;obtain⟨a1,c1,rfl,_⟩:=hu.bj;have HU:=aV hu;try(with_reducible(have CR:=aV (VQ HJ.o hb3)))
       try(with_reducible(have CR:=aV (Zs HJ.o hb3)))
       try(with_reducible(have CR:=aV (Zt HJ.o hb3)))
       try(have g0:=aY CR.o.1 0)
       try(have g1:=aY CR.o.1 1)
       try(have g2:=aY CR.o.1 2)
       try(have g3:=aY CR.o.1 3)
       try(have hq:=aU CR.o.1)
       have ee:Hd (bC W0 w3):=(by with_reducible first|exact aV hb3|exact aV (VS hb3)|exact aV (VR hb3)|exact aV (Zu hb3)|exact aV (Zv hb3));clear hb3 hu)
     |fail);all_goals(go_wp2;go_meet)
  all_goals first
   |exact⟨_,_,_,rfl,aV (ZC CR.o rfl ee.o HU.o)⟩
   |exact⟨_,_,_,rfl,aV (ZB ee.o HU.o)⟩
   |trace_state
 obtain⟨K,ta,tc,rfl,HA⟩:=hcut;rename World=>W1;have XH:Hd (bC W W1):=ik.o _ HA.o.low;have qL:=aV (show W<K/\K<W1/\mo<W/\mr<W/\W.heap.size+1<=W1 by
  have h1:=HA.o.new;have h2:=(ab.1 HA.o.blk).1;have h3:=NS.o;exact⟨by omega,h2,Bz.o.lt,BI.o.lt,by omega⟩);have zW:Hd (fK eI W1 mo es clk):=Bz.o.same _ (XH.o.block _ Bz.o.lt);have nU:Hd (∀w,w.heap[mo]? =W1.heap[mo]?->(Instr.range 114 (.map (some mo))).run prog w= .ok (.pointer (w,0)) (w.alloc (.mapIter (some mo) clk #[] clk))):=λw hw=>run_range_map (P:=prog) w _ _ _ mo _ clk underlying114 (hw.trans zW.o.is_);have hr1:=nU.o W1 rfl;obtain⟨b0,b1,b2,b3,b4⟩:=eK (nk.o.aT XH.o).cell;clear z0 z1;go_upto_region 3 with fail;clear hr1 b0 b1 b2 b3 b4;obtain⟨W2,hW2⟩:=dd (W1.alloc (.mapIter (some mo) clk #[] clk));have rR:=aV (show bC W1 W2 by rw[hW2];exact cU);have ni:=aV (show IterM W2 W1 mo ([]:List (Int×bt×Nat)) clk by rw[hW2];exact az W1 _);have BH:=aV (show W2.heap.size=[W1]by rw[hW2];simp);rw[<-hW2];clear hW2;generalize hr1:W1.heap.size=r1 at*;have Ah:=aV hr1;clear hr1;have hgs:CX 41 (λv=>dI (xL ta x.bH.length tc) v () nx) n1 W2 K r1 mo clk () ([]:List (Int×bt×Nat)) ([]:List cm) W2:=⟨bh.refl _ _,by
  have h1:=(rR.o.block K (by have:=qL.o;have:=Ah.o;omega)).trans HA.o.blk;rw[rX.o]at h1;exact h1,ni.o,bP.nil _ _ _ _⟩;have iG:Hd (CX 41 (λv=>dI (xL ta x.bH.length tc) v () nx) n1 W2 K r1 mo clk () ([]:List (Int×bt×Nat)) ([]:List cm) W2/\PV cm.id x.bN es [] []):=⟨hgs,⟨by simp,by simp,by simp,by simp⟩⟩;have QL:Hd (fK eI W2 mo es clk):=zW.o.same _ (rR.o.block _ (by have:=qL.o;have:=Ah.o;omega));have qes:Hd (bC W W2):=XH.o.trans (rR.o.mono (by have:=qL.o;have:=Ah.o;omega));clear hgs;generalize hnn:es.length=n at*;have wP:=aV hnn;clear hnn;go_loopg [5]n(λgg _ wr=>∃(V:List (Int×bt×Nat))(os:List cm)(v:bt),gg=n-V.length/\Hd (CX 41 (λv=>dI (xL ta x.bH.length tc) v () nx) n1 W2 K r1 mo clk v V os wr/\PV cm.id x.bN es V os));exact⟨[],[],_,by simp,iG⟩;obtain⟨V,os,v,rfl,HS⟩:=hrel;rename World=>wr;have Rv:=HS.o.1.map QL.o (by have:=qL.o;omega) (by have:=qL.o;omega);rcases Rv.step (P:=prog) eI HS.o.1.iter HS.o.2.sub HS.o.2.nod 0 with⟨kp,iI⟩|⟨q,w1,hp,R4,iI,uU,mw,qJ,ho1,jG⟩;rotate_left
 .have C7:=jJ (es:=es) mw (λz hz=>by
   rcases aI.1 hz with hz|hz
   .exact HS.o.2.sub z hz
   rw[aR.1 hz];exact hp);rw[aJ,List.length_singleton,wP.o]at C7;obtain⟨o,vv,ho,e1,e2,hvs⟩:=HES.o q hp;have HD:=aV (HS.o.1.drawn (V':=V++[q]) (by have:=qL.o;omega) (by have:=BH.o;omega) ho1 uU);have HQ:=aV (HS.o.2.more hp mw ho e1);have Rw:=aV (show os.length=V.length by have:=congrArg List.length HS.o.2.ids;simpa using this);have F4:=hvs;obtain⟨va,vc,rfl,_⟩:=F4.bj;have zy:=aV hvs;obtain⟨q1,q2,q3⟩:=q;dsimp only at e1 e2 iI jG;subst e1;subst e2;dsimp only[eI,rO]at iI jG;have HO:=aV ho;clear hvs F4 uU mw qJ ho1 hp R4 ho;go_upto_region 5 with fail;clear iI jG;obtain⟨W4,hW4⟩:=dd (w1.alloc (eV o (xL va o.bR.length vc)));have nX:=aV (show ed W4 w1 (eV o (xL va o.bR.length vc))by rw[hW4];exact az w1 _);have Gq:=aV (show CX 41 (λv=>dI (xL ta x.bH.length tc) v () nx) n1 W2 K r1 mo clk v (V++[(o.id,rO o (xL va o.bR.length vc),q3)]) os W4 by rw[hW4];exact HD.o.aT cU);unfold eV at hW4;rw[<-hW4];clear hW4;obtain⟨ga,gc,rfl,_,_⟩:=Gq.o.acc.bj;have C8:Hd (∀i,cz (xL ga os.length gc) (Uh n1 K r1) i->i<W4.heap.size):=λi hi=>by
   have h1:=Gq.o.only.size;have h2:=BH.o;have h3:=qL.o;have h4:=NS.o;have h5:=HA.o.low.size;have h6:=Ah.o;rcases hi with(hi|hi|hi)|hi
   .have:=Ru.o i hi;omega
   .omega
   .omega
   exact(Gq.o.acc.dC i hi).2
  have hV4:aS (cz (xL ga os.length gc) (Uh n1 K r1)) W4 (xL va o.bR.length vc) o.bR:=zy.o.ev ⟨(bh.bA qes.o).dL Gq.o.only (λi hi cE=>by have:=qL.o;rcases hi with hi|hi<;>omega),λi hi=>by
   have h2:=BH.o;have h3:=qL.o;rcases hi with(hi|hi|hi)|hi
   .exact XG.o i hi
   .right;omega
   .right;omega
   right;have:=(Gq.o.acc.dC i hi).1;omega⟩;have Gn:=aV (HFO.o o HO.o (cz (xL ga os.length gc) (Uh n1 K r1)) W4.drew (xL va o.bR.length vc) C8.o (hV4.aT (ay _ W4).drew));have qet:=aV (C3.o o HO.o);clear hV4;have p1:=(aU Gq.o.blk).2.1;obtain⟨x0,x1,x2,x3⟩:=aU nX.o;have h48:(os.length+1)*48<=140737488355328:=by have:=Rw.o;omega
  have HQ2:=HQ;go_region_law(first
   |(go_simp;go_at_call 94;refine Gn.o.mono ?_;rintro e w5⟨_,rfl,⟨za,rfl,TX⟩,iz⟩;have mu:=aV (Gq.o.aT ((ay _ W4).drew.trans iz));have fR:Hd (∀o1,bD.rep (α:=cm) (cz (xL ga os.length gc) (Uh n1 K r1)) (w5.alloc o1) [xI o.id,xI o.dz,xI o.dB,xL za o.bR.length o.bR.length] o):=λo1=>⟨_,rfl,((TX W4.drew (Nat.le_add_right _ _)).slice (by have:=qet.o;unfold maxLen;omega) C8.o).aT (eH.alloc cN o1)⟩;have q1':=(aU mu.o.blk).2.1;have q2':∀o1,(w5.alloc o1).cell? (K,1)=some (xL ga os.length gc):=λo1=>(aU ((aB w5 o1 K (ab.1 mu.o.blk).1).trans mu.o.blk)).2.1;clear TX iz p1 x0 x1 x2 x3)
   |(refine eA (α:=cm) rfl _ _ _ rfl (Uh n1 K r1) W2 41 i0 _ 48 underlying31 hi0 hz0 hz1 hz2 rfl (by decide) (.slice ga os.length gc) os rfl (mu.o.acc.alloc _) (λ_=>True) _ _ o rfl (dj _ _ _ _ rfl trivial) (fR.o _) (by unfold maxLen;omega) h48 (by have:=mu.o.only.size;simp;omega) ?_;intro a2 c2 w6 cF eD kN;have XI:=aV (mu.o.next (by have:=qL.o;have:=BH.o;omega) (by have:=BH.o;omega) (by have:=qL.o;omega) kN cF (c:=1) (λW h=>qcu h));have TP:K<W2:=by have:=qL.o;have:=BH.o;omega
     have gw:=(kN.block K TP).trans ((aB w5 _ K (by have:=mu.o.only.size;omega)).trans mu.o.blk);have s6:=(aU gw).2.1;have f6:=aY gw 1;clear cF eD kN gw q1' q2')
   |fail);all_goals
   go_wp2;go_roundg(n-(V.length+1));exact⟨V++[(o.id,rO o (xL va o.bR.length vc),q3)],os++[o],_,by simp,aV ⟨XI.o,HQ2.o⟩⟩;omega
 have TY:=aV (show bC W1 W2 by first|exact rR.o|(rw[Ah.o];exact rR.o));have XJ:Hd (bC W0 wr):=cr (HA.o.low.trans (TY.o.mono (by have:=HA.o.low.size;omega))) (by have:=HA.o.low.size;have:=TY.o.size;omega) HS.o.1.only (λi hi=>by
  have h1:=HA.o.new;have h5:=HA.o.low.size;have h6:=Ah.o;rcases hi with rfl|rfl<;>omega);have fB:Hd (aS (ZA n1 K r1) wr (xL ta x.bH.length tc) x.bH):=HA.o.bH.ev ⟨(bh.bA TY.o).dL HS.o.1.only (λi hi cE=>by
  have h6:=Ah.o;rcases hi with hi|hi
  .exact .inr hi
  .omega),λi hi=>by
  have h6:=Ah.o;rcases hi with hi|hi|hi
  .exact .inl (.inl hi)
  .exact .inl (.inr hi)
  right;omega⟩;have hzw:=HS.o.1.only.size;have UR:Hd (bP (ZA n1 K wr) W2 41 wr v os):=HS.o.1.acc.more λi hi=>by
  rcases hi with hi|hi|hi
  .exact .inl (.inl hi)
  .exact .inl (.inr (.inl hi))
  exact .inr hi
 have HGA:=aV HS.o.2;have FY:=aV HS.o.1.blk;have HMP:=aV kp;obtain⟨ga,gc,rfl,hga,FU⟩:=UR.o.bj;have HZW:Hd (W2.heap.size<=wr):=hzw;clear kp HS Rv hga FU hzw;go_upto_region 6 with fail;clear iI;have qbi:Hd (bC W wr):=ik.o _ XJ.o;have XK:Hd (fK fW wr mr fs clk2):=BI.o.same _ (qbi.o.block _ BI.o.lt);have hr2:=run_range_map (P:=prog) wr 115 _ _ mr _ clk2 underlying115 XK.o.is_;obtain⟨b0,b1,b2,b3,b4⟩:=eK (nk.o.aT qbi.o).cell;go_upto_region 7 with fail;clear hr2 b0 b1 b2 b3 b4;obtain⟨W3,hW3⟩:=dd (wr.alloc (.mapIter (some mr) clk2 #[] clk2));have Rx:=aV (show bC wr W3 by rw[hW3];exact cU);have tO:=aV (show IterM W3 wr mr ([]:List (bS×bt×Nat)) clk2 by rw[hW3];exact az wr _);have KU:=aV (show W3.heap.size=[wr]by rw[hW3];simp);rw[<-hW3];clear hW3;generalize hr2:wr.heap.size=r2 at*;have Ai:=aV hr2;clear hr2;have RV:K<r2:=by have h1:=(ab.1 FY.o).1;have:=Ai.o;omega
 have zh:=aV RV;have hgs:CX 37 (λv=>dI (xL ta x.bH.length tc) (xL ga os.length gc) v nx) n1 W3 K r2 mr clk2 () ([]:List (bS×bt×Nat)) ([]:List bT) W3:=⟨bh.refl _ _,(Rx.o.block K (by have:=Ai.o;omega)).trans FY.o,tO.o,bP.nil _ _ _ _⟩;have Ry:Hd (CX 37 (λv=>dI (xL ta x.bH.length tc) (xL ga os.length gc) v nx) n1 W3 K r2 mr clk2 () ([]:List (bS×bt×Nat)) ([]:List bT) W3/\PV bT.aX x.bB fs [] []):=⟨hgs,⟨by simp,by simp,by simp,by simp⟩⟩;have HM3:Hd (fK fW W3 mr fs clk2):=XK.o.same _ (Rx.o.block _ (by have:=XK.o.lt;have:=Ai.o;omega));clear hgs;have HKM:=aV (show mr≠K/\mr≠r2 by have:=qL.o;omega);generalize Rz:fs.length=n2 at*;have RA:=aV Rz;clear Rz;clear RV;go_loopg [6,7]n2(λgg _ _ wq=>∃(V2:List (bS×bt×Nat))(rs:List bT)(v2:bt),gg=n2-V2.length/\Hd (CX 37 (λv=>dI (xL ta x.bH.length tc) (xL ga os.length gc) v nx) n1 W3 K r2 mr clk2 v2 V2 rs wq/\PV bT.aX x.bB fs V2 rs));exact⟨[],[],_,by simp,Ry⟩;obtain⟨V2,rs,v2,rfl,HS⟩:=hrel;rename World=>wq;have Rv:=HS.o.1.map HM3.o HKM.o.1 HKM.o.2;rcases Rv.step (P:=prog) fW HS.o.1.iter HS.o.2.sub HS.o.2.nod 0 with⟨kp,iI⟩|⟨q,w1,hp,R4,iI,uU,mw,qJ,ho1,jG⟩;rotate_left
 .have C7:=jJ (es:=fs) mw (λz hz=>by
   rcases aI.1 hz with hz|hz
   .exact HS.o.2.sub z hz
   rw[aR.1 hz];exact hp);rw[aJ,List.length_singleton,RA.o]at C7;obtain⟨o,ho,e1,e2⟩:=jL.o q hp;have HD:=aV (HS.o.1.drawn (V':=V2++[q]) (by have:=zh.o;omega) (by have:=KU.o;omega) ho1 uU);have HQ:=aV (HS.o.2.more hp mw ho e1);have Rw:=aV (show rs.length=V2.length by have:=congrArg List.length HS.o.2.ids;simpa using this);have JK:rs.length<=1000:=by have:=Rw.o;omega
  obtain⟨q1,q2,q3⟩:=q;dsimp only at e1 e2 iI jG;subst e1;subst e2;dsimp only[fW]at iI jG;have HRO:=aV ho;clear uU mw qJ ho1 hp R4 ho;obtain⟨xa,xc,rfl,_,_⟩:=HD.o.acc.bj;have p2:=(aU HD.o.blk).2.2.1;have f2:=aY HD.o.blk 2;have qbj:(rs.length+1)*24<=140737488355328:=by omega
  obtain⟨rn,ri⟩:=o;dsimp only at iI jG;have HDS:Hd (W3.heap.size<=w1):=HD.o.only.size;go_wp2_with(at_builtin;refine cA (α:=bT) rfl _ _ _ rfl (Uh n1 K r2) W3 37 i1 _ 24 underlying32 hi1 hy0 hy1 hy2 rfl (by decide) (.slice xa rs.length xc) rs rfl (HD.o.acc.alloc _) (λ_=>True) _ _ (⟨rn,ri⟩:bT) rfl (dj _ _ _ _ rfl trivial) ⟨rfl,XF.o _ HRO.o⟩ (by unfold maxLen;omega) qbj (by have:=HDS.o;simp;omega) ?_;intro a2 c2 w6 cF eD kN;have XI:=aV (HD.o.next (by have:=zh.o;have:=KU.o;omega) (by have:=KU.o;omega) (by have:=zh.o;omega) kN cF (c:=2) (λW h=>qcv h));have TP:K<W3:=(by have:=zh.o;have:=KU.o;omega);have gw:=(kN.block K TP).trans ((aB w1 _ K (by have:=HDS.o;omega)).trans HD.o.blk);have s6:=(aU gw).2.2.1;have f6:=aY gw 2;clear cF eD kN gw);go_roundg(n2-(V2.length+1));exact⟨V2++[(rn,xI ri,q3)],rs++[⟨rn,ri⟩],_,by simp,aV ⟨XI.o,HQ.o⟩⟩;omega
 have qbk:Hd (bC W0 wq):=cr (XJ.o.trans (Rx.o.mono (by have:=XJ.o.size;have:=Ai.o;omega))) (by have:=XJ.o.size;have:=KU.o;have:=Ai.o;omega) HS.o.1.only (λi hi=>by
  have h1:=HA.o.new;have h2:=XJ.o.size;have h3:=Ai.o;rcases hi with rfl|rfl<;>omega);have hzq:=HS.o.1.only.size;have qbl:=aV (show bC wr W3 by first|exact Rx.o|(rw[Ai.o];exact Rx.o));have h12:r1<=r2:=by have:=HZW.o;have:=BH.o;omega
 have qeu:Hd (aS (ZA n1 K r1) wq (xL ta x.bH.length tc) x.bH):=(fB.o.aT qbl.o).ev ⟨HS.o.1.only.mono λi hi=>by
  rcases hi with hi|hi
  .exact .inr (.inl hi)
  right;right;omega,λi hi=> .inl hi⟩;have TW:Hd (∀g,(Value.slice ga os.length gc).ownBlock=some g->W2.heap.size<=g/\g<r2):=λg hg=>by have h1:=UR.o.dC g hg;rw[Ai.o]at h1;exact h1
 have qev:Hd (bP (ZA n1 K r2) W2 41 wq (xL ga os.length gc) os):=(UR.o.aT qbl.o).tz HS.o.1.only (λi hi=>by
  rcases hi with hi|hi
  .exact .inr (.inl hi)
  .right;right;omega) (λg hg hi=>by
  have h1:=TW.o g hg;have h2:=qL.o;have h3:=BH.o;rcases hi with hi|hi<;>omega);have TO:=aV (IN (ZA n1 K r2) W2 wq (xL ga os.length gc) os qev.o (λg hg hi=>by
  have h1:=TW.o g hg;have h2:=qL.o;have h3:=BH.o;have h4:=HA.o.low.size;have h5:=Ah.o;rcases hi with hi|hi|hi
  .have:=Ru.o g hi;omega
  .omega
  .omega) (by
  have h1:=congrArg List.length HGA.o.ids;have h2:=jJ (es:=es) HGA.o.nod HGA.o.sub;have h3:=wP.o;simp at h1;omega));have JO:=aV HS.o.2;have XL:=aV HS.o.1.blk;have XM:=aV HS.o.1.acc;have qbm:=aV kp;have HQZ:Hd (W3.heap.size<=wq/\r1<=r2):=⟨hzq,h12⟩;have UX:=aV (show rs.length<1000000 by
  have h1:=congrArg List.length HS.o.2.ids;have h2:=jJ (es:=fs) HS.o.2.nod HS.o.2.sub;have h3:=RA.o;simp at h1;omega);obtain⟨xa,xc,rfl,_,_⟩:=XM.o.bj;have p1:=(aU XL.o).2.1;clear kp HS Rv hzq h12;go_wp2_with fail;go_at_call 95;refine TO.o.mono ?_;rintro e w4⟨rfl,ys,hys,YQ,hsl,ho4⟩;have Xu:=ho4.size;have HKG:Hd (∀g,(Value.slice ga os.length gc).ownBlock=some g->g≠K):=λg hg=>by have:=TW.o g hg;have:=qL.o;have:=BH.o;omega
 have XN:Hd (cX w4 K (dI (xL ta x.bH.length tc) (xL ga os.length gc) (xL xa rs.length xc) nx)):=(ho4.block K (ab.1 XL.o).1 (λhi=>HKG.o K hi rfl)).trans XL.o;have Jw:Hd (∀g,(Value.slice xa rs.length xc).ownBlock=some g->W3.heap.size<=g):=λg hg=>(XM.o.dC g hg).1;have qew:Hd (bP (orM n1 K) W3 37 w4 (xL xa rs.length xc) rs):=XM.o.VZ ho4 (λg hg hi=>by have h1:=Jw.o g hg;have h2:=(TW.o g hi).2;have:=KU.o;omega);have UZ:=aV (And.intro hys (And.intro YQ (And.intro hsl ho4)));have HSR:=aV (EY (orM n1 K) W3 w4 (xL xa rs.length xc) rs qew.o (λg hg hi=>by
  have h1:=Jw.o g hg;have h2:=zh.o;have h3:=KU.o;have h4:=XJ.o.size;have h5:=Ai.o;rcases hi with hi|hi
  .have:=Ru.o g hi;omega
  omega) UX.o);have p2:=(aU XN.o).2.2.1;clear hys YQ hsl ho4 Xu p1;go_wp2_with fail;go_at_call 97;refine HSR.o.mono ?_;rintro e w5⟨rfl,zs,hzs,hsz,qbn,ho5⟩;have HZS:=aV (And.intro hzs (And.intro hsz (And.intro qbn ho5)));have qex:Hd (cX w5 K (dI (xL ta x.bH.length tc) (xL ga os.length gc) (xL xa rs.length xc) nx)):=(ho5.block K (ab.1 XN.o).1 (λhi=>by have:=Jw.o K hi;have:=zh.o;have:=KU.o;omega)).trans XN.o;have RB:bC W0 w4:=cr qbk.o qbk.o.size UZ.o.2.2.2 (λi hi=>by have:=TW.o i hi;have:=BH.o;have:=Ah.o;have:=HA.o.low.size;omega);have qbo:Hd (bC W0 w5):=cr RB RB.size HZS.o.2.2.2 (λi hi=>by have:=Jw.o i hi;have:=KU.o;have:=Ai.o;have:=XJ.o.size;omega);have Nx:Hd (ed w5 W (dI () () () 0)):=(qbo.o.block _ (by have:=NS.o;omega)).trans (dp.o.cP rfl);obtain⟨p0,p1,p2',p3⟩:=aU qex.o;obtain⟨x0,x1,x2,x3⟩:=aU Nx.o;obtain⟨g0,g1,g2,g3⟩:=iS Nx.o;have HEY:Hd (ys=x.bN/\zs=x.bB):=⟨EX NX.o (ks:=V.map (·.1)) ((HMP.o.map (·.1)).nodup_iff.2 zW.o.keys) (show dV os=V.map (·.1)from HGA.o.ids) HGA.o.mem (λo ho=>(HMP.o.map (·.1)).mem_iff.2 (zu.o o ho)) UZ.o.1 UZ.o.2.1,Cr C9.o (ks:=V2.map (·.1)) ((qbm.o.map (·.1)).nodup_iff.2 HM3.o.keys) JO.o.ids JO.o.mem (λo ho=>(qbm.o.map (·.1)).mem_iff.2 (RN.o o ho)) hzs hsz⟩;have po:Hd (∀W',W'=((((w5.setCell (W,0) (xL ta x.bH.length tc)).setCell (W,1) (xL ga os.length gc)).setCell (W,2) (xL xa rs.length xc)).setCell (W,3) nx)->(∃lv ov rv,Value.agg #[xL ta x.bH.length tc,xL ga os.length gc,xL xa rs.length xc,nx]= .agg #[lv,ov,rv,nx]/\aS N W' lv x.bH/\aS N W' ov x.bN/\aS N W' rv x.bB)/\bC W W'):=λW' hW'=>by
  have ho:bh (λi=>i=W) w5 W':=by
   rw[hW'];exact((((bh.refl (λi=>i=W) w5).setCell (p:=⟨W,0,none⟩) (.inl rfl) _).setCell (p:=⟨W,1,none⟩) (.inl rfl) _).setCell (p:=⟨W,2,none⟩) (.inl rfl) _).setCell (p:=⟨W,3,none⟩) (.inl rfl) _
  have hn:∀i,i=W.heap.size->n1 i:=λi hi=>by rw[uT.o];exact .inr hi
  have hN:∀i,N i->n1 i:=λi hi=>by rw[uT.o];exact .inl hi
  obtain⟨e1,e2⟩:=HEY.o;have h3:=KU.o;have h2:=BH.o;have h4:=HQZ.o;have k4:=UZ.o.2.2.2;have k5:=HZS.o.2.2.2;have kl:aS N W' (xL ta x.bH.length tc) x.bH:=qeu.o.ev ⟨((k4.mono λi hi=> .inr (.inr (by have:=TW.o i hi;omega))).trans (k5.mono λi hi=> .inr (.inr (by have:=Jw.o i hi;omega)))).trans (ho.mono λi hi=> .inl (hn i hi)),λi hi=> .inl (.inl (hN i hi))⟩;have ko:aS N W' (xL ga os.length gc) ys:=UZ.o.2.2.1.ev ⟨(k5.mono λi hi=> .inr (.inr (by have:=Jw.o i hi;omega))).trans (ho.mono λi hi=> .inl (hn i hi)),λi hi=> .inl (.inl (hN i hi))⟩;have kr:aS N W' (xL xa rs.length xc) zs:=HZS.o.2.2.1.ev ⟨ho.mono λi hi=> .inl (hn i hi),λi hi=> .inl (.inl (hN i hi))⟩;rw[e1]at ko;rw[e2]at kr;have iz:bC W w5:=ik.o _ qbo.o;exact⟨⟨_,_,_,rfl,kl,ko,kr⟩,cr iz iz.size ho (λi hi=>by have hi:i=W:=hi;omega)⟩
 clear hzs hsz qbn ho5 p2 RB;go_wp2_with fail;exact ah (v:= .agg #[xL ta x.bH.length tc,xL ga os.length gc,xL xa rs.length xc,nx]) (by simp[results,results37,go_sem,x0,x1,x2,x3,g0,g1,g2,g3]) rfl ⟨_,rfl,po.o _ rfl⟩
def Ff(x:bU)(h:fL x)(M:bY)(w:bq)(hM:Bd M w)(hG:Gd w)(lv ov rv:bt)(iH:aS M w lv x.bH)(hov:aS M w ov x.bN)(ib:aS M w rv x.bB):
 xC 30 #[.agg #[lv,ov,rv,x.next]] w (di (xI 0) w):=by
 have HS:=aV (oP x h M (w.alloc (dI lv ov rv x.next)) (λi hi=>aN (hM i hi) (by simp)) (hG.aT cU) lv ov rv (iH.aT cU) (hov.aT cU) (ib.aT cU));have dp:=aV (Bx.fm w (dI lv ov rv x.next));obtain⟨la,lc,rfl,_⟩:=iH.bj;obtain⟨oa,oc,rfl,_⟩:=hov.bj;obtain⟨ra,rc,rfl,_⟩:=ib.bj;clear iH hov ib hM hG h;generalize x.next=nx at*;generalize x.bH.length=m1 at*;generalize x.bN.length=m2 at*;generalize x.bB.length=m3 at*;delta xC;go_in;go_upto_region 1 with fail;have⟨W1,hW1⟩:=dd (w.alloc (dI (xL la m1 lc) (xL oa m2 oc) (xL ra m3 rc) nx));rw[<-hW1]at dp HS;unfold dI at hW1;rw[<-hW1];clear hW1;have⟨a0,a1,a2,a3⟩:=aU (dp.o.cP rfl);go_wp2_with fail;go_at_call 21;refine HS.o.mono ?_;rintro e w2⟨_,rfl,⟨lt,pm,rfl,hg⟩,hb⟩;obtain⟨ls,tP,-⟩:=hg.late;obtain⟨za,zc,rfl,_⟩:=tP.bj;have HF:=aV (dp.o.aT hb);clear hg tP hb a0 a1 a2 a3;go_wp2;go_ret;exact⟨rfl,HF.o.1.alloc HF.o.1.size _⟩
def Fg(x:bU)(r:fC)(y:bU):Prop:=∃F:Nat,((r.bg=1/\F=32)\/(r.bg=2/\F=33)\/(r.bg=3/\F=34))/\
 ∀(M:bY)(w0 W:bq),Bd M w0->Gd w0->bC w0 W->∀B p b mo mr:Nat,yI w0 B p b mo mr->∀sv vv fv:bt,dw x (kL M B b mo mr) B p b mo mr sv W->aS M w0 vv r.j9.bR->aS M w0 fv r.dz.aW->
  xC F #[xP B,yJ r vv fv] W λe w'=>e=xR (xI 0)/\(∃p' b' sv',yI w0 B p' b' mo mr/\dw y (kL M B b' mo mr) B p' b' mo mr sv' w'/\(b'=b\/W.heap.size<=b'))/\bh (SX B b mo mr) W w'
inductive mP:bU->List fC->bU->Prop
 |nil(x:bU):mP x [] x
 |cons {x y z:bU}{r:fC}{l:List fC}:Fg x r y->mP y l z->mP x (r::l) z
def PX {x:bU}(hx:eS x.bH){r:fC}{v:Nat}{l:bQ}(hk:r.bg=1)(ho:jS x.bH 100000 r.j9 k v l)(hid:1<=r.j9.id/\r.j9.id<=100000)(rW:1<=x.next/\x.next<=100001):Fg x r ⟨x.bH,qR x.bN r.j9,x.bB,E3 x.next (r.j9.id+1)⟩:=
 ⟨_, .inl ⟨hk,rfl⟩,λM w0 W hM hG hb B p b mo mr hC sv vv fv hB hv hf=>(VY x hx r k v l ho hid rW M w0 W hM hG hb B p b mo mr hC sv vv fv hB hv (by have⟨a,c,e,_⟩:=hf.bj;exact⟨_,_,_,e⟩)).mono λe w'⟨h1,h2,h3⟩=>⟨h1,⟨p,b,sv,hC,h2, .inl rfl⟩,h3⟩⟩
def MC {x:bU}{r:fC}(hk:r.bg=2)(hn:bF r.aX=true/\r.aX.size<=maxLen)(hid:1<=r.id/\r.id<=100000):Fg x r ⟨x.bH,x.bN,tm x.bB ⟨r.aX,r.id⟩,x.next⟩:=
 ⟨_, .inr (.inl ⟨hk,rfl⟩),λM w0 W hM hG hb B p b mo mr hC sv vv fv hB hv hf=>(SZ x r hn hid M w0 W hb B p b mo mr hC sv vv fv hB (by have⟨a,c,e,_⟩:=hv.bj;exact⟨_,_,_,e⟩) (by have⟨a,c,e,_⟩:=hf.bj;exact⟨_,_,_,e⟩)).mono λe w'⟨h1,h2,h3⟩=>⟨h1,⟨p,b,sv,hC,h2, .inl rfl⟩,h3⟩⟩
abbrev yN(r:fC)(vv fv:bt):List bt:=[xI r.bg,xI r.j9.id,xI r.j9.dz,xI r.j9.dB,vv,xI r.id,xI r.dB,xS r.aX,xS r.dz.aX,fv,xI r.qm.bg,xS r.qm.field,xS r.qm.aX,xS r.qm.more,xI r.qm.type.bg,xI r.qm.type.of,xS r.qm.dO,xS r.qm.cW]
def Ct {l:List fC}(h:aS M w v l){r:fC}(hr:l[i]? =some r):∃b off cap vv fv,v=xL (some ⟨b,off,none⟩) l.length cap/\aS M w vv r.j9.bR/\aS M w fv r.dz.aW/\∀W,bC w W->W.rangeAt b (off+i*18) (yN r vv fv):=by
 obtain⟨a,cap,rfl,hl,_,hc⟩:=h.bj;have hk:=(ag.1 hr).1;obtain⟨b,off,rfl,_,hb,hcell⟩:=hc (by omega);obtain⟨cs,⟨vv,fv,rfl,hs,hf,_⟩,hcs⟩:=hcell i _ hr;refine⟨b,off,cap,vv,fv,rfl,hs,hf,λW hB j u hu=> ?_⟩;exact(hB.cell (p:=⟨b,off+i*18+j,none⟩) hb).trans (hcs j u hu)
def Fh:(Tryz.prog.info? 81).map (·.size)=some 18:=by kernel_rfl
def pg {ops:Array Oper}{rest:List Oper}{op:Oper}{a:Act}{Q:Exit->Act->bq->Prop}(hw:Region.wanted op (yielded ops a.tmps)=true)(x:Operand)(ho:op.op= .load 81 x)(b o:Nat)(hx:a.eval x= .pointer (b,o)){r:fC}{vv:bt}(h:w.rangeAt b o (yN r vv fv))
 (hk:wpList prog ops Q rest (a.put op.dst (yJ r vv fv)) w):wpList prog ops Q (op::rest) a w:=
 wpList_step λK hK=>by rw[if_pos hw];exact wp_load_mid 81 x ho b o hx _ _ h underlying81 rfl Fh (hK _ _ hk)
def MD {r:fC}{vv:bt}(h:cX W g (mX r vv fv)):W.rangeAt g 0 (yN r vv fv):=λj v hv=>by
 rw[Nat.zero_add];unfold mX at h;simp only[World.cell?,h];simpa using hv
abbrev yO(f B:Nat):bt:= .func (.func f) #[xP B] #[]
def rP(w:bq)(b B:Nat):Prop:=∃es clk,cO eI w b es clk/\
 cB es 1=some (yO 32 B)/\cB es 2=some (yO 33 B)/\cB es 3=some (yO 34 B)
def rP.same(h:rP w b B)(hb:w'.heap[b]? =w.heap[b]?):rP w' b B:=by
 obtain⟨es,clk,h1,h2⟩:=h;exact⟨es,clk,hb.trans h1,h2⟩
def rP.look(h:rP w b B){r:fC}{F:Nat}(hk:(r.bg=1/\F=32)\/(r.bg=2/\F=33)\/(r.bg=3/\F=34)):(Instr.lookup 123 (.map (some b)) r.bg true).run prog w= .ok (.tuple #[yO F B,true]) w:=by
 obtain⟨es,clk,h1,h2,h3,h4⟩:=h;rcases hk with⟨e1,rfl⟩|⟨e1,rfl⟩|⟨e1,rfl⟩;all_goals rw[e1]
 .exact cO.EB eI underlying123 fH fY h1 1 _ h2
 .exact cO.EB eI underlying123 fH fY h1 2 _ h3
 exact cO.EB eI underlying123 fH fY h1 3 _ h4
def tA {es:List (Int×bt×Nat)}(h:cO eI w b es clk)(x:Int)(v:bt)(hv:cB es x=none):∃w',(Instr.mapUpdate 123 (.map (some b)) x v).run prog w= .ok () w'/\cO eI w' b (es++[(x,v,clk)]) (clk+1)/\bh (λi=>i=b) w w':=by
 have⟨h1,h2⟩:=cO.insert eI (.int .i64) pV (P:=prog) underlying123 underlying3 fY h x v hv;exact⟨_,h1,h2,(bh.refl (λi=>i=b) w).putObj (.inl rfl) _⟩
theorem Cu {α β:Type}(f:α->β):∀(l:List α)(j:Nat),(l.map f).eraseIdx j=(l.eraseIdx j).map f
 |[],j=>by simp
 |p::r,0=>by simp
 |p::r,j+1=>by simp[Cu f r j]
section
variable {α:Type} [DecidableEq α]{K:α->bt}{P:Program}{w:bq}{b clk:Nat}{es:List (α×bt×Nat)}{mt kt et:TypeId}
omit [DecidableEq α] in
def S0(hn:(es.map (·.1)).Nodup)(hj:j<es.length)(p:α×bt×Nat):p∈es.eraseIdx j↔p∈es/\p.1≠(es[j]).1:=by
 have key:∀i,i≠j->∀q,es[i]? =some q->q.1≠(es[j]).1:=λi hi q hq he=>by
  have⟨hl,hq⟩:=ag.1 hq;have h1:(es.map (·.1))[i]'(by simpa using hl)=(es.map (·.1))[j]'(by simpa using hj):=by simp[hq,he]
  exact hi ((List.getElem_inj hn).1 h1)
 rw[List.mem_eraseIdx_iff_getElem?];constructor
 .rintro⟨i,hi,hq⟩;exact⟨ai hq,key i hi p hq⟩
 rintro⟨hp,hne⟩;have⟨i,hi⟩:=aP hp;refine⟨i,λe=> ?_,hi⟩;subst e;rw[af hj]at hi;cases hi;exact hne rfl
def fK.del(hm:P.underlying mt=some (.map kt et))(hF:l8 K P kt)(hchk:∀(e:Bool)(x:α)(w:bq),(Instr.checkKey e 10000 kt (K x)).run P w= .ok () w)
 (h:fK K w b es clk)(x:α)(ty:TypeId):∃w' es',(Builtin.delete_ #[mt,kt] ty #[.map (some b),K x]).run P w= .ok (.tuple #[]) w'/\fK K w' b es' clk/\(∀p,p∈es'↔p∈es/\p.1≠x)/\bh (λi=>i=b) w w':=by
 have hb:cX w b (.map (es.map (gn K)).toArray clk):=h.is_;have cE:=(ab.1 hb).1;have hf:=hF x es w;cases hq:es.findIdx? λp=>decide (x=p.1)with
 |none=>
  rw[hq]at hf;refine⟨w.putObj b (.map (es.map (gn K)).toArray clk),es,?_,⟨World.putObj_heap_same cE,h.born,h.old,h.keys⟩,λp=> ?_,(bh.refl (λi=>i=b) w).putObj (.inl rfl) _⟩
  .simp only[Builtin.delete_];simp[run_underlying hm,MapKept.run_getObj_map hb,hchk,hf,setObj,Sem.run,World.putObj,hb]
  have h2:=List.findIdx?_eq_none_iff.1 hq;exact⟨λhp=>⟨hp,λe=>by have:=h2 p hp;simp[e]at this⟩,And.left⟩
 |some j=>
  rw[hq]at hf;have⟨hj,hj2,_⟩:=List.findIdx?_eq_some_iff_getElem.1 hq;have hxj:(es[j]).1=x:=(show x=(es[j]).1 by simpa using hj2).symm;have Ny:(es.eraseIdx j).Sublist es:=List.eraseIdx_sublist _ _;refine⟨w.putObj b (.map ((es.eraseIdx j).map (gn K)).toArray clk),es.eraseIdx j,?_,⟨World.putObj_heap_same cE,h.born.sublist (Ny.map _),λp hp=>h.old p (Ny.subset hp),h.keys.sublist (Ny.map _)⟩,λp=> ?_,(bh.refl (λi=>i=b) w).putObj (.inl rfl) _⟩
  .have he:((es.map (gn K)).toArray).eraseIdxIfInBounds j=((es.eraseIdx j).map (gn K)).toArray:=by
    simp[Array.eraseIdxIfInBounds,hj,Cu]
   simp only[Builtin.delete_];simp[run_underlying hm,MapKept.run_getObj_map hb,hchk,hf,setObj,Sem.run,World.putObj,hb,he,Cu]
  rw[S0 h.keys hj,hxj]
end
def Cv(l:List bT)(n:bS):List bT:=l.filter λr=>decide (r.aX≠n)
def qh {l:List bT}{n:bS}{r:bT}:r∈Cv l n↔r∈l/\r.aX≠n:=by simp[Cv]
def iw.del {w:bq}{b:Nat}{rs:List bT}(h:iw w b rs)(n:bS)(ty:TypeId):∃w',(Builtin.delete_ #[115,9] ty #[.map (some b),n]).run prog w= .ok (.tuple #[]) w'/\iw w' b (Cv rs n)/\bh (λi=>i=b) w w':=by
 obtain⟨es,clk,h1,h2,h3⟩:=h;have⟨w',es',k1,k2,k3,k4⟩:=fK.del (K:=fW) (P:=prog) underlying115 lQ jo h1 n ty;refine⟨w',k1,⟨es',clk,k2,λp hp=> ?_,λr hr=> ?_⟩,k4⟩
 .have⟨hp,hne⟩:=(k3 p).1 hp;have⟨r,j1,j2,j3⟩:=h2 p hp;exact⟨r,qh.2 ⟨j1,by rw[<-j2];exact hne⟩,j2,j3⟩
 have⟨hr,hne⟩:=qh.1 hr;have⟨p,hp,e⟩:=aQ.1 (h3 r hr);exact aQ.2 ⟨p,(k3 p).2 ⟨hp,by rw[e];exact hne⟩,e⟩
def dw.ZE {x:bU}{b mo mr:Nat}(h:dw x (kL M B b mo mr) B p b mo mr sv W)(c:yI w0 B p b mo mr)(n:bS)(ty:TypeId):∃W',(Builtin.delete_ #[115,9] ty #[.map (some mr),n]).run prog W= .ok (.tuple #[]) W'/\dw ⟨x.bH,x.bN,Cv x.bB n,x.next⟩ (kL M B b mo mr) B p b mo mr sv W'/\bh (λi=>i=mr) W W':=by
 have⟨W',e1,e2,e3⟩:=h.bB.del n ty;have hE:Ev (kL M B b mo mr) W (kL M B b mo mr) W':=⟨e3.mono (λk hk=> .inr (.inr (.inr (.inr hk)))),λk hk=> .inl hk⟩;refine⟨W',e1,⟨?_,?_,?_,e2⟩,e3⟩
 .exact(e3.block _ (ab.1 h.cell).1 c.Br).trans h.cell
 .exact h.book.ev hE (e3.block _ h.book.lt.1 (λe=>c.rp e.symm)) (e3.block _ h.book.lt.2 (λe=>c.rb e.symm))
 exact h.bN.ev hE (e3.block _ h.bN.lt c.or)
def S2(x:bU)(r:fC)(hn:bF r.aX=true/\r.aX.size<=maxLen)(hid:r.id=0)(M:bY)(w0 W:bq)(hb0:bC w0 W)(B p b mo mr:Nat)(hC:yI w0 B p b mo mr)(sv vv fv:bt)(hB:dw x (kL M B b mo mr) B p b mo mr sv W)(hv1:∃fa fn fc,vv=xL fa fn fc)(hf1:∃fa fn fc,fv=xL fa fn fc):
 xC 33 #[xP B,yJ r vv fv] W λe w'=>e=xR (xI 0)/\dw ⟨x.bH,x.bN,Cv x.bB r.aX,x.next⟩ (kL M B b mo mr) B p b mo mr sv w'/\bh (SX B b mo mr) W w':=by
 have C9:Hd (∀W,_):=λW=>oO r.aX hn.1 hn.2 W;have nk:=aV hB;have nV:=aV hC;obtain⟨va,vn,vc,rfl⟩:=hv1;obtain⟨fa,fn,fc,rfl⟩:=hf1;clear hB hC hb0 hn;obtain⟨rk,ro,ri,rv,rn,⟨rcn,rcf⟩,⟨rx0,rx1,rx2,rx3,⟨rx4,rx5⟩,rx6,rx7⟩⟩:=r;obtain⟨oi,oc,ov,os⟩:=ro;obtain⟨xl,xo,xr,nx⟩:=x;dsimp only at*;obtain rfl:=hid;have⟨rD,hrD⟩:=dd ((⟨rk,⟨oi,oc,ov,os⟩,0,rv,rn,⟨rcn,rcf⟩,⟨rx0,rx1,rx2,rx3,⟨rx4,rx5⟩,rx6,rx7⟩⟩:fC));delta xC;go_in;go_upto_region 1 with fail;have⟨W1,hW1⟩:=dd (W.alloc (mX rD (xL va vn vc) (xL fa fn fc)));have gy:=aV (show ed W1 W (mX rD (xL va vn vc) (xL fa fn fc))by rw[hW1];exact az W _);have cu:=aV (show bC W W1 by rw[hW1];exact cU);rw[hrD]at gy hW1;unfold mX at hW1;dsimp only at hW1;rw[<-hW1];clear hW1 hrD;have Dc:=aV (ab.1 gy.o).1;obtain⟨-,-,-,-,-,k5,-,k7,-⟩:=gM gy.o;try dsimp only at k5 k7
 go_wp2_with fail;refine dx (C9.o _) λw1 hb1=> ?_;have bZ:=aV (cu.o.trans (hb1.mono cu.o.size));have gz:=aV ((hb1.block _ Dc.o).trans gy.o);clear hb1 k5 k7;obtain⟨-,-,-,-,-,k5,-,k7,-⟩:=gM gz.o;try dsimp only at k5 k7
 have⟨y0,y1,y2,y3,y4⟩:=eK (nk.o.aT bZ.o).cell;try dsimp only at y0 y4
 have⟨wa,ea,ma⟩:=(nk.o.aT bZ.o).ZE nV.o rn 0;have⟨wb,eb,mb⟩:=((nk.o.aT bZ.o).aT (ay _ w1).drew).ZE nV.o rn 0;have Gu:=aV ma;have v8:Hd (dw ⟨xl,xo,Cv xr rn,nx⟩ (kL M B b mo mr) B p b mo mr sv wb/\bh (λi=>i=mr) w1 wb):=⟨mb.1,((bh.refl _ w1).drew).trans mb.2⟩;clear ma mb;try dsimp only at ea eb
 go_upto_region 4 with fail;go_cut [](λwx=>Hd (dw ⟨xl,xo,Cv xr rn,nx⟩ (kL M B b mo mr) B p b mo mr sv wx/\bh (λi=>i=mr) w1 wx))
 .go_region_law fail;all_goals go_wp2_with fail
  all_goals go_meet
  all_goals first|exact v8|exact Gu|trace_state
 clear k5 k7 y0 y1 y2 y3 y4 ea eb Gu v8;go_wp2;go_ret;exact⟨rfl,hcut.o.1,(bh.bA bZ.o).trans (hcut.o.2.mono λi hi=> .inr (.inr (.inr hi)))⟩
def Fi {x:bU}{r:fC}(hk:r.bg=2)(hn:bF r.aX=true/\r.aX.size<=maxLen)(hid:r.id=0):Fg x r ⟨x.bH,x.bN,Cv x.bB r.aX,x.next⟩:=
 ⟨_, .inr (.inl ⟨hk,rfl⟩),λM w0 W hM hG hb B p b mo mr hC sv vv fv hB hv hf=>(S2 x r hn hid M w0 W hb B p b mo mr hC sv vv fv hB (by have⟨a,c,e,_⟩:=hv.bj;exact⟨_,_,_,e⟩) (by have⟨a,c,e,_⟩:=hf.bj;exact⟨_,_,_,e⟩)).mono λe w'⟨h1,h2,h3⟩=>⟨h1,⟨p,b,sv,hC,h2, .inl rfl⟩,h3⟩⟩
structure V1(z:bU)(M:bY)(recs:List fC)(w0 w4:bq)(bw B b0 mo mr:Nat)(i:Nat)(wr:bq):Prop where
 st:∃y p b sv,mP y (recs.drop i) z/\yI w0 B p b mo mr/\dw y (kL M B b mo mr) B p b mo mr sv wr/\(b=b0\/w4.heap.size<=b)
 only:bh (SX B b0 mo mr) w4 wr
 ways:rP wr bw B
def S3 {y z:bU}{recs:List fC}(h:mP y (recs.drop i) z){r:fC}(hr:recs[i]? =some r):∃y',Fg y r y'/\mP y' (recs.drop (i+1)) z:=by
 have hi:=(ag.1 hr).1;rw[List.drop_eq_getElem_cons hi]at h;have:recs[i]=r:=(ag.1 hr).2;rw[this]at h;cases h with
 |cons h1 h2=>exact⟨_,h1,h2⟩
def PY {y z:bU}{recs:List fC}(h:mP y (recs.drop i) z)(hi:recs.length<=i):y=z:=by
 rw[List.drop_eq_nil_of_le hi]at h;cases h;rfl
def Bg(x z:bU)(hx:fL x)(hz:fL z)(recs:List fC)(hd:mP x recs z)(hn:recs.length<=1000)(M:bY)(w:bq)(hM:Bd M w)(hG:Gd w)(lv ov rv qv:bt)(iH:aS M w lv x.bH)(hov:aS M w ov x.bN)(ib:aS M w rv x.bB)(hqv:aS M w qv recs):
 xG 9 #[.agg #[lv,ov,rv,x.next],qv] w λu w'=>∃Rh UE Ri,u= .tuple #[.agg #[Rh,UE,Ri,z.next],xI (recs.length:Int),xI 0]/\aS M w' Rh z.bH/\aS M w' UE z.bN/\aS M w' Ri z.bB:=by
 have Gg:=ie (w:=w) (λW hb=>Ff x hx M W (hM.aT hb) (hG.aT hb) lv ov rv (iH.aT hb) (hov.aT hb) (ib.aT hb));obtain⟨M1,TZ⟩:∃M1:bY,M1=(λi=>M i\/i=[w]):=⟨_,rfl⟩;have hMM:∀i,M1 i->M i\/w.heap.size<=i:=λi hi=>by
  rw[TZ]at hi;exact hi.imp_right λe=>by omega
 have JI:Hd (∀W,bC w W->w.heap.size+2<=W->Bd M1 W):=λW hb hz i hi=>by
  rw[TZ]at hi;rcases hi with hi|hi
  .have:=hM i hi;omega
  omega
 have hE:∀W,bC w W->Ev M w M1 W:=λW hb=>⟨bh.bA hb,hMM⟩;have HLY:Hd (∀W,bC w W->w.heap.size+2<=W->_):=λW hb hz=>VX x hx.rise hx.AX (by have:=hx.len;omega) (by have:=hx.rlen;omega) M1 W (JI.o W hb hz) lv ov rv (iH.ev (hE W hb)) (hov.ev (hE W hb)) (ib.ev (hE W hb));have zj:Hd (∀W,bC w W->∀i r,recs[i]? =some r->_):=λW hb i r hr=>Ct (hqv.ev (hE W hb)) hr;have zW:=aV TZ;clear hE hMM TZ;have HZ:=aV hz;have HX:=aV hx;have HD:=aV hd;have HM:=aV hM;have HG:=aV hG;obtain⟨la,lc,rfl,-⟩:=iH.bj;obtain⟨oa,oc,rfl,-⟩:=hov.bj;obtain⟨ra,rc,rfl,-⟩:=ib.bj;obtain⟨qa,qc,rfl,hqc,hqm,-⟩:=hqv.bj;clear iH hov ib hM hG hx hz hd hqv;generalize rW:x.next=nx at*;generalize qJ:x.bH.length=m1 at*;generalize hm2:x.bN.length=m2 at*;generalize Nv:x.bB.length=m3 at*;generalize hnn:recs.length=n at*;have rX:=aV rW;clear rW;have zX:=aV qJ;clear qJ;have lJ:=aV hm2;clear hm2;have RT:=aV Nv;clear Nv;have wP:=aV hnn;clear hnn;have dp:=aV (Bx.ei w (dI (xL la m1 lc) (xL oa m2 oc) (xL ra m3 rc) nx) (dI () () () 0));delta xG;go_in;go_upto_region 1 with fail;have⟨W1,hW1⟩:=dd ((w.alloc (dI (xL la m1 lc) (xL oa m2 oc) (xL ra m3 rc) nx)).alloc (dI () () () 0));rw[<-hW1]at dp;unfold dI at hW1;rw[<-hW1];clear hW1;have⟨a0,a1,a2,a3⟩:=aU (dp.o.cP rfl);go_wp2_with fail;go_at_call 30;refine dx (Gg.o _ dp.o.1) λw2 cJ=> ?_;have bZ:=aV (dp.o.aT cJ);clear cJ a0 a1 a2 a3;have⟨a0,a1,a2,a3⟩:=aU (bZ.o.cP rfl);go_wp2_with fail;go_at_call 31;refine(HLY.o _ bZ.o.1 bZ.o.cM).mono ?_;rintro e w3⟨B,p,b0,mo,mr,rfl,hC,hB,hb3⟩;have HC:=aV hC;clear hC;have HB:=aV hB;clear hB;have cR:=aV hb3;clear hb3;clear a0 a1 a2 a3;have h0:cO eI (w3.alloc (.map #[] 0)) w3 [] 0:=(MapKept.heap_alloc w3 _).1;have⟨w0,hw0⟩:=dd (w3.alloc (.map #[] 0));rw[<-hw0]at h0;have⟨y1,e1,h1,o1⟩:=tA h0 1 (yO 32 B) rfl;have⟨y2,e2,h2,o2⟩:=tA h1 2 (yO 33 B) rfl;have⟨y3,e3,h3,o3⟩:=tA h2 3 (yO 34 B) rfl;have⟨y4,e4,h4,o4⟩:=tA h3 4 (yO 35 B) rfl;have⟨y5,e5,h5,o5⟩:=tA h4 5 (yO 36 B) rfl;have HO:Hd (bC w3 y5):=((((bh.refl xF w3).alloc (.map #[] 0)).dL (hw0▸((((o1.trans o2).trans o3).trans o4).trans o5)) (λi hi cE=>by subst hi;omega)).aT);have HWY:Hd (rP y5 w3 B):=⟨_,_,h5,rfl,rfl,rfl⟩;clear h0 h1 h2 h3 h4 h5 o1 o2 o3 o4 o5;unfold yO at e1 e2 e3 e4 e5;have BC:∀(fn:Fn)(bu cap:Array bt)(w:bq),(Instr.makeFunc fn bu cap).run prog w= .ok (.func fn bu cap) w:=λ_ _ _ _=>rfl;have hmk:=fJ 123 w3;rw[<-hw0]at hmk;clear hw0;go_upto_region 7 with fail;clear hmk e1 e2 e3 e4 e5;have pr:=aV ((HB.o).book.lt);have hst:V1 z M1 recs w2 y5 w3 B b0 mo mr 0 y5:=⟨⟨x,p,b0,_,by rw[List.drop_zero];exact HD.o,HC.o,HB.o.aT HO.o, .inl rfl⟩,bh.refl _ _,HWY.o⟩;have iG:=aV hst;clear hst;have HWS:=aV (show w3.heap.size<y5/\B<w3/\p<w3/\b0<w3/\mo<w3/\mr<w3 by
  obtain⟨es,clk,h1,-⟩:=HWY.o;exact⟨(ab.1 h1).1,(ab.1 HB.o.cell).1,pr.o.1,pr.o.2,HB.o.bN.lt,HB.o.bB.lt⟩);have jF:Hd (bC w2 y5):=cR.o.trans (HO.o.mono cR.o.size);generalize Rj:w3.heap.size=bw at*;have qW:=aV Rj;clear Rj;go_loopg [5,6,10,11,12,13,14,39]n(λgg _ _ _ _ _ _ _ iv wr=>∃i:Nat,gg=n-i/\i<=n/\iv=xI i/\Hd (V1 z M1 recs w2 y5 bw B b0 mo mr i wr));exact⟨0,rfl,ax _,rfl,iG⟩;obtain⟨i,rfl,hi,rfl,HS⟩:=hrel;rename World=>wr;have Dd:Hd (bC w2 wr):=HC.o.aT jF.o HS.o.only;by_cases cE:i<n
 .have⟨r,hr⟩:=fg recs i (by have:=wP.o;omega);have⟨b1,off,cap,vv,fv,hv1,hvv,hfv,hrg⟩:=zj.o w2 bZ.o.1 i r hr;obtain⟨rfl,rfl⟩:=jk hv1;have⟨y,p,b,sv,hdo,hc,wI,hbb⟩:=HS.o.st;have⟨y',⟨F,hF,hdr⟩,hdo'⟩:=S3 hdo hr;obtain⟨va,vc,rfl,-⟩:=hvv.bj;obtain⟨fa,fc,rfl,-⟩:=hfv.bj;have Q9:=aV (hrg wr Dd.o);have XO:=aV hvv;have HFV:=aV hfv;have NQ:=aV hdr;have HDO:=aV hdo';have nk:=aV wI;have nV:=aV hc;have BB:=aV hbb;have HF:=aV hF;clear hv1 hvv hfv hrg hdo wI hF hdr hdo' hr hc hbb;have HDS:=ie (w:=wr) (λW hb=>NQ.o M1 w2 W (JI.o _ bZ.o.1 bZ.o.cM) (HG.o.aT bZ.o.1) (Dd.o.trans (hb.mono Dd.o.size)) B p b mo mr nV.o _ _ _ (nk.o.aT hb) XO.o HFV.o);have Z5:=ie (w:=wr) (λW hb=>(HS.o.ways.same (hb.block _ (by have:=HS.o.only.size;have:=HWS.o;omega))).look HF.o);have hF:=HF.o;clear HF NQ nk XO HFV;go_upto_region 8 with fail;go_upto_region 9 with(refine pg rfl (.tmp 42) rfl b1 (off+i*18) rfl Q9.o ?_);have⟨W5,hW5⟩:=dd (wr.alloc (mX r (xL va r.j9.bR.length vc) (xL fa r.dz.aW.length fc)));have od:=aV (show ed W5 wr (mX r (xL va r.j9.bR.length vc) (xL fa r.dz.aW.length fc))by rw[hW5];exact az wr _);have qW:=aV (show bC wr W5 by rw[hW5];exact cU);unfold mX at hW5;rw[<-hW5];clear hW5;have mD:=Z5.o _ qW.o;have c0:=(gM od.o).1;have HD5:=aV (HDS.o _ qW.o);clear HDS Z5 Q9;dsimp only[yO]at mD;rcases hF with⟨-,rfl⟩|⟨-,rfl⟩|⟨-,rfl⟩;all_goals
   go_wp2_with(refine pg rfl (.tmp 11) rfl wr 0 rfl (MD od.o) ?_);refine(HD5.o).mono ?_;rintro e w6⟨rfl,⟨p',b',sv',hc6,qbp,kN⟩,UQ⟩;have vL:=aV (show V1 z M1 recs w2 y5 bw B b0 mo mr (i+1) w6 by
    have h1:=qW.o.size;have h2:=HS.o.only.size;have h3:=HWS.o;have h4:=BB.o;exact⟨⟨y',p',b',sv',HDO.o,hc6,qbp,by omega⟩,(HS.o.only.trans (bh.bA qW.o)).dL UQ (λi hi cE=>by
     rcases hi with hi|hi|hi|hi
     .exact .inl hi
     .exact .inr (.inl (by omega))
     .exact .inr (.inr (.inl hi))
     exact .inr (.inr (.inr hi))),HS.o.ways.same ((UQ.block bw (by omega) (λhi=>by rcases hi with hi|hi|hi|hi<;>omega)).trans (qW.o.block bw (by omega)))⟩);clear qbp UQ mD c0 hc6 kN;go_wp2;go_roundg(n-(i+1));exact⟨i+1,rfl,by omega,by go_num,vL⟩;omega
 have ji:n<=i:=by omega
 obtain⟨y,p,b,sv,hdo,hc,wI,-⟩:=HS.o.st;have nV:=aV hc;clear hc;obtain rfl:=PY hdo (by have:=wP.o;omega);have nk:=aV wI;have C8:=aV (nV.o.bd nk.o Dd.o (JI.o _ bZ.o.1 bZ.o.cM));have HWD:=aV (MB y HZ.o.sch HZ.o.rise HZ.o.AX (by have:=HZ.o.len;omega) (by have:=HZ.o.rlen;omega) (λo ho=>by
  have⟨j,hj⟩:=aP ho;exact(HZ.o.bN j o hj).2.2) (λr hr=>by have:=(HZ.o.mL r hr).2;unfold maxLen;omega) _ wr C8.o B p b mo mr _ nk.o);obtain rfl:i=n:=by omega
 clear hdo wI ji;generalize qbq:y.next=U0 at*;have HZN:=aV qbq;clear qbq;go_wp2_with fail;go_at_call 37;refine HWD.o.mono ?_;rintro e w7⟨_,rfl,⟨l7,o7,r7,rfl,hl7,ho7,WZ⟩,gw⟩;have HCZ:Hd (∀W,bC w7 W->xC 30 #[.agg #[l7,o7,r7,U0]] W (di (xI 0) W)):=λW hb=>by
  have h:=Ff y HZ.o _ W (λk hk=>aN (C8.o k hk) (aH gw.size hb.size)) ((HG.o.aT bZ.o.1).aT (((Dd.o.trans (gw.mono Dd.o.size)).trans (hb.mono (aH Dd.o.size gw.size))))) l7 o7 r7 (hl7.aT hb) (ho7.aT hb) (WZ.aT hb);rw[HZN.o]at h;exact h
 have og:Hd (bC w2 w7):=Dd.o.trans (gw.mono Dd.o.size);have Uo:=aV (And.intro hl7 (And.intro ho7 WZ));obtain⟨YR,YS,rfl,-⟩:=hl7.bj;obtain⟨YT,YU,rfl,-⟩:=ho7.bj;obtain⟨YV,YW,rfl,-⟩:=WZ.bj;clear hl7 ho7 WZ gw;go_upto_region 17 with fail;have⟨W8,hW8⟩:=dd (w7.alloc (dI (xL YR y.bH.length YS) (xL YT y.bN.length YU) (xL YV y.bB.length YW) U0));have HB8:=aV (show bC w7 W8 by rw[hW8];exact cU);have RD:=aV (show ed W8 w7 (dI (xL YR y.bH.length YS) (xL YT y.bN.length YU) (xL YV y.bB.length YW) U0)by rw[hW8];exact az w7 _);unfold dI at hW8;rw[<-hW8];clear hW8;have⟨a0,a1,a2,a3⟩:=aU RD.o;have UO:=aV (HCZ.o _ HB8.o);go_wp2_with fail;go_at_call 30;refine UO.o.mono ?_;rintro e w9⟨rfl,vN⟩;have FX:Hd (ed w9 w7 (dI (xL YR y.bH.length YS) (xL YT y.bN.length YU) (xL YV y.bB.length YW) U0)):=(vN.block _ (ab.1 RD.o).1).trans RD.o;have JP:Hd (bC w7 w9):=HB8.o.trans (vN.mono HB8.o.size);have uO:=aV ((bZ.o.aT og.o).aT JP.o);clear a0 a1 a2 a3 vN;have⟨a0,a1,a2,a3⟩:=aU FX.o;have⟨x0,x1,x2,x3⟩:=aU (uO.o.cZ rfl);have⟨g0,g1,g2,g3⟩:=iS (uO.o.cZ rfl);have po:Hd (∀W',W'=((((w9.setCell ([w],0) (xL YR y.bH.length YS)).setCell ([w],1) (xL YT y.bN.length YU)).setCell ([w],2) (xL YV y.bB.length YW)).setCell ([w],3) U0)->(∃Rh UE Ri,Value.tuple #[.agg #[xL YR y.bH.length YS,xL YT y.bN.length YU,xL YV y.bB.length YW,U0],xI (i:Int),xI 0]= .tuple #[.agg #[Rh,UE,Ri,U0],xI (i:Int),xI 0]/\aS M W' Rh y.bH/\aS M W' UE y.bN/\aS M W' Ri y.bB)/\bC w W'):=λW' hW'=>by
  have ho:bh (λi=>i=[w]) w9 W':=by
   rw[hW'];exact((((bh.refl (λi=>i=[w]) w9).setCell (p:=⟨[w],0,none⟩) (.inl rfl) _).setCell (p:=⟨[w],1,none⟩) (.inl rfl) _).setCell (p:=⟨[w],2,none⟩) (.inl rfl) _).setCell (p:=⟨[w],3,none⟩) (.inl rfl) _
  have hE:Ev (kL M1 B b mo mr) w9 M W':=⟨ho.mono λk hk=> .inl (by rw[zW.o];exact .inr hk),λk hk=> .inl (.inl (by rw[zW.o];exact .inl hk))⟩;have⟨k1,k2,k3⟩:=Uo.o;exact⟨⟨_,_,_,rfl,(k1.aT JP.o).ev hE,(k2.aT JP.o).ev hE,(k3.aT JP.o).ev hE⟩,cr uO.o.1 uO.o.1.size ho (λk hk=>by have hk:k=[w]:=hk;omega)⟩
 go_wp2_with fail;exact ah (v:= .tuple #[.agg #[xL YR y.bH.length YS,xL YT y.bN.length YU,xL YV y.bB.length YW,U0],xI (i:Int),xI 0]) (by simp[results,results9,go_sem,x0,x1,x2,x3,g0,g1,g2,g3]) rfl ⟨_,rfl,by rw[HZN.o];exact po.o _ rfl⟩
def yR(n:Int):List PanicEntry:=[{v:= .iface 100 (.agg #[n]),recovered:=false}]
def Bh(w:bq):xC 25 #[xI 0] w λe w'=>e=xR (.tuple #[])/\w'=w:=by
 delta xC;go_in;go_wp2_with fail;exact bodyPost_end (by simp[results,results25,go_sem]) rfl ⟨rfl,rfl⟩
def MH(n:Int)(hn:n≠0)(w:bq):xC 25 #[n] w λe w'=>e= .panicked (yR n)/\w'=w:=by
 unfold yR;delta xC;go_in;go_wp2_with fail;exact⟨rfl,rfl,rfl⟩
def nQ(n:Int)(w:bq):xC 69 #[true,n] w λe w'=>e=xR (.tuple #[])/\w'=w:=by
 delta xC;go_in;go_wp2_with fail;exact bodyPost_end (by simp[results,results69,go_sem]) rfl ⟨rfl,rfl⟩
def Bi(n:Int)(w:bq):xC 69 #[false,n] w λe w'=>e= .panicked (yR n)/\w'=w:=by
 unfold yR;delta xC;go_in;go_wp2_with fail;exact⟨rfl,rfl,rfl⟩
def iR {α:Type} [DecidableEq α](K:α->bt)(w:bq)(b:Nat)(S:List α):Prop:=∃es clk,fK K w b es clk/\(∀p∈es,p.2.1=xB true)/\∀n,n∈es.map (·.1)↔n∈S
section
variable {α:Type} [DecidableEq α]{K:α->bt}{w w':bq}{b:Nat}{S:List α}{kt mt:TypeId}
def iR.lt(h:iR K w b S):b<w:=by obtain⟨es,clk,h1,_⟩:=h;exact h1.lt
def iR.same(h:iR K w b S)(hb:w'.heap[b]? =w.heap[b]?):iR K w' b S:=by
 obtain⟨es,clk,h1,h2⟩:=h;exact⟨es,clk,h1.same _ hb,h2⟩
def iR.at_(h:cX w b (.map #[] 0)):iR K w b []:=⟨[],0,⟨h,by simp,by simp,by simp⟩,by simp,by simp⟩
def iR.look(h:iR K w b S)(hm:Tryz.prog.underlying mt=some (.map kt 4))(hF:l8 K prog kt)(hchk:∀(e:Bool)(x:α)(w:bq),(Instr.checkKey e 10000 kt (K x)).run prog w= .ok () w)(n:α)(hn:n∈S):(Instr.lookup mt (.map (some b)) (K n) false).run prog w= .ok (.bool true) w:=by
 obtain⟨es,clk,h1,h2,h3⟩:=h;cases hv:cB es n with
 |none=>exact absurd ((h3 n).2 hn) (eE.1 hv)
 |some v=>
  have⟨p,hp,_,e⟩:=nM hv;rw[h2 p hp]at e;subst e;exact cO.AV K hm hF hchk h1.is_ n _ hv
def iR.SG(h:iR K w b S)(hm:Tryz.prog.underlying mt=some (.map kt 4))(hF:l8 K prog kt)(hchk:∀(e:Bool)(x:α)(w:bq),(Instr.checkKey e 10000 kt (K x)).run prog w= .ok () w)(n:α)(hn:n∉S):(Instr.lookup mt (.map (some b)) (K n) false).run prog w= .ok (.bool false) w:=by
 obtain⟨es,clk,h1,h2,h3⟩:=h;have hz:(zeroValue 4).run prog w= .ok false w:=by kernel_rfl
 have hf:=hF n es w;have hv:cB es n=none:=eE.2 (λhh=>hn ((h3 n).1 hh));simp only[Instr.lookup,Sem.run_bind,run_underlying hm,Result.andThen_ok,MapKept.run_getObj_map h1.is_,Sem.run_pure,hchk];rw[hf];have h2:=fV n es;rw[hv]at h2;cases hq:es.findIdx? λp=>decide (n=p.1)with
 |some j=>rw[hq]at h2;cases h2
 |none=>simp[hz]
def iR.put(h:iR K w b S)(hm:Tryz.prog.underlying mt=some (.map kt 4))(hF:l8 K prog kt)(hchk:∀(e:Bool)(x:α)(w:bq),(Instr.checkKey e 10000 kt (K x)).run prog w= .ok () w)(hst:∀x w,(Instr.keyThatStays (K x) (K x)).run prog w= .ok (K x) w)(n:α):∃w',(Instr.mapUpdate mt (.map (some b)) (K n) (.bool true)).run prog w= .ok () w'/\iR K w' b (S++[n])/\bh (λi=>i=b) w w':=by
 obtain⟨es,clk,h1,h2,h3⟩:=h;have⟨w',es',clk',k1,k2,k3,_,k5⟩:=fK.put (K:=K) (P:=prog) hm hF hchk hst h1 n true;refine⟨w',k1,⟨es',clk',k2,λp hp=> ?_,λq=> ?_⟩,k5⟩
 .have e:=nK k2.keys hp;rw[k3]at e;by_cases Wk:p.1=n
  .rw[if_pos Wk]at e;exact(Option.some.inj e).symm
  rw[if_neg Wk]at e;have⟨q,hq,_,e2⟩:=nM e;rw[<-e2];exact h2 q hq
 have e:=k3 q;rw[aI,aR,<-h3 q];by_cases TI:q=n
 .rw[if_pos TI]at e;refine⟨λ_=> .inr TI,λ_=> ?_⟩;refine Classical.byContradiction λhh=> ?_;rw[eE.2 hh]at e;cases e
 rw[if_neg TI]at e;refine⟨λhh=> .inl (Classical.byContradiction λhn=> ?_),λhh=>Classical.byContradiction λhn=> ?_⟩
 .rw[eE.2 hn]at e;exact eE.1 e hh
 rw[eE.2 hn]at e;rcases hh with hh|hh
 .exact eE.1 e.symm hh
 exact TI hh
end
instance:bD bS where
 size:=1
 rep:=λ_ _ cs x=>cs=[xS x]
 len:=λh=>by rw[h];rfl
 flat:=λh u hu=>by rw[h]at hu;simp at hu;subst hu;rfl
 ev:=λh _=>h
structure qk where
 sch:List bQ
 next:Int
 reach:List Int
 news:Int
 made:Int
 bN:List cm
 bB:List bT
 defs:List fC
 reads:List bS
structure rT where
 T:Nat
 rb:Nat
 mo:Nat
 ml:Nat
 mr:Nat
 ms:Nat
 sb:Nat
 ov:bt
 rv:bt
def CY(p:rT)(sv:bt)(next news made:Int)(dv kv:bt):Obj:=xK #[sv,p.ov,p.rv,next, .map (some p.rb),news,made, .map (some p.mo), .map (some p.ml), .map (some p.mr), .map (some p.ms),dv,kv, .map (some p.sb)] 118
def ng(p:rT):Nat->Prop:=λi=>i=p.T\/i=p.rb\/i=p.mo\/i=p.ml\/i=p.mr\/i=p.ms\/i=p.sb
def wF(p:rT)(z:Nat):Nat->Prop:=λi=>ng p i\/z<=i
def qU(M:bY)(p:rT):Nat->Prop:=λi=>M i\/ng p i
structure IZ(M:bY)(z:Nat)(p:rT):Prop where
 lt:∀i,ng p i->i<z
 far:∀i,M i->i<z
 apart:[p.T,p.rb,p.mo,p.ml,p.mr,p.ms,p.sb].Nodup
def Fk(M:bY)(W:bq)(v:bt)(l:List fC):Prop:=aS M W v l/\(l=[]->v=())
def Fk.ev {l:List fC}(h:Fk M W v l)(e:Ev M W M' W'):Fk M' W' v l:=⟨h.1.ev e,h.2⟩
def Fk.aT {l:List fC}(h:Fk M W v l)(e:bC W W'):Fk M W' v l:=⟨h.1.aT e,h.2⟩
structure mh(x:qk)(M:bY)(z:Nat)(p:rT)(W:bq):Prop where
 st:∃sv dv kv,W.heap[p.T]? =some (CY p sv x.next x.news x.made dv kv)/\aS (cz kv (qU M p)) W sv x.sch/\Fk (cz kv (qU M p)) W dv x.defs/\bP (qU M p) z 9 W kv x.reads/\iu (cz kv (qU M p)) W p.mo x.bN
 reach:iR eI W p.rb x.reach
 bB:iw W p.mr x.bB
 snaps:W.heap[p.ms]? =some (.map #[] 0)
 seen:iR fW W p.sb x.reads
 low:z<=W
def fA {p:rT}{dv kv:bt}{next news made:Int}(h:cX W p.T (CY p sv next news made dv kv)):cC W p.T 0 sv/\cC W p.T 3 next/\cC W p.T 4 (.map (some p.rb))/\cC W p.T 5 news/\cC W p.T 6 made/\cC W p.T 7 (.map (some p.mo))/\cC W p.T 9 (.map (some p.mr))/\cC W p.T 10 (.map (some p.ms))/\cC W p.T 11 dv/\cC W p.T 12 kv/\cC W p.T 13 (.map (some p.sb)):=by
 unfold CY at h;simp[World.cell?,h]
def V3 {p:rT}{dv kv kv':bt}{next news made:Int}(h:cX W p.T (CY p sv next news made dv kv)):(W.setCell (p.T,12) kv').heap[p.T]? =some (CY p sv next news made dv kv'):=by
 have:=aA W p.T 12 _ _ kv' h;simpa [CY]using this
def mh.aT {x:qk}{z:Nat}{p:rT}(h:mh x M z p W)(hb:bC W W'):mh x M z p W':=by
 have⟨sv,dv,kv,h1,h2,h3,h4,h5⟩:=h.st;exact⟨⟨sv,dv,kv,(hb.block _ (ab.1 h1).1).trans h1,h2.aT hb,h3.aT hb,h4.aT hb,h5.aT hb⟩,h.reach.same (hb.block _ h.reach.lt),h.bB.aT hb,(hb.block _ (ab.1 h.snaps).1).trans h.snaps,h.seen.same (hb.block _ h.seen.lt),aH h.low hb.size⟩
def MI {w:bq}{b:Nat}{S:List bS}(h:iR fW w b S)(n:bS)(hn:n∈S):(Instr.lookup 116 (.map (some b)) (.string n) false).run prog w= .ok (.bool true) w:=h.look underlying116 lQ jo n hn
def MJ {w:bq}{b:Nat}{S:List bS}(h:iR fW w b S)(n:bS)(hn:n∉S):(Instr.lookup 116 (.map (some b)) (.string n) false).run prog w= .ok (.bool false) w:=h.SG underlying116 lQ jo n hn
def P4 {w:bq}{b:Nat}{S:List bS}(h:iR fW w b S)(n:bS):∃w',(Instr.mapUpdate 116 (.map (some b)) (.string n) (.bool true)).run prog w= .ok () w'/\iR fW w' b (S++[n])/\bh (λi=>i=b) w w':=h.put underlying116 lQ jo Ba n
def I0 {w:bq}{b:Nat}{S:List Int}(h:iR eI w b S)(n:Int)(hn:n∉S):(Instr.lookup 96 (.map (some b)) (.int .i64 n) false).run prog w= .ok (.bool false) w:=h.SG underlying96 fH fY n hn
def MK {w:bq}{b:Nat}{S:List Int}(h:iR eI w b S)(n:Int):∃w',(Instr.mapUpdate 96 (.map (some b)) (.int .i64 n) (.bool true)).run prog w= .ok () w'/\iR eI w' b (S++[n])/\bh (λi=>i=b) w w':=h.put underlying96 fH fY A9 n
def P5:(Tryz.prog.info? 9).map (λi=>(i.zero,i.size,i.bytes))=some (some (xS ()),1,16):=by kernel_rfl
def qk.uI(x:qk)(k:bS)(x':qk):Prop:=(k∈x.reads/\x'=x)\/(k∉x.reads/\x'={x with reads:=x.reads++[k]})
def IZ.ne {M:bY}{z:Nat}{p:rT}(h:IZ M z p):(p.T≠p.rb/\p.T≠p.mo/\p.T≠p.ml/\p.T≠p.mr/\p.T≠p.ms/\p.T≠p.sb)/\(p.rb≠p.mo/\p.rb≠p.mr/\p.rb≠p.ms/\p.rb≠p.sb)/\(p.mo≠p.mr/\p.mo≠p.ms/\p.mo≠p.sb)/\(p.mr≠p.ms/\p.mr≠p.sb)/\p.ms≠p.sb:=by
 have h1:=h.apart;simp only[List.nodup_cons,aO,List.not_mem_nil,or_false,not_or,List.nodup_nil,and_true,not_false_eq_true]at h1;obtain⟨⟨a1,a2,a3,a4,a5,a6⟩,⟨b2,b3,b4,b5,b6⟩,⟨c3,c4,c5,c6⟩,⟨d4,d5,d6⟩,⟨e5,e6⟩,f6⟩:=h1;exact⟨⟨a1,a2,a3,a4,a5,a6⟩,⟨b2,b4,b5,b6⟩,⟨c4,c5,c6⟩,⟨e5,e6⟩,f6⟩
section
variable {x:qk}{M:bY}{z:Nat}{p:rT}{W W1 w6:bq}{sv dv kv kv':bt}{k:bS}{o:Obj}
def mh.ZF(h:mh x M z p W)(ha:IZ M z p)(h1:cX W p.T (CY p sv x.next x.news x.made dv kv))(h2:aS (cz kv (qU M p)) W sv x.sch)(h3:Fk (cz kv (qU M p)) W dv x.defs)(h5:iu (cz kv (qU M p)) W p.mo x.bN)
 (o1:bh (λi=>i=p.sb) W W1)(s1:iR fW W1 p.sb (x.reads++[k]))(a6:bP (qU M p) z 9 w6 kv' (x.reads++[k]))(e6:Ev (cz kv (qU M p)) (W1.alloc o) (cz kv' (qU M p)) w6)(b6:Below z (W1.alloc o) w6):
 mh {x with reads:=x.reads++[k]} M z p (w6.setCell (p.T,12) kv')/\bh (wF p z) W (w6.setCell (p.T,12) kv'):=by
 have⟨⟨n1,n2,n3,n4,n5,n6⟩,⟨n7,n8,n9,n10⟩,⟨n11,n12,n13⟩,⟨n14,n15⟩,n16⟩:=ha.ne;have hT:=ha.lt p.T (.inl rfl);have hzW:=h.low;have hs1:=o1.size;have hb:∀i,i<z->i≠p.sb->w6.heap[i]? =W.heap[i]? :=λi hi hne=>(b6.block i hi).trans ((aB W1 o i (by omega)).trans (o1.block i (by omega) hne));have UU:w6.heap[p.sb]? =W1.heap[p.sb]? :=(b6.block _ (ha.lt _ (by unfold ng;simp))).trans (aB W1 o _ (by have:=ha.lt p.sb (by unfold ng;simp);omega));have o7:bh (λi=>i=p.T) w6 (w6.setCell (p.T,12) kv'):=(bh.refl (λi=>i=p.T) w6).setCell (.inl rfl) _;have kN:z<=w6:=by have:=b6.size;simp at this;omega
 have KV:∀i,ng p i->i≠p.sb->i≠p.T->(w6.setCell (p.T,12) kv').heap[i]? =W.heap[i]? :=λi hi n1 n2=>(o7.block i (by have:=ha.lt i hi;omega) n2).trans (hb i (ha.lt i hi) n1);have hcell:=V3 (kv':=kv') ((hb p.T hT n6).trans h1);have E1:Ev (cz kv (qU M p)) W (cz kv (qU M p)) (W1.alloc o):=⟨(o1.mono λi hi=> .inl (.inr (.inr (.inr (.inr (.inr (.inr (.inr hi)))))))).trans (bh.bA cU),λi hi=> .inl hi⟩;have E7:Ev (cz kv' (qU M p)) w6 (cz kv' (qU M p)) (w6.setCell (p.T,12) kv'):=⟨o7.mono λi hi=> .inl (.inr (.inl hi)),λi hi=> .inl hi⟩;have E:=(E1.trans e6).trans E7;have a7:=a6.tz o7 (λi hi=> .inr (.inl hi)) (λg hg he=>by have h1:=(a6.dC g hg).1;have h2:g=p.T:=he;omega);refine⟨⟨⟨sv,dv,kv',hcell,h2.ev E,h3.ev E,a7,h5.ev E (KV _ (by unfold ng;simp) n13 (λe=>n2 e.symm))⟩,h.reach.same (KV _ (by unfold ng;simp) n10 (λe=>n1 e.symm)),h.bB.ev (KV _ (by unfold ng;simp) n15 (λe=>n4 e.symm)),(KV _ (by unfold ng;simp) n16 (λe=>n5 e.symm)).trans h.snaps,s1.same ((o7.block _ (by have:=ha.lt p.sb (by unfold ng;simp);omega) (λe=>n6 e.symm)).trans UU),aH kN o7.size⟩,?_⟩;refine⟨o7.os.trans (b6.os.trans (o1.os)),o7.tape.trans (b6.tape.trans o1.tape),o7.output.trans (b6.output.trans o1.output),by have:=b6.size;have:=o7.size;simp at*;omega,λi hi hn=> ?_⟩;have RM:i<z:=Classical.byContradiction λhh=>hn (.inr (by omega));have Ts:¬ng p i:=λhh=>hn (.inl hh);exact(o7.block i (by omega) (λe=>Ts (.inl e))).trans (hb i RM (λe=>Ts (.inr (.inr (.inr (.inr (.inr (.inr e))))))))
end
def Kv(x:qk)(M:bY)(z:Nat)(p:rT)(ha:IZ M z p)(W:bq)(h:mh x M z p W)(k:bS)(b off c:Nat)(hc:cC W b off k)(hl:x.reads.length<=1000):
 xC 79 #[xP p.T,xL (b,off) 1 c] W λe w'=>e=xR (.tuple #[])/\(∃x',x.uI k x'/\mh x' M z p w')/\bh (wF p z) W w':=by
 have⟨i0,hi0,hz0,hz1,hz2⟩:=info_parts P5;have HH:=aV h;have HA:=aV ha;have HC:=aV hc;delta xC;go_in;go_wp2;go_loopg [5,8]1(λgg _ iv wr=>∃i:Nat,gg=1-i/\i<=1/\iv=xI i/\Hd ((i=0/\wr=W)\/(i=1/\(∃x',x.uI k x'/\mh x' M z p wr)/\bh (wF p z) W wr)));exact⟨0,rfl,by omega,rfl,aV (.inl ⟨rfl,rfl⟩)⟩;obtain⟨i,rfl,hi,rfl,HS⟩:=hrel;rename World=>wr;by_cases cE:i<1
 .obtain rfl:i=0:=by omega
  obtain rfl:wr=W:=by
   rcases HS.o with⟨_,e⟩|⟨e,_⟩
   .exact e
   cases e
  have⟨sv,dv,kv,h1,h2,h3,h4,h5⟩:=HH.o.st;obtain⟨-,-,-,-,-,-,-,-,-,-,c13⟩:=fA h1;have hc0:=HC.o;by_cases hk:k∈x.reads
  .have mD:=MI HH.o.seen k hk;have HK:Hd (x.uI k x):= .inl ⟨hk,rfl⟩;go_wp2;go_roundg 0;exact⟨1,rfl,by omega,by go_num,aV (.inr ⟨rfl,⟨x,HK.o,HH.o⟩,bh.refl _ _⟩)⟩;omega
  have mD:=MJ HH.o.seen k hk;have HK:Hd (x.uI k {x with reads:=x.reads++[k]}):= .inr ⟨hk,rfl⟩;have⟨W1,hput,hs1,ho1⟩:=P4 HH.o.seen k;obtain⟨ka,kc,rfl,_,_⟩:=h4.bj;have hne:=HA.o.ne;have hs:=ho1.size;have ha1:bP (qU M p) z 9 W1 (xL ka x.reads.length kc) x.reads:=h4.tz ho1 (λi hi=> .inr (.inr (.inr (.inr (.inr (.inr (.inr hi))))))) (λg hg he=>by have h1:=(h4.dC g hg).1;have h2:g=p.sb:=he;have:=HA.o.lt p.sb (by unfold ng;simp);omega);have hT1:cX W1 p.T (CY p sv x.next x.news x.made dv (xL ka x.reads.length kc)):=(ho1.block _ (ab.1 h1).1 hne.1.2.2.2.2.2).trans h1;obtain⟨-,-,-,-,-,-,-,-,-,d12,d13⟩:=fA hT1;have RY:=aV (show z<=W1 by have:=HH.o.low;omega);have H1:=aV h1;have H2:=aV h2;have H3:=aV h3;have H4:=aV h4;have H5:=aV h5;have re:=aV hs1;have rU:=aV ho1;have zX:=aV ha1;have zz:=aV hT1;go_wp2_with(at_builtin;refine cA (α:=bS) rfl _ _ _ rfl (qU M p) z 9 i0 _ 16 underlying46 hi0 hz0 hz1 hz2 rfl (by decide) (.slice ka x.reads.length kc) x.reads rfl (zX.o.alloc _) (λ_=>True) _ [.string k] k rfl (jz _ _ #[.string k] _ 1 rfl rfl trivial) (show _=_ from rfl) (by unfold maxLen;omega) (by omega) (by have:=RY.o;simp;omega) ?_;intro a2 c2 w6 cF eD kN;have KL:=aV (HH.o.ZF HA.o H1.o H2.o H3.o H5.o rU.o re.o cF eD kN);have gw:=(kN.block p.T (HA.o.lt _ (.inl rfl))).trans ((aB W1 _ p.T (by have:=RY.o;have:=HA.o.lt p.T (.inl rfl);omega)).trans zz.o);have s6:=(fA gw).2.2.2.2.2.2.2.2.2.1;have f6:=aY gw 12;clear cF eD kN gw);go_roundg 0;exact⟨1,rfl,by omega,by go_num,aV (.inr ⟨rfl,⟨_,HK.o,KL.o.1⟩,KL.o.2⟩)⟩;omega
 obtain rfl:i=1:=by omega
 go_wp2_with fail;rcases HS.o with⟨e,_⟩|⟨_,h1,h2⟩
 .cases e
 exact bodyPost_end (results_none rfl _ _ _) rfl ⟨rfl,h1,h2⟩
def Bj(x:qk)(M:bY)(z:Nat)(p:rT)(W:bq)(h:mh x M z p W)(n:Int)(hn:n∉x.reach):xC 159 #[xP p.T,n] W λe w'=>e=xR false/\w'=W:=by
 have mD:=I0 h.reach n hn;obtain⟨sv,dv,kv,h1,-⟩:=h.st;obtain⟨-,-,c4,-⟩:=fA h1;clear h1 h hn;delta xC;go_in;go_wp2;go_ret;exact⟨rfl,rfl⟩
def numberT_ok(x:qk)(M:bY)(z:Nat)(p:rT)(W:bq)(h:mh x M z p W)(n:Int)(hn: -1000<=n/\n<=1000000)(hx:0<=x.next/\x.next<=1000000):xC 158 #[xP p.T,n] W λe w'=>e=xR (xI (if n<0 then x.next-n-1 else n))/\w'=W:=by
 obtain⟨sv,dv,kv,h1,-⟩:=h.st;obtain⟨-,c3,-⟩:=fA h1;clear h1 h;generalize x.next=nx at*;obtain⟨g1,g2⟩:=hn;obtain⟨g3,g4⟩:=hx;by_cases cE:n<0
 .rw[if_pos cE];go_enter func158,ntmps158;go_wp2;go_ret;refine⟨?_,rfl⟩;first|rfl|(rw[aw _ (by omega),aw _ (by omega)])|trace_state
 rw[if_neg cE];go_enter func158,ntmps158;go_wp2;go_ret;exact⟨rfl,rfl⟩
def iU(k:Int):Int:=if k=3 then 1 else if k=4 then 2 else if k=1 then 3 else if k=2 then 4 else 5
def Kw(k:Int)(hk:1<=k/\k<=5)(w:bq):xC 86 #[k] w λe w'=>e=xR (iU k)/\w'=w:=by
 have h:k=1\/k=2\/k=3\/k=4\/k=5:=by omega
 clear hk;rcases h with rfl|rfl|rfl|rfl|rfl;all_goals
  delta xC;go_in;go_wp2;go_ret;exact⟨rfl,rfl⟩
def ML(x:qk)(M:bY)(z:Nat)(p:rT)(W:bq)(h:mh x M z p W)(id:Int)(hr:id∉x.reach):
 xC 77 #[xP p.T,zR 7 id () () () () ()] W λe w'=>e= .panicked (yR 101)/\bC W w':=by
 have HF:Hd (∀V,bC W V->_):=λV hb=>Bj x M z p V (h.aT hb) id hr;have HU:=aV (Bi 101);have HX:=aV (Bx.fm W (ir 7 id () () () () ()));clear h hr;delta xC;go_in;go_upto_region 1 with fail;have⟨W1,hW1⟩:=dd (W.alloc (ir 7 id () () () () ()));rw[<-hW1]at HX;unfold ir at hW1;rw[<-hW1];clear hW1;have a1:=(cQ (HX.o.cP rfl)).c1;have pr:=aV (show W.heap.size<W1 by have:=HX.o.cM;simp at this;omega);clear a1;refine' j5 6 ?hl ?hm ?hB1 ?hB ?hh;case hl=>exact rfl
 case hm=>kernel_rfl
 case hB1=>kernel_rfl
 case hB=>kernel_rfl
 intro ι _ F jr vO;have s0:=λi=>(cQ (((jr i).block _ pr.o).trans (HX.o.cP rfl))).c1;have iY:=aV jr;have uR:=aV vO;clear jr vO;simp only[List.take_succ_cons,List.take_zero,Act.put,List.setIfInBounds_toArray,List.set_cons_zero,List.set_cons_succ];repeat(go_big_quiet_step(first
  |(go_at_call 159;refine(HF.o _ (HX.o.1.trans ((iY.o _).mono HX.o.1.size))).mono ?_;rintro e w3⟨rfl,rfl⟩;exact⟨rfl,uR.o _ (iY.o _)⟩)))
 refine wpQuiet_nil ?_;rintro _⟨nq,rfl⟩;have NZ:Hd (bC W (F nq)):=HX.o.1.trans ((iY.o nq).mono HX.o.1.size);clear s0;go_simp;go_at_call 69;refine(HU.o _).mono ?_;rintro e w3⟨rfl,rfl⟩;exact⟨rfl,rfl,NZ.o⟩
end
section
open Go.RowKit Go.Shelf Go.Lib
open Go.Sort (SWO grow alloc_eq_grow grow_grow)
def Fl:Go.Shelf.Ren:=⟨λ|6=>83|15=>164|14=>163|28=>225|29=>226|20=>217|21=>218|22=>219|23=>220|24=>221|25=>222|26=>223|27=>224|46=>279|47=>280|48=>281|49=>282|50=>283|57=>314|n=>n,λ|22=>45|24=>81|25=>180|3=>3|39=>248|0=>0|53=>305|55=>307|4=>4|46=>299|45=>298|50=>63|5=>5|9=>9|66=>359|70=>363|76=>404|77=>405|n=>n,λ|n=>n⟩
def S6:Go.Proofs.SlLaysF0.n6 prog Fl:={
 mixed:=by kernel_rfl
 f6:=⟨Tryz.f83.name,by decide,Tryz.func83.trans (by kernel_rfl)⟩
 f14:=⟨Tryz.f163.name,by decide,Tryz.func163.trans (by kernel_rfl)⟩
 f15:=Tryz.func164.trans (by kernel_rfl)
 f20:=⟨Tryz.f217.name,by decide,Tryz.func217.trans (by kernel_rfl)⟩
 f21:=⟨Tryz.f218.name,by decide,Tryz.func218.trans (by kernel_rfl)⟩
 f22:=⟨Tryz.f219.name,by decide,Tryz.func219.trans (by kernel_rfl)⟩
 f23:=⟨Tryz.f220.name,by decide,Tryz.func220.trans (by kernel_rfl)⟩
 f24:=⟨Tryz.f221.name,by decide,Tryz.func221.trans (by kernel_rfl)⟩
 f25:=⟨Tryz.f222.name,by decide,Tryz.func222.trans (by kernel_rfl)⟩
 f26:=⟨Tryz.f223.name,by decide,Tryz.func223.trans (by kernel_rfl)⟩
 f27:=⟨Tryz.f224.name,by decide,Tryz.func224.trans (by kernel_rfl)⟩
 f28:=Tryz.func225.trans (by kernel_rfl)
 f29:=Tryz.func226.trans (by kernel_rfl)
 f46:=⟨Tryz.f279.name,by decide,Tryz.func279.trans (by kernel_rfl)⟩
 f47:=Tryz.func280.trans (by kernel_rfl)
 f48:=Tryz.func281.trans (by kernel_rfl)
 f49:=⟨Tryz.f282.name,by decide,Tryz.func282.trans (by kernel_rfl)⟩
 f50:=⟨Tryz.f283.name,by decide,Tryz.func283.trans (by kernel_rfl)⟩
 f57:=⟨Tryz.f314.name,by decide,Tryz.func314.trans (by kernel_rfl)⟩
 t0:=underlying0
 a0:=isAgg0
 z0:=sizeOf0
 v0:=zeroValue0
 t3:=underlying3
 a3:=isAgg3
 z3:=sizeOf3
 v3:=zeroValue3
 t4:=underlying4
 a4:=isAgg4
 z4:=sizeOf4
 v4:=zeroValue4
 t5:=underlying5
 a5:=isAgg5
 z5:=sizeOf5
 v5:=zeroValue5
 t9:=underlying9
 a9:=isAgg9
 z9:=sizeOf9
 v9:=zeroValue9
 t22:=underlying45
 a22:=isAgg45
 z22:=sizeOf45
 v22:=zeroValue45
 t25:=underlying180
 a25:=isAgg180
 z25:=sizeOf180
 v25:=zeroValue180
 t39:=underlying248
 a39:=isAgg248
 z39:=sizeOf248
 v39:=zeroValue248
 t45:=underlying298
 a45:=isAgg298
 z45:=sizeOf298
 v45:=zeroValue298
 t46:=underlying299
 a46:=isAgg299
 z46:=sizeOf299
 v46:=zeroValue299
 t50:=underlying63
 a50:=isAgg63
 z50:=sizeOf63
 v50:=zeroValue63
 t53:=underlying305
 a53:=isAgg305
 z53:=sizeOf305
 v53:=zeroValue305
 t55:=underlying307
 a55:=isAgg307
 z55:=sizeOf307
 v55:=zeroValue307
 t66:=underlying359
 a66:=isAgg359
 z66:=sizeOf359
 v66:=zeroValue359
 t70:=underlying363
 a70:=isAgg363
 z70:=sizeOf363
 v70:=zeroValue363
 t76:=underlying404
 a76:=isAgg404
 z76:=sizeOf404
 v76:=zeroValue404
 t77:=underlying405
 a77:=isAgg405
 z77:=sizeOf405
 v77:=zeroValue405}
abbrev mB:={r:fC//1<=r.bg/\r.bg<=3}
instance:bD mB where
 size:=18
 rep:=λM w cs x=>bD.rep M w cs x.1
 len:=λh=>bD.len (α:=fC) h
 flat:=λh=>bD.flat (α:=fC) h
 ev:=λh k=>bD.ev (α:=fC) h k
def yS(r:fC):Int×Int×Int×bS:=if r.bg=1 then(3,r.j9.id,0,())else if r.bg=2 then(4,0,0,r.aX)else(1,r.id,r.dB,())
def Bk(a b:Int×Int×Int×bS):Bool:=decide (a.1<b.1)||(decide (a.1=b.1)&&(decide (a.2.1<b.2.1)||(decide (a.2.1=b.2.1)&&(decide (a.2.2.1<b.2.2.1)||(decide (a.2.2.1=b.2.2.1)&&gP a.2.2.2 b.2.2.2)))))
def V4(a b:fC):Int:=if Lib.compareInt (iU a.bg) (iU b.bg)≠0 then Lib.compareInt (iU a.bg) (iU b.bg)else if a.bg=1 then Lib.compareInt a.j9.id b.j9.id else if a.bg=2 then qg a.aX b.aX else if Lib.compareInt a.id b.id≠0 then Lib.compareInt a.id b.id else Lib.compareInt a.dB b.dB
def V5 {x y:Int}:Lib.compareInt x y=0↔x=y:=by
 unfold Lib.compareInt;by_cases h1:x<y
 .simp[h1];omega
 by_cases h2:y<x
 .simp[h1,h2];omega
 simp[h1,h2];omega
def P6 {x y:Int}:Lib.compareInt x y<0↔x<y:=by
 have:=ltInt x y;simpa using this
def P7 {k:Int}(h:1<=k/\k<=3):k=1\/k=2\/k=3:=by omega
def ql(a b:fC)(ha:1<=a.bg/\a.bg<=3)(hb:1<=b.bg/\b.bg<=3):decide (V4 a b<0)=Bk (yS a) (yS b):=by
 have c1:iU 1=3:=rfl;have c2:iU 2=4:=rfl;have c3:iU 3=1:=rfl;have e:∀r:Int,Lib.compareInt r r=0:=λr=>V5.2 rfl;rcases P7 ha with h|h|h<;>rcases P7 hb with k|k|k;all_goals
  unfold V4 yS Bk;rw[h,k];simp only[c1,c2,c3,e]
 .simp[P6,dQ]
 .simp[Lib.compareInt]
 .simp[Lib.compareInt]
 .simp[Lib.compareInt]
 .simpa using PS a.aX b.aX
 .simp[Lib.compareInt]
 .simp[Lib.compareInt]
 .simp[Lib.compareInt]
 by_cases hq:a.id=b.id
 .simp[hq,V5,P6,e,dQ]
 have:Lib.compareInt a.id b.id≠0:=λhh=>hq (V5.1 hh);simp[this,hq,P6]
def I1(a:Int×Int×Int×bS):Bk a a=false:=by simp[Bk,dQ]
def CC {a b:Int×Int×Int×bS}:Bk a b=true↔a.1<b.1\/(a.1=b.1/\(a.2.1<b.2.1\/(a.2.1=b.2.1/\(a.2.2.1<b.2.2.1\/(a.2.2.1=b.2.2.1/\gP a.2.2.2 b.2.2.2=true))))):=by simp[Bk]
def MM {a b c:Int×Int×Int×bS}(h:Bk a b=true)(k:Bk b c=true):Bk a c=true:=by
 rw[CC]at*;rcases h with h|⟨h0,h|⟨h1,h|⟨h2,h⟩⟩⟩<;>rcases k with k|⟨k0,k|⟨k1,k|⟨k2,k⟩⟩⟩;all_goals first
  |(left;omega)
  |(refine .inr ⟨by omega, .inl (by omega)⟩)
  |(refine .inr ⟨by omega, .inr ⟨by omega, .inl (by omega)⟩⟩)
  |(refine .inr ⟨by omega, .inr ⟨by omega, .inr ⟨by omega,jA h k⟩⟩⟩)
def I2 {a b c:Int×Int×Int×bS}(h:Bk a b=false)(k:Bk b c=false):Bk a c=false:=by
 have h':¬(Bk a b=true):=by simp[h]
 have k':¬(Bk b c=true):=by simp[k]
 rw[CC]at h' k';cases hq:Bk a c with
 |false=>rfl
 |true=>
  rw[CC]at hq;exfalso;rcases hq with q|⟨q0,q|⟨q1,q|⟨q2,q⟩⟩⟩
  .have h1:¬a.1<b.1:=λe=>h' (.inl e);have k1:¬b.1<c.1:=λe=>k' (.inl e);omega
  .have h1:¬a.1<b.1:=λe=>h' (.inl e);have k1:¬b.1<c.1:=λe=>k' (.inl e);have h2:¬a.2.1<b.2.1:=λe=>h' (.inr ⟨by omega, .inl e⟩);have k2:¬b.2.1<c.2.1:=λe=>k' (.inr ⟨by omega, .inl e⟩);omega
  .have h1:¬a.1<b.1:=λe=>h' (.inl e);have k1:¬b.1<c.1:=λe=>k' (.inl e);have h2:¬a.2.1<b.2.1:=λe=>h' (.inr ⟨by omega, .inl e⟩);have k2:¬b.2.1<c.2.1:=λe=>k' (.inr ⟨by omega, .inl e⟩);have h3:¬a.2.2.1<b.2.2.1:=λe=>h' (.inr ⟨by omega, .inr ⟨by omega, .inl e⟩⟩);have k3:¬b.2.2.1<c.2.2.1:=λe=>k' (.inr ⟨by omega, .inr ⟨by omega, .inl e⟩⟩);omega
  have h1:¬a.1<b.1:=λe=>h' (.inl e);have k1:¬b.1<c.1:=λe=>k' (.inl e);have h2:¬a.2.1<b.2.1:=λe=>h' (.inr ⟨by omega, .inl e⟩);have k2:¬b.2.1<c.2.1:=λe=>k' (.inr ⟨by omega, .inl e⟩);have h3:¬a.2.2.1<b.2.2.1:=λe=>h' (.inr ⟨by omega, .inr ⟨by omega, .inl e⟩⟩);have k3:¬b.2.2.1<c.2.2.1:=λe=>k' (.inr ⟨by omega, .inr ⟨by omega, .inl e⟩⟩);have h4:gP a.2.2.2 b.2.2.2=false:=by
   cases hh:gP a.2.2.2 b.2.2.2 with
   |false=>rfl
   |true=>exact absurd (.inr ⟨by omega, .inr ⟨by omega, .inr ⟨by omega,hh⟩⟩⟩) h'
  have k4:gP b.2.2.2 c.2.2.2=false:=by
   cases hh:gP b.2.2.2 c.2.2.2 with
   |false=>rfl
   |true=>exact absurd (.inr ⟨by omega, .inr ⟨by omega, .inr ⟨by omega,hh⟩⟩⟩) k'
  have:=vA h4 k4;rw[q]at this;cases this
theorem Kx {β κ:Type}(f:β->κ)(lt:κ->κ->Bool):∀{l m:List β},l.Perm m->l.Pairwise (λa b=>lt (f b) (f a)=false)->m.Pairwise (λa b=>lt (f a) (f b)=true)->l=m
 |[],m,h,_,_=>by rw[List.nil_perm.1 h]
 |a::l,[],h,_,_=>by have:=h.length_eq;simp at this
 |a::l,b::m,h,h1,h2=>by
  rw[List.pairwise_cons]at h1 h2;have ha:a∈b::m:=h.mem_iff.1 List.mem_cons_self;have hb:b∈a::l:=h.mem_iff.2 List.mem_cons_self;have e:a=b:=by
   rcases aO.1 ha with e|ha
   .exact e
   rcases aO.1 hb with e|hb
   .exact e.symm
   have k1:=h1.1 b hb;have k2:=h2.1 a ha;rw[k1]at k2;cases k2
  subst e;rw[Kx f lt (List.perm_cons a|>.1 h) h1.2 h2.2]
abbrev RC:={t:fC×(Option Addr×Nat×Nat)×(Option Addr×Nat×Nat)//1<=t.1.bg/\t.1.bg<=3}
instance:Inhabited RC:=⟨⟨(⟨1,⟨0,0,0,[]⟩,0,0,(),⟨⟨#[]⟩,[]⟩,⟨0,(),(),(),⟨0,0⟩,(),()⟩⟩,(none,0,0),(none,0,0)),by decide⟩⟩
def ZG:Ed mB RC (Int×Int×Int×bS)where
 enc b:=yN b.1.1 (xL b.1.2.1.1 b.1.2.1.2.1 b.1.2.1.2.2) (xL b.1.2.2.1 b.1.2.2.2.1 b.1.2.2.2.2)
 key b:=yS b.1.1
 keyA x:=yS x.1
 len _:=rfl
 one b v hv:=by simp at hv;rcases hv with rfl|rfl|rfl|rfl|rfl|rfl|rfl|rfl|rfl|rfl|rfl|rfl|rfl|rfl|rfl|rfl|rfl|rfl<;>rfl
 dec {M w cs x}:=λ⟨vv,fv,h,h1,h2,_⟩=>by
  obtain⟨a,c,rfl,_⟩:=h1.bj;obtain⟨a2,c2,rfl,_⟩:=h2.bj;exact⟨⟨(x.1,(a,_,c),(a2,_,c2)),x.2⟩,h.symm,rfl⟩
def ZH:SWO (ltOf λx y:RC=>V4 x.1.1 y.1.1)where
 irrefl x:=by unfold ltOf;rw[ql _ _ x.2 x.2];exact I1 _
 trans x y z h1 h2:=by unfold ltOf at*;rw[ql _ _ x.2 y.2]at h1;rw[ql _ _ y.2 z.2]at h2;rw[ql _ _ x.2 z.2];exact MM h1 h2
 ntrans x y z h1 h2:=by unfold ltOf at*;rw[ql _ _ x.2 y.2]at h1;rw[ql _ _ y.2 z.2]at h2;rw[ql _ _ x.2 z.2];exact I2 h1 h2
def qcw(a b:fC)(ha:1<=a.bg/\a.bg<=3)(hb:1<=b.bg/\b.bg<=3)(va fa vb fb:bt)(hva:∃p n c,va=xL p n c)(R3:∃p n c,fa=xL p n c)(hvb:∃p n c,vb=xL p n c)(hfb:∃p n c,fb=xL p n c)(W:bq):xC 84 #[yJ a va fa,yJ b vb fb] W λe w'=>e=xR (V4 a b)/\∃q os',w'=grow (W.drewN q) os':=by
 obtain⟨va1,va2,va3,rfl⟩:=hva;obtain⟨Ty,fa2,fa3,rfl⟩:=R3;obtain⟨vb1,vb2,vb3,rfl⟩:=hvb;obtain⟨fb1,fb2,fb3,rfl⟩:=hfb;have HRA:=aV (λV=>Kw a.bg (by omega) V);have HRB:=aV (λV=>Kw b.bg (by omega) V);have NA:Hd (∀V,xC 85 #[iU a.bg,iU b.bg] V λe w'=>e=xR (xI (Lib.compareInt (iU a.bg) (iU b.bg)))/\w'=V):=λV=>(tx (iU a.bg) (iU b.bg) V).mono λ_ _ h=>⟨h.1,h.2.symm⟩;have wN:=aV (λV=>tx a.j9.id b.j9.id V);have Q3:=aV (λV=>Kt a.aX b.aX V);have HC3:=aV (λV=>tx a.id b.id V);have KM:=aV (λV=>tx a.dB b.dB V);have C5:Hd (V4 a b=if Lib.compareInt (iU a.bg) (iU b.bg)≠0 then Lib.compareInt (iU a.bg) (iU b.bg)else if a.bg=1 then Lib.compareInt a.j9.id b.j9.id else if a.bg=2 then qg a.aX b.aX else if Lib.compareInt a.id b.id≠0 then Lib.compareInt a.id b.id else Lib.compareInt a.dB b.dB):=rfl;have HX:=aV (Bx.ei W (mX a (xL va1 va2 va3) (xL Ty fa2 fa3)) (mX b (xL vb1 vb2 vb3) (xL fb1 fb2 fb3)));have hk:=P7 ha;clear ha hb;generalize V4 a b=cf at*;generalize Lib.compareInt (iU a.bg) (iU b.bg)=c0 at*;generalize Lib.compareInt a.j9.id b.j9.id=c1 at*;generalize qg a.aX b.aX=c2 at*;generalize Lib.compareInt a.id b.id=c3 at*;generalize Lib.compareInt a.dB b.dB=c4 at*;generalize iU a.bg=ra at*;generalize iU b.bg=rb at*;delta xC;go_in;go_upto_region 1 with fail;have⟨W1,hW1⟩:=dd ((W.alloc (mX a (xL va1 va2 va3) (xL Ty fa2 fa3))).alloc (mX b (xL vb1 vb2 vb3) (xL fb1 fb2 fb3)));rw[<-hW1]at HX;have HG:Hd (∀q,∃q' os',W1.drewN q=grow (W.drewN q') os'):=λq=>⟨q,_,by rw[hW1,alloc_eq_grow,alloc_eq_grow,grow_grow];rfl⟩;unfold mX at hW1;rw[<-hW1];clear hW1;obtain⟨a0,a1,-,-,-,a5,a6,a7,-,-⟩:=gM (HX.o.cP rfl);obtain⟨b0,b1,-,-,-,b5,b6,b7,-,-⟩:=gM (HX.o.cZ rfl);go_quiet(first
  |(go_at_call 86;(with_reducible first|exact Calls.quiet_of_same (HRA.o _)|exact Calls.quiet_of_same (HRB.o _)))
  |(go_at_call 85;exact Calls.quiet_of_same (NA.o _)));by_cases hc:c0=0
 .subst hc;rcases hk with hk|hk|hk
  .have e:cf=c1:=by rw[C5.o];simp[hk]
   subst e;rw[hk]at a0;clear C5 hk;go_wp2_with fail;refine ey (wN.o _) ?_;go_wp2;go_ret;exact⟨rfl,HG.o nq⟩
  .have e:cf=c2:=by rw[C5.o];simp[hk]
   subst e;rw[hk]at a0;clear C5 hk;go_wp2_with fail;refine ey (Q3.o _) ?_;go_wp2;go_ret;exact⟨rfl,HG.o nq⟩
  rw[hk]at a0;by_cases Q6:c3=0
  .have e:cf=c4:=by rw[C5.o];simp[hk,Q6]
   subst e;subst Q6;clear C5 hk;go_wp2_with fail;refine ey (HC3.o _) ?_;go_wp2_with fail;refine ey (KM.o _) ?_;go_wp2;go_ret;exact⟨rfl,HG.o nq⟩
  have e:cf=c3:=by rw[C5.o];simp[hk,Q6]
  subst e;clear C5 hk;go_wp2_with fail;refine ey (HC3.o _) ?_;go_wp2;go_ret;exact⟨rfl,HG.o nq⟩
 have e:cf=c0:=by rw[C5.o];simp[hc]
 subst e;clear C5;go_wp2;go_ret;exact⟨rfl,HG.o nq⟩
def I3(M:bY)(base:Nat)(w:bq)(v:bt)(xs:List mB)(h:bP M base 81 w v xs)(hM:∀g,v.ownBlock=some g->¬M g)(hx:xs.length<1000000):
 xC 83 #[v, .func (.func 84) #[] #[]] w λe w'=>e=xR (.tuple #[])/\∃ys,xs.Perm ys/\(ys.map λx:mB=>yS x.1).Pairwise (λa b=>Bk b a=false)/\aS M w' v ys/\bh (λi=>v.ownBlock=some i) w w':=by
 have h1:=yh ZG S6 isAgg81 sizeOf81 (λx y=>V4 x.1.1 y.1.1) Bk (λb c=>ql _ _ b.2 c.2) ZH 84 (enters_of func84 (by kernel_rfl) rfl) (λx y W=>qcw x.1.1 y.1.1 x.2 y.2 _ _ _ _ ⟨_,_,_,rfl⟩ ⟨_,_,_,rfl⟩ ⟨_,_,_,rfl⟩ ⟨_,_,_,rfl⟩ W) M base 81 w v xs h hM hx;exact h1
end
section
open Go.RowKit Go.Shelf
def Bl:(Tryz.prog.info? 81).map (λi=>(i.zero,i.size,i.bytes))=some (some (.agg #[xI 0,xI 0,xI 0,xI 0,(),xI 0,xI 0,"","",(),xI 0,"","","",xI 0,xI 0,"",""]),18,232):=by kernel_rfl
def V6:bK:=⟨0,(),(),(),⟨0,0⟩,(),()⟩
def tD(o:cm):fC:=⟨1,o,0,0,(),⟨⟨#[]⟩,[]⟩,V6⟩
def kk(r:bT):fC:=⟨2,⟨0,0,0,[]⟩,r.id,0,r.aX,⟨⟨#[]⟩,[]⟩,V6⟩
def zT(o:cm):mB:=⟨tD o,by show 1<=(1:Int)/\(1:Int)<=3;omega⟩
def rH(r:bT):mB:=⟨kk r,by show 1<=(2:Int)/\(2:Int)<=3;omega⟩
def P8 {M:bY}{w:bq}{v:bt}{l:List mB}:aS M w v l↔aS M w v (l.map Subtype.val):=by
 constructor
 .rintro⟨css,h1,h2,h3⟩;refine⟨css,by rw[aL];exact h1,by rw[aL];exact h2,λi cs x hc hx=> ?_⟩;rw[List.getElem?_map]at hx;obtain⟨y,hy,rfl⟩:=Option.map_eq_some_iff.1 hx;exact h3 i cs y hc hy
 rintro⟨css,h1,h2,h3⟩;rw[aL]at h1 h2;exact⟨css,h1,h2,λi cs x hc hx=>h3 i cs x.1 hc (by rw[List.getElem?_map,hx];rfl)⟩
section
variable {P:Program}{α:Type} [bD α]{o:Oper}{a:Act}{w:bq}{ops:Array Oper}{rest:List Oper}{Q:Exit->Act->bq->Prop}(hgd:o.guard=none)(s x:Operand)(t:TypeId)
 (ho:o.op= .call {callee:= .builtin .append,args:= #[s,x],argTypes:= #[t,t]})
 (M:bY)(base:Nat)(e:TypeId)(i:TypeInfo)(z:bt)(bytes:Nat)(ht:P.underlying t=some (.slice e))(hi:P.info? e=some i)(hz:i.zero=some z)
 (hsize:i.size=bD.size α)(hby:i.bytes=bytes)(hzs:z.cells.size=bD.size α)(hsz:0<bD.size α)
 (v:bt)(xs:List α)(hs:a.eval s=v)(hacc:bP M base e w v xs)
 (F:bY)(sv:bt)(cs:List bt)(y:α)(hx:a.eval x=sv)(hr:du F w (bD.size α) sv 1 cs)(hy:bD.rep (cz v M) w cs y)
 (h63:xs.length+1<=maxLen)(hbytes:(xs.length+1)*bytes<=140737488355328)(hbase:base<=w.heap.size)
include hgd ho ht hi hz hsize hby hzs hsz hs hacc hx hr hy h63 hbytes hbase
def mi
 (h:∀a' c' w',bP M base e w' (xL a' (xs.length+1) c') (xs++[y])->bh (λk=>v.ownBlock=some k) w w'->((Value.slice a' (xs.length+1) c').ownBlock=v.ownBlock\/(Value.slice a' (xs.length+1) c').ownBlock=some w.heap.size)->wpList P ops Q rest (a.put o.dst (xL a' (xs.length+1) c')) w'):wpList P ops Q (o::rest) a w:=by
 obtain⟨css,h1,h2,h3⟩:=hacc;refine iV w hgd s x t ho base e i z (bD.size α) bytes ht hi hz hsize hby hzs hsz v xs.length css.flatten hs h1 sv 1 cs hx hr (bD.flat hy) h63 hbytes hbase λa' c' w' k1 k2 k3=> ?_;exact h a' c' w' (bP.snoc h2 h3 hy k1 k2 k3) ((bh.refl (λk=>v.ownBlock=some k) w).grown k2 λg hg=> .inl hg) k3
end
structure Fm {β:Type}(M:bY)(base r mb clk:Nat)(W3:bq)(v:bt)(V:List (β×bt×Nat))(rs:List mB)(wr:bq):Prop where
 low:Below base W3 wr
 iter:IterM wr r mb V clk
 acc:bP (orM M r) base 81 wr v rs
 own:∀g,v.ownBlock=some g->g≠r
 big:base<=wr
section
variable {β:Type}{M:bY}{base r mb clk:Nat}{W3 wr w' w5 w6:bq}{v v2:bt}{V V':List (β×bt×Nat)}{rs rs':List mB}
def Fm.aT(h:Fm M base r mb clk W3 v V rs wr)(hb:bC wr w'):Fm M base r mb clk W3 v V rs w':=
 ⟨h.low.trans (hb.mono h.big),(hb.block _ (ab.1 h.iter).1).trans h.iter,h.acc.aT hb,h.own,aH h.big hb.size⟩
def Fm.drawn(h:Fm M base r mb clk W3 v V rs wr)(hr:base<=r)(ho:bh (λi=>i=r) wr w')(hi:IterM w' r mb V' clk):Fm M base r mb clk W3 v V' rs w':=
 ⟨cr h.low h.big ho (λi hi=>by have hi:i=r:=hi;omega),hi,h.acc.tz ho (λi hi=> .inr hi) h.own,h.own,aH h.big ho.size⟩
def Fm.next(h:Fm M base r mb clk W3 v V rs w5)(ha:bP (orM M r) base 81 w6 v2 rs')(ho:bh (λk=>v.ownBlock=some k) (w5.alloc o1) w6)(hv:v2.ownBlock=v.ownBlock\/v2.ownBlock=some (w5.alloc o1).heap.size):Fm M base r mb clk W3 v2 V rs' w6:=by
 have hr:=(ab.1 h.iter).1;have hz:(w5.alloc o1).heap.size=[w5]:=by simp
 refine⟨cr (h.low.alloc h.big o1) (by have:=h.big;omega) ho (λi hi=>(h.acc.dC i hi).1),?_,ha,λg hg=> ?_,by have:=h.big;have:=ho.size;omega⟩
 .exact(ho.block r (by omega) (λe=>h.own r e rfl)).trans ((aB w5 o1 r hr).trans h.iter)
 rcases hv with hv|hv
 .exact h.own g (by rw[<-hv];exact hg)
 rw[hv]at hg;cases hg;omega
def Fm.map(h:Fm M base r mb clk W3 v V rs wr){Ky:β->bt}{es:List (β×bt×Nat)}(hm:fK Ky W3 mb es clk)(hmb:mb<base):fK Ky wr mb es clk:=hm.same _ (h.low.block _ hmb)
end
def Fo(M:bY)(w:bq)(v:bt)(l:List mB)(h:aS M w v l)(hl:l.length<=40):
 xG 82 #[v] w λv w'=>bP M w 81 w' v l:=by
 have⟨i0,hi0,hz0,hz1,hz2⟩:=info_parts Bl;have HS:=aV h;obtain⟨a,c,rfl,dN,hmx,ho⟩:=h.bj;have HE:Hd (bP (α:=mB) M w 81 (w.alloc (xK #[] 81)) (xL (w,0) 0 0) []):=bP.made M #[] 0 cN (by unfold maxLen;omega) rfl;have q89:∀(w:bq)(a:fM)(n c n' c':Nat),(binOp .eql 45 (.slice a n c) (.slice none n' c')).run prog w= .ok (.bool a.isNone) w:=λw a n c n' c'=>Lib.run_eql_slice_nil w _ _ a n c n' c' underlying45;have⟨n,hn⟩:=js (l.length);have HO:Hd (a=none->l=[]):=λha=>by
  by_cases hp:0<l.length
  .have⟨b,off,h1,_⟩:=ho hp;rw[ha]at h1;cases h1
  exact List.length_eq_zero_iff.1 (by omega)
 rw[hn]at hl dN⊢;have iy:=aV (show aS M w (xL a n c) l by rw[<-hn];exact HS.o);have HN:=aV hn;cases a with
 |none=>
  obtain rfl:=HO.o rfl;go_enter func82,ntmps82;go_wp2;go_ret;exact⟨_,rfl,bP.nil _ _ _ _,eH⟩
 |some adr=>
 go_enter func82,ntmps82;go_wp2_with(at_builtin;go_loud(refine dM (α:=mB) rfl _ _ _ rfl M w 81 i0 _ 232 underlying45 hi0 hz0 hz1 hz2 rfl (by decide) (.slice (w,0) 0 0) [] rfl HE.o (.slice (some adr) n c) l rfl (iy.o.ev (tg HE.o rfl cU)) (by rw[HN.o];simp;unfold maxLen;omega) (by rw[HN.o];simp;omega) (by simp) ?_);rw[HN.o];simp only[aD,Nat.zero_add,List.nil_append];intro a2 c2 w2 cF eD cJ;have dR:=aV cF;have cR:Hd (bC w w2):=cU.trans cJ;clear cF eD cJ);go_ret;exact⟨_,rfl,dR.o,cR.o⟩
def yT(ds:List mB)(os:List cm)(rs:List bT):List mB:=ds++os.map zT++rs.map rH
def MN {l ys:List cm}{ks:List Int}(hl:(dV l).Pairwise (·< ·))(hk:ks.Nodup)(hy:ys.map cm.id=ks)(ji:∀o∈ys,o∈l)(hall:∀o∈l,o.id∈ks):ys.Perm l:=by
 have hyn:ys.Nodup:=by
  have h1:(ys.map cm.id).Nodup:=by rw[hy];exact hk
  rw[List.nodup_iff_pairwise_ne,List.pairwise_map]at h1;exact h1.imp λh e=>h (by rw[e])
 have hln:l.Nodup:=by
  have h1:(l.map cm.id).Pairwise (·< ·):=hl;rw[List.pairwise_map]at h1;exact h1.imp λh e=>by rw[e]at h;omega
 refine(List.perm_ext_iff_of_nodup hyn hln).2 λo=>⟨ji o,λho=> ?_⟩;have h1:=hall o ho;rw[<-hy]at h1;have⟨o',ho',e⟩:=aQ.1 h1;have⟨i,hi⟩:=aP ho;have⟨j,hj⟩:=aP (ji o' ho');obtain rfl:=kD hl hi hj e.symm;rw[hi]at hj;cases hj;exact ho'
def I4 {l ys:List bT}{ks:List bS}(hl:gJ l)(hk:ks.Nodup)(hy:ys.map bT.aX=ks)(ji:∀o∈ys,o∈l)(hall:∀o∈l,o.aX∈ks):ys.Perm l:=by
 have hyn:ys.Nodup:=by
  have h1:(ys.map bT.aX).Nodup:=by rw[hy];exact hk
  rw[List.nodup_iff_pairwise_ne,List.pairwise_map]at h1;exact h1.imp λh e=>h (by rw[e])
 have hln:l.Nodup:=by
  have h1:(l.map bT.aX).Pairwise (λa b=>gP a b=true):=hl;rw[List.pairwise_map]at h1;exact h1.imp λh e=>by rw[e,dQ]at h;cases h
 refine(List.perm_ext_iff_of_nodup hyn hln).2 λo=>⟨ji o,λho=> ?_⟩;have h1:=hall o ho;rw[<-hy]at h1;have⟨o',ho',e⟩:=aQ.1 h1;have⟨i,hi⟩:=aP ho;have⟨j,hj⟩:=aP (ji o' ho');obtain rfl:=qe hl hi hj e.symm;rw[hi]at hj;cases hj;exact ho'
def I5(x:qk)(M:bY)(z:Nat)(p:rT)(ha:IZ M z p)(W:bq)(h:mh x M z p W)(ds:List mB)(hds:x.defs=ds.map Subtype.val)(hd:ds.length<=40)(UY:∀r∈x.bB,r.aX.size<=maxLen)(U1:(dV x.bN).Pairwise (·< ·))(hrn:gJ x.bB)(rI:x.bN.length<=1000)(hlr:x.bB.length<=1000)
 (hst:(yT ds x.bN x.bB).Pairwise (λa b=>Bk (yS a.1) (yS b.1)=true)):
 xG 29 #[xP p.T] W λv w'=>aS M w' v ((yT ds x.bN x.bB).map Subtype.val):=by
 have⟨i0,hi0,hz0,hz1,hz2⟩:=info_parts Bl;obtain⟨sv,dv,kv,h1,h2,⟨h3,-⟩,h4,h5⟩:=h.st;obtain⟨n1,hn1⟩:∃N:bY,N=cz kv (qU M p):=⟨_,rfl⟩;have To:Hd (∀i,n1 i->i<W.heap.size):=λi hi=>by
  rw[hn1]at hi;have:=h.low;rcases hi with(hi|hi)|hi
  .have:=ha.far i hi;omega
  .have:=ha.lt i hi;omega
  exact(h4.dC i hi).2
 have tM:Hd (∀i,M i->n1 i):=λi hi=>by rw[hn1];exact .inl (.inl hi)
 rw[<-hn1]at h3 h5;clear hn1 h2 h4;obtain⟨es,clk,hm,zw,hall⟩:=h5;have⟨fs,clk2,hm2,hfs,hall2⟩:=h.bB;have Nv:fK fW W p.ms [] 0:=⟨h.snaps,by simp,by simp,by simp⟩;rw[hds]at h3;have HDF:=aV (P8.2 h3);have tT:=aV (show p.T<W/\p.mo<W/\p.mr<W/\p.ms<W by
  have:=h.low;have h1:=ha.lt p.T (by unfold ng;simp);have h2:=ha.lt p.mo (by unfold ng;simp);have h3:=ha.lt p.mr (by unfold ng;simp);have h4:=ha.lt p.ms (by unfold ng;simp);omega);have Bz:=aV hm;have BI:=aV hm2;have XR:=aV Nv;have HES:=aV zw;have jL:=aV hfs;have zu:=aV hall;have RN:=aV hall2;have NX:=aV U1;have C9:=aV hrn;have XF:=aV UY;have iG:=aV hst;have Gn:=aV h1;have hel:es.length<=1000:=by
  have h1:=nJ (x.bN.map cm.id) (es.map (·.1)) hm.keys (λq hq=>by
   obtain⟨p,hp,rfl⟩:=aQ.1 hq;have⟨o,vv,j1,j2,_⟩:=zw p hp;exact aQ.2 ⟨o,j1,j2.symm⟩);simp at h1;omega
 have JE:fs.length<=1000:=by
  have h1:=nJ (x.bB.map bT.aX) (fs.map (·.1)) hm2.keys (λq hq=>by
   obtain⟨p,hp,rfl⟩:=aQ.1 hq;have⟨o,j1,j2,_⟩:=hfs p hp;exact aQ.2 ⟨o,j1,j2.symm⟩);simp at h1;omega
 clear hm hm2 Nv zw hfs hall hall2 h U1 hrn UY hst ha hds;obtain⟨-,-,-,-,-,c7,-,-,c11,-⟩:=fA h1;obtain⟨da,dc,rfl,-⟩:=HDF.o.bj;clear h1 h3;generalize hdn:ds.length=dn at*;have HDN:=aV hdn;clear hdn;generalize x.bN=xo at*;generalize x.bB=xr at*;have mC:=aV (Fo n1 W _ ds HDF.o (by rw[HDN.o];exact hd));delta xG;go_in;go_wp2_with fail;refine(mC.o).mono ?_;rintro e w1⟨_,rfl,hacc,hb1⟩;have cu:=aV hb1;have RE:=aV hacc;obtain⟨va,vc,hve,-,-⟩:=hacc.bj;rw[HDN.o]at hve;subst hve;obtain⟨-,-,-,-,-,k7,-⟩:=fA ((hb1.block _ tT.o.1).trans Gn.o);have hr1:=run_range_map (P:=prog) w1 114 _ _ p.mo _ clk underlying114 ((hb1.block _ tT.o.2.1).trans Bz.o.is_);clear hacc hb1 c7 c11;go_upto_region 3 with fail;clear hr1 k7;have⟨W2,hW2⟩:=dd (w1.alloc (.mapIter (some p.mo) clk #[] clk));have bZ:=aV (show bC w1 W2 by rw[hW2];exact cU);have ni:=aV (show IterM W2 w1 p.mo ([]:List (Int×bt×Nat)) clk by rw[hW2];exact az w1 _);rw[<-hW2];clear hW2;have hs0:Fm n1 W w1 p.mo clk W (xL va dn vc) ([]:List (Int×bt×Nat)) (ds++([]:List cm).map zT) W2:=⟨cu.o.trans (bZ.o.mono cu.o.size),ni.o,by
  rw[List.map_nil,List.append_nil];exact(RE.o.more λi hi=>hi.imp_right λe=>by omega).aT bZ.o,λg hg=>by have:=(RE.o.dC g hg).2;omega,aH cu.o.size bZ.o.size⟩;have QK:Hd (Fm n1 W w1 p.mo clk W (xL va dn vc) ([]:List (Int×bt×Nat)) (ds++([]:List cm).map zT) W2/\PV cm.id xo es [] []):=⟨hs0,⟨by simp,by simp,by simp,by simp⟩⟩;have nU:Hd (W.heap.size<=w1):=cu.o.size;generalize w1.heap.size=r1 at*;clear hs0;generalize hnn:es.length=n at*;have wP:=aV hnn;clear hnn;have qbr:∀(oi oc ov:Int)(a:fM)(m c:Nat)(W:bq),(Instr.build 81 #[(0,xI 1),(1, .agg #[oi,oc,ov,xL a m c])]).run prog W= .ok (.agg #[xI 1,oi,oc,ov,xL a m c,xI 0,xI 0,"","",(),xI 0,"","","",xI 0,xI 0,"",""]) W:=λ_ _ _ _ _ _ W=>run_build W _ _ _ (by kernel_rfl);go_loopg [3,5]n(λgg v3 _ wr=>∃(V:List (Int×bt×Nat))(os:List cm),gg=n-V.length/\Hd (Fm n1 W r1 p.mo clk W v3 V (ds++os.map zT) wr/\PV cm.id xo es V os));exact⟨[],[],by simp,QK⟩;obtain⟨V,os,rfl,HS⟩:=hrel;rename World=>wr;have⟨gl,hgl⟩:=dd (ds++os.map zT);rw[<-hgl]at HS;have HGN:Hd (gl.length=dn+V.length/\ds++os.map zT=gl):=⟨by
  have h1:=congrArg List.length HS.o.2.ids;have h2:=HDN.o;rw[hgl];simp at h1⊢;omega,hgl.symm⟩;clear hgl;have Rv:=HS.o.1.map Bz.o tT.o.2.1;rcases Rv.step (P:=prog) eI HS.o.1.iter HS.o.2.sub HS.o.2.nod 0 with⟨kp,iI⟩|⟨q,XS,hp,R4,iI,uU,mw,qJ,ho1,jG⟩;rotate_left
 .have C7:=jJ (es:=es) mw (λz hz=>by
   rcases aI.1 hz with hz|hz
   .exact HS.o.2.sub z hz
   rw[aR.1 hz];exact hp);rw[aJ,List.length_singleton,wP.o]at C7;have⟨o,vv,ho,e1,e2,hvs⟩:=HES.o q hp;have HD:=aV (HS.o.1.drawn (V':=V++[q]) nU.o ho1 uU);have HQ:=aV (HS.o.2.more hp mw ho e1);have F4:=hvs;obtain⟨xa,xc,rfl,_⟩:=F4.bj;have zy:=aV hvs;obtain⟨q1,q2,q3⟩:=q;dsimp only at e1 e2 iI jG;subst e1;subst e2;dsimp only[eI,rO]at iI jG;obtain⟨ya,yc,rfl,-,-⟩:=HD.o.acc.bj;clear hvs F4 uU mw qJ ho1 hp R4 ho;go_upto_region 5 with fail;clear iI jG;have⟨W4,hW4⟩:=dd (XS.alloc (eV o (xL xa o.bR.length xc)));have nX:=aV (show cX W4 XS (eV o (xL xa o.bR.length xc))by rw[hW4];exact az XS _);have Gq:=aV (HD.o.aT (hW4▸cU));unfold eV at hW4;rw[<-hW4];clear hW4;have⟨x0,x1,x2,x3⟩:=aU nX.o;have hgb:gl.length<=2000:=by have:=HGN.o.1;omega
  have fR:Hd (∀o1,bD.rep (α:=mB) (cz (xL ya gl.length yc) (orM n1 r1)) (W4.alloc o1) [xI 1,xI o.id,xI o.dz,xI o.dB,xL xa o.bR.length xc,xI 0,xI 0,"","",(),xI 0,"","","",xI 0,xI 0,"",""] (zT o)):=λo1=>⟨xL xa o.bR.length xc,(),rfl,zy.o.ev ⟨bh.bA (Gq.o.low.alloc Gq.o.big o1),λi hi=>by
   rcases hi with(hi|hi)|hi
   .exact .inl hi
   .right;have:=nU.o;omega
   right;exact(Gq.o.acc.dC i hi).1⟩,aS.nil _ _,show(ByteArray.mk #[]).size<=maxLen by decide,show(ByteArray.mk #[]).size<=maxLen by decide⟩;have NM:Hd (W.heap.size<=W4):=Gq.o.big;go_wp2_with(at_builtin;refine mi (α:=mB) rfl _ _ _ rfl (orM n1 r1) W 81 i0 _ 232 underlying45 hi0 hz0 hz1 hz2 rfl (by decide) (.slice ya gl.length yc) gl rfl (Gq.o.acc.alloc _) (λ_=>True) _ _ (zT o) rfl (dj _ _ _ _ rfl trivial) (fR.o _) (by unfold maxLen;omega) (by omega) (by have:=NM.o;simp;omega) ?_;intro a2 c2 w6 cF CN hv2;have rX:=aV (Gq.o.next cF CN hv2);clear cF CN hv2);go_roundg(n-(V.length+1));case measure=>omega
  case rel=>
   refine⟨V++[(o.id,rO o (xL xa o.bR.length xc),q3)],os++[o],by simp,aV ⟨?_,HQ.o⟩⟩;rw[List.map_append,<-List.append_assoc,HGN.o.2];exact rX.o
 have Uy:Hd (os.Perm xo):=MN NX.o (ks:=V.map (·.1)) ((kp.map (·.1)).nodup_iff.2 Bz.o.keys) HS.o.2.ids HS.o.2.mem (λo ho=>(kp.map (·.1)).mem_iff.2 (zu.o o ho));have C3:=aV (show V.length<=n by have h1:=kp.length_eq;have h2:=wP.o;omega);obtain⟨ya,yc,rfl,-,-⟩:=HS.o.1.acc.bj;have NR:=aV HS.o.1;have T2:=(NR.o.low.block _ tT.o.1).trans Gn.o;obtain⟨-,-,-,-,-,-,k9,-⟩:=fA T2;have hr2:=run_range_map (P:=prog) wr 115 _ _ p.mr _ clk2 underlying115 ((NR.o.low.block _ tT.o.2.2.1).trans BI.o.is_);clear kp Rv HS T2;go_upto_region 7 with fail;clear hr2 k9 iI;have⟨W5,hW5⟩:=dd (wr.alloc (.mapIter (some p.mr) clk2 #[] clk2));have jF:=aV (show bC wr W5 by rw[hW5];exact cU);have UP:=aV (show IterM W5 wr p.mr ([]:List (bS×bt×Nat)) clk2 by rw[hW5];exact az wr _);rw[<-hW5];clear hW5;have hs1:Fm n1 W wr p.mr clk2 W (xL ya gl.length yc) ([]:List (bS×bt×Nat)) (gl++([]:List bT).map rH) W5:=⟨NR.o.low.trans (jF.o.mono NR.o.big),UP.o,by
  rw[List.map_nil,List.append_nil];exact(NR.o.acc.more λi hi=>by
   rcases hi with hi|hi
   .exact .inl (.inl hi)
   right;omega).aT jF.o,λg hg=>by have:=(NR.o.acc.dC g hg).2;omega,aH NR.o.big jF.o.size⟩;have re:Hd (Fm n1 W wr p.mr clk2 W (xL ya gl.length yc) ([]:List (bS×bt×Nat)) (gl++([]:List bT).map rH) W5/\PV bT.aX xr fs [] []):=⟨hs1,⟨by simp,by simp,by simp,by simp⟩⟩;have vZ:Hd (W.heap.size<=wr):=NR.o.big;generalize wr.heap.size=r2 at*;clear hs1;generalize Rz:fs.length=n2 at*;have RA:=aV Rz;clear Rz;have qbs:∀(nm:bS)(ri:Int)(W:bq),(Instr.build 81 #[(0,xI 2),(4,xS nm),(2,xI ri)]).run prog W= .ok (.agg #[xI 2,xI 0,xI 0,xI 0,(),ri,xI 0,nm,"",(),xI 0,"","","",xI 0,xI 0,"",""]) W:=λ_ _ W=>run_build W _ _ _ (by kernel_rfl);go_loopg [3,6,7]n2(λgg v3 _ _ wq=>∃(V2:List (bS×bt×Nat))(rs:List bT),gg=n2-V2.length/\Hd (Fm n1 W r2 p.mr clk2 W v3 V2 (gl++rs.map rH) wq/\PV bT.aX xr fs V2 rs));exact⟨[],[],by simp,re⟩;obtain⟨V2,rs,rfl,HS⟩:=hrel;rename World=>wq;have⟨g2,hg2⟩:=dd (gl++rs.map rH);rw[<-hg2]at HS;have QX:Hd (g2.length=gl.length+V2.length/\gl++rs.map rH=g2):=⟨by
  have h1:=congrArg List.length HS.o.2.ids;rw[hg2];simp at h1⊢;omega,hg2.symm⟩;clear hg2;have Rv:=HS.o.1.map BI.o tT.o.2.2.1;rcases Rv.step (P:=prog) fW HS.o.1.iter HS.o.2.sub HS.o.2.nod 0 with⟨kp,iI⟩|⟨q,XS,hp,R4,iI,uU,mw,qJ,ho1,jG⟩;rotate_left
 .have C7:=jJ (es:=fs) mw (λz hz=>by
   rcases aI.1 hz with hz|hz
   .exact HS.o.2.sub z hz
   rw[aR.1 hz];exact hp);rw[aJ,List.length_singleton,RA.o]at C7;have⟨o,ho,e1,e2⟩:=jL.o q hp;have HD:=aV (HS.o.1.drawn (V':=V2++[q]) vZ.o ho1 uU);have HQ:=aV (HS.o.2.more hp mw ho e1);have HNZ:Hd (o.aX.size<=maxLen):=XF.o o ho;obtain⟨q1,q2,q3⟩:=q;dsimp only at e1 e2 iI jG;subst e1;subst e2;dsimp only[fW]at iI jG;obtain⟨ga,gc,rfl,-,-⟩:=HD.o.acc.bj;have hgb:g2.length<=4000:=by have:=QX.o.1;have:=HGN.o.1;have:=C3.o;omega
  obtain⟨rn,ri⟩:=o;dsimp only at iI jG;have fR:Hd (∀o1,bD.rep (α:=mB) (cz (xL ga g2.length gc) (orM n1 r2)) (XS.alloc o1) [xI 2,xI 0,xI 0,xI 0,(),xI ri,xI 0,xS rn,"",(),xI 0,"","","",xI 0,xI 0,"",""] (rH ⟨rn,ri⟩)):=λo1=>⟨(),(),rfl,aS.nil _ _,aS.nil _ _,HNZ.o,show(ByteArray.mk #[]).size<=maxLen by decide⟩;have NM:Hd (W.heap.size<=XS):=HD.o.big;clear uU mw qJ ho1 hp R4 ho;go_wp2_with(at_builtin;refine mi (α:=mB) rfl _ _ _ rfl (orM n1 r2) W 81 i0 _ 232 underlying45 hi0 hz0 hz1 hz2 rfl (by decide) (.slice ga g2.length gc) g2 rfl (HD.o.acc.alloc _) (λ_=>True) _ _ (rH ⟨rn,ri⟩) rfl (dj _ _ _ _ rfl trivial) (fR.o _) (by unfold maxLen;omega) (by omega) (by have:=NM.o;simp;omega) ?_;intro a2 c2 w6 cF CN hv2;have rX:=aV (HD.o.next cF CN hv2);clear cF CN hv2);go_roundg(n2-(V2.length+1));case measure=>omega
  case rel=>
   refine⟨V2++[(rn,xI ri,q3)],rs++[⟨rn,ri⟩],by simp,aV ⟨?_,HQ.o⟩⟩;rw[List.map_append,<-List.append_assoc,QX.o.2];exact rX.o
 have HPR:Hd (rs.Perm xr):=I4 C9.o (ks:=V2.map (·.1)) ((kp.map (·.1)).nodup_iff.2 BI.o.keys) HS.o.2.ids HS.o.2.mem (λo ho=>(kp.map (·.1)).mem_iff.2 (RN.o o ho));obtain⟨ga,gc,rfl,-,-⟩:=HS.o.1.acc.bj;have pA:=aV HS.o.1;have T2:=(pA.o.low.block _ tT.o.1).trans Gn.o;obtain⟨-,-,-,-,-,-,-,k10,-⟩:=fA T2;have Tu:=run_range_map (P:=prog) wq 115 _ _ p.ms _ 0 underlying115 ((pA.o.low.block _ tT.o.2.2.2).trans XR.o.is_);have hln:g2.length<1000000:=by have h1:=kp.length_eq;have:=RA.o;have:=QX.o.1;have:=HGN.o.1;have:=C3.o;omega
 clear kp Rv HS T2;go_upto_region 11 with fail;clear Tu k10 iI;have⟨W7,hW7⟩:=dd (wq.alloc (.mapIter (some p.ms) 0 #[] 0));have og:=aV (show bC wq W7 by rw[hW7];exact cU);have HI7:=aV (show IterM W7 wq p.ms ([]:List (bS×bt×Nat)) 0 by rw[hW7];exact az wq _);rw[<-hW7];clear hW7;have HM7:Hd (fK fW W7 p.ms [] 0):=XR.o.same _ ((og.o.block _ (by have:=tT.o.2.2.2;have:=pA.o.big;omega)).trans (pA.o.low.block _ tT.o.2.2.2));have HSO:=aV (I3 (orM n1 r2) W W7 (xL ga g2.length gc) g2 (pA.o.acc.aT og.o) (λg hg hi=>by
  rcases hi with hi|hi
  .have:=To.o g hi;have:=(pA.o.acc.dC g hg).1;omega
  exact pA.o.own g hg hi) hln);go_loopg [3,8,9]0(λgg v3 _ _ wz=>gg=0/\v3=xL ga g2.length gc/\wz=W7);exact⟨rfl,rfl,rfl⟩;obtain⟨rfl,rfl,rfl⟩:=hrel;rcases HM7.o.step (P:=prog) fW HI7.o (by simp) (by simp) 0 with⟨-,iI⟩|⟨q,XS,hp,-⟩;rotate_left
 .simp at hp
 go_wp2_with fail;go_at_call 83;refine HSO.o.mono ?_;rintro e w8⟨rfl,ys,hys,YQ,hsl,ZQ⟩;have kp:ys.Perm (yT ds xo xr):=hys.symm.trans (by
  rw[<-QX.o.2,<-HGN.o.2];exact((List.Perm.refl ds).append (Uy.o.map zT)).append (HPR.o.map rH));rw[List.pairwise_map]at YQ;obtain rfl:=Kx (λx:mB=>yS x.1) Bk kp YQ iG.o;have QZ:Hd (aS M w8 (xL ga g2.length gc) ((yT ds xo xr).map Subtype.val)/\bC W w8):=⟨P8.1 (hsl.ev (Ev.eO w8 λi hi=> .inl (tM.o i hi))),cr (pA.o.low.trans (og.o.mono pA.o.big)) (by have:=pA.o.big;have:=og.o.size;omega) ZQ (λi hi=>(pA.o.acc.dC i hi).1)⟩;clear hys YQ hsl ZQ kp;go_wp2;go_ret;exact⟨_,rfl,QZ.o.1,QZ.o.2⟩
abbrev Fp(f:Nat):bt:= .agg #[.func (.func f) #[] #[]]
def jg {es:List (Int×bt×Nat)}(h:cO eI w b es clk)(x:Int)(v:bt)(hv:cB es x=none):∃w',(Instr.mapUpdate 106 (.map (some b)) x v).run prog w= .ok () w'/\cO eI w' b (es++[(x,v,clk)]) (clk+1)/\bh (λi=>i=b) w w':=by
 have⟨h1,h2⟩:=cO.insert eI (.int .i64) pV (P:=prog) underlying106 underlying3 fY h x v hv;exact⟨_,h1,h2,(bh.refl (λi=>i=b) w).putObj (.inl rfl) _⟩
def kM(w:bq)(b:Nat):Prop:=∃es clk,cO eI w b es clk/\cB es 1=some (Fp 71)/\cB es 3=some (Fp 73)/\cB es 4=some (Fp 74)/\cB es 7=some (Fp 77)
def kM.same(h:kM w b)(hb:w'.heap[b]? =w.heap[b]?):kM w' b:=by
 obtain⟨es,clk,h1,h2⟩:=h;exact⟨es,clk,hb.trans h1,h2⟩
def kM.lt(h:kM w b):b<w:=by
 obtain⟨es,clk,h1,-⟩:=h;exact(ab.1 h1).1
def kM.look(h:kM w b){k:Int}{F:Nat}(hk:(k=1/\F=71)\/(k=3/\F=73)\/(k=4/\F=74)\/(k=7/\F=77)):(Instr.lookup 106 (.map (some b)) k false).run prog w= .ok (Fp F) w:=by
 obtain⟨es,clk,h1,h2,h3,h4,h5⟩:=h;rcases hk with⟨rfl,rfl⟩|⟨rfl,rfl⟩|⟨rfl,rfl⟩|⟨rfl,rfl⟩
 .exact cO.AV eI underlying106 fH fY h1 1 _ h2
 .exact cO.AV eI underlying106 fH fY h1 3 _ h3
 .exact cO.AV eI underlying106 fH fY h1 4 _ h4
 exact cO.AV eI underlying106 fH fY h1 7 _ h5
def P9(w:bq):xC 28 #[] w λe w'=>∃b,e=xR (.map (some b))/\kM w' b/\w.heap.size<=b/\bC w w':=by
 have h0:cO eI (w.alloc (.map #[] 0)) w [] 0:=(MapKept.heap_alloc w _).1;have⟨w0,hw0⟩:=dd (w.alloc (.map #[] 0));rw[<-hw0]at h0;have⟨w1,e1,h1,o1⟩:=jg h0 1 (Fp 71) rfl;have⟨w2,e2,h2,o2⟩:=jg h1 2 (Fp 72) rfl;have⟨w3,e3,h3,o3⟩:=jg h2 3 (Fp 73) rfl;have⟨w4,e4,h4,o4⟩:=jg h3 4 (Fp 74) rfl;have⟨w5,e5,h5,o5⟩:=jg h4 5 (Fp 75) rfl;have⟨w6,e6,h6,o6⟩:=jg h5 6 (Fp 76) rfl;have⟨w7,e7,h7,o7⟩:=jg h6 7 (Fp 77) rfl;have⟨w8,e8,h8,o8⟩:=jg h7 8 (Fp 78) rfl;have⟨w9,e9,h9,o9⟩:=jg h8 9 (Fp 80) rfl;have⟨w10,e10,h10,o10⟩:=jg h9 10 (Fp 81) rfl;have HO:Hd (bC w w10):=((((bh.refl xF w).alloc (.map #[] 0)).dL (hw0▸(((((((((o1.trans o2).trans o3).trans o4).trans o5).trans o6).trans o7).trans o8).trans o9).trans o10)) (λi hi cE=>by subst hi;omega)).aT);have HM:Hd (kM w10 w):=⟨_,_,h10,rfl,rfl,rfl,rfl⟩;clear h0 h1 h2 h3 h4 h5 h6 h7 h8 h9 h10 o1 o2 o3 o4 o5 o6 o7 o8 o9 o10;unfold Fp at e1 e2 e3 e4 e5 e6 e7 e8 e9 e10;have hmk:=fJ 106 w;rw[<-hw0]at hmk;clear hw0;delta xC;go_in;go_wp2;go_ret;exact⟨_,rfl,HM.o,cN,HO.o⟩
def MO(x:bU)(M:bY)(w:bq)(hM:Bd M w)(lv ov rv qv:bt)(iH:aS M w lv x.bH)(hov:aS M w ov x.bN)(ib:aS M w rv x.bB)(reach:List Int)(hq:aS xF w qv reach)(rI:x.bN.length<=1000)(hlr:reach.length<=1000)(news:Int):
 xC 27 #[.agg #[lv,ov,rv,x.next],qv,news] w λe w'=>∃p:rT,e=xR (xP p.T)/\p.ov=ov/\p.rv=rv/\(∀z,w'.heap.size<=z->IZ M z p)/\(∀i,ng p i->w.heap.size<=i)/\(∀W,Below w' w' W->mh ⟨x.bH,x.next,reach,news,0,[],[],[],[]⟩ M W p W)/\bC w w':=by
 have HM:=aV hM;have Ns:=aV iH;have HO:Hd (∀i o,x.bN[i]? =some o->_):=λi o ho=>gX hov ho;have HQ:Hd (∀i n,reach[i]? =some n->_):=λi n hn=>lM hq hn;obtain⟨la,lc,rfl,-⟩:=iH.bj;obtain⟨oa,oc,rfl,XC,hom,-⟩:=hov.bj;obtain⟨ra,rc,rfl,-⟩:=ib.bj;obtain⟨qa,qc,rfl,hqc,hqm,-⟩:=hq.bj;clear iH hov ib hq hM;generalize qJ:x.bH.length=m1 at*;generalize hm2:x.bN.length=m2 at*;generalize Nv:x.bB.length=m3 at*;generalize hm4:reach.length=m4 at*;generalize rW:x.next=nx at*;have zW:=aV qJ;clear qJ;have QL:=aV hm2;clear hm2;have HM3:=aV Nv;clear Nv;have HM4:=aV hm4;clear hm4;have rX:=aV rW;clear rW;have hk1:=λW=>fJ 96 W;have hk2:=λW=>fJ 114 W;have BD:=λW=>fJ 115 W;have hk4:=λW=>fJ 116 W;have qbr:∀(a1 a2 a3:fM)(l1 l2 l3 c1 c2 c3:Nat)(n:Int)(mb:Nat)(W:bq),(Instr.build 113 #[(0, .agg #[xL a1 l1 c1,xL a2 l2 c2,xL a3 l3 c3,n]),(1, .map (some mb))]).run prog W= .ok (.agg #[xL a1 l1 c1,xL a2 l2 c2,xL a3 l3 c3,n, .map (some mb)]) W:=λ_ _ _ _ _ _ _ _ _ _ _ W=>run_build W _ _ _ (by kernel_rfl);have qbs:∀(a1 a2 a3:fM)(l1 l2 l3 c1 c2 c3:Nat)(n nw:Int)(mb b3 b4 b5 b6 b9:Nat)(W:bq),(Instr.build 118 #[(0, .agg #[xL a1 l1 c1,xL a2 l2 c2,xL a3 l3 c3,n, .map (some mb)]),(1,xI nw),(3, .map (some b3)),(4, .map (some b4)),(5, .map (some b5)),(6, .map (some b6)),(9, .map (some b9))]).run prog W= .ok (.agg #[xL a1 l1 c1,xL a2 l2 c2,xL a3 l3 c3,n, .map (some mb),nw,xI 0, .map (some b3), .map (some b4), .map (some b5), .map (some b6),(),(), .map (some b9)]) W:=λ_ _ _ _ _ _ _ _ _ _ _ _ _ _ _ _ _ W=>run_build W _ _ _ (by kernel_rfl);have dp:=aV (Bx.fm w (dI (xL la m1 lc) (xL oa m2 oc) (xL ra m3 rc) nx));have⟨a0,a1,a2,a3⟩:=aU (dp.o.cP rfl);delta xC;go_in;go_upto_region 2 with fail;have⟨p,hp⟩:=dd ((⟨w.heap.size+1+1+1+1+1+1+1,w.heap.size+1,w.heap.size+1+1,w.heap.size+1+1+1,w.heap.size+1+1+1+1,w.heap.size+1+1+1+1+1,w.heap.size+1+1+1+1+1+1,xL oa m2 oc,xL ra m3 rc⟩:rT));have⟨W1,hW1⟩:=dd ((((((((w.alloc (xK #[xL la m1 lc,xL oa m2 oc,xL ra m3 rc,nx] 34)).alloc (.map #[] 0)).alloc (.map #[] 0)).alloc (.map #[] 0)).alloc (.map #[] 0)).alloc (.map #[] 0)).alloc (.map #[] 0)).alloc (xK #[xL la m1 lc,xL oa m2 oc,xL ra m3 rc,nx, .map (some [w]),news,xI 0, .map (some [w,w]), .map (some [w,w,w]), .map (some (w.heap.size+1+1+1+1)), .map (some (w.heap.size+1+1+1+1+1)),(),(), .map (some (w.heap.size+1+1+1+1+1+1))] 118));have HB:=aV (show Bx w [dI (xL la m1 lc) (xL oa m2 oc) (xL ra m3 rc) nx, .map #[] 0, .map #[] 0, .map #[] 0, .map #[] 0, .map #[] 0, .map #[] 0,CY p (xL la m1 lc) nx news 0 () ()] W1 by
  rw[hW1,hp];exact((((Bx.Ou w _ _ _ _ _).snoc (by simp) _).snoc (by simp) _).snoc (by simp) _));rw[<-hW1];clear hW1 a0 a1 a2 a3 hk1 hk2 BD hk4 qbr qbs dp;have uQ:=aV (show p.T=↑w+7/\p.rb=[w]/\p.mo=↑w+2/\p.ml=↑w+3/\p.mr=↑w+4/\p.ms=↑w+5/\p.sb=↑w+6 by rw[hp];exact⟨rfl,rfl,rfl,rfl,rfl,rfl,rfl⟩);have HPV:=aV (show p.ov=xL oa m2 oc/\p.rv=xL ra m3 rc by rw[hp];exact⟨rfl,rfl⟩);have q7:w.heap.size+1+1+1+1+1+1+1=p.T:=by rw[hp]
 have q6:w.heap.size+1+1+1+1+1+1=p.sb:=by rw[hp]
 have q5:w.heap.size+1+1+1+1+1=p.ms:=by rw[hp]
 have q4:w.heap.size+1+1+1+1=p.mr:=by rw[hp]
 have q3:w.heap.size+1+1+1=p.ml:=by rw[hp]
 have q2:w.heap.size+1+1=p.mo:=by rw[hp]
 have q1:w.heap.size+1=p.rb:=by rw[hp]
 rw[q7,q6,q5,q4,q3,q2,q1];clear q1 q2 q3 q4 q5 q6 q7 hp;have Gn:=aV (show cX W1 p.T (CY p (xL la m1 lc) nx news 0 () ())by rw[uQ.o.1];exact HB.o.at_ 7 rfl);have HRB:=aV (show cX W1 p.rb (.map #[] 0)by rw[uQ.o.2.1];exact HB.o.at_ 1 rfl);have Bz:=aV (show cX W1 p.mo (.map #[] 0)by rw[uQ.o.2.2.1];exact HB.o.at_ 2 rfl);have Uu:=aV (show cX W1 p.ml (.map #[] 0)by rw[uQ.o.2.2.2.1];exact HB.o.at_ 3 rfl);have BI:=aV (show cX W1 p.mr (.map #[] 0)by rw[uQ.o.2.2.2.2.1];exact HB.o.at_ 4 rfl);have XR:=aV (show cX W1 p.ms (.map #[] 0)by rw[uQ.o.2.2.2.2.2.1];exact HB.o.at_ 5 rfl);have TO:=aV (show cX W1 p.sb (.map #[] 0)by rw[uQ.o.2.2.2.2.2.2];exact HB.o.at_ 6 rfl);have uO:Hd (ed W1 w (dI (xL la m1 lc) (xL oa m2 oc) (xL ra m3 rc) nx)):=HB.o.cP rfl;have Dc:Hd (w.heap.size+8<=W1):=HB.o.cM;have qbt:iR eI W1 p.rb (reach.take 0):=by rw[List.take_zero];exact iR.at_ HRB.o
 have Js:Hd (iR eI W1 p.rb (reach.take 0)/\bh (λk=>k=p.rb) W1 W1):=⟨qbt,bh.refl _ _⟩;clear qbt;go_wp2;go_loopg [9,25]m4(λgg _ iv wr=>∃i:Nat,gg=m4-i/\i<=m4/\iv=xI i/\Hd (iR eI wr p.rb (reach.take i)/\bh (λk=>k=p.rb) W1 wr));exact⟨0,rfl,ax _,rfl,Js⟩;obtain⟨i,rfl,hi,rfl,HS⟩:=hrel;rename World=>wr;have Dd:Hd (bC w wr):=cr HB.o.1 HB.o.1.size HS.o.2 (λk hk=>by have hk:k=p.rb:=hk;have:=uQ.o;omega);by_cases cE:i<m4
 .have⟨nn,hnn⟩:=fg reach i (by have:=HM4.o;omega);have⟨b,off,cap,hv,hbl,hcl⟩:=HQ.o i nn hnn;obtain⟨rfl,rfl⟩:=jk hv;have c0:=hcl wr Dd.o;obtain⟨-,-,c4,-⟩:=fA ((HS.o.2.block p.T (by have:=uQ.o;have:=Dc.o;omega) (by have:=uQ.o;omega)).trans Gn.o);have⟨w2,hput,hs2,ho2⟩:=MK HS.o.1 nn;have HN:Hd (iR eI w2 p.rb (reach.take (i+1))/\bh (λk=>k=p.rb) W1 w2):=⟨by rw[ao,hnn];exact hs2,HS.o.2.trans ho2⟩;clear hv hbl hcl hs2 ho2 hnn;go_wp2;go_roundg(m4-(i+1));exact⟨i+1,rfl,by omega,by go_num,HN⟩;omega
 obtain rfl:i=m4:=by omega
 obtain⟨-,a1,-,-⟩:=aU ((HS.o.2.block w (by have:=Dc.o;omega) (by have:=uQ.o;omega)).trans uO.o);have HSR:=aV (show iR eI wr p.rb reach by
  have h1:=HS.o.1;rw[ak (by rw[HM4.o];exact cN)]at h1;exact h1);have Ry:Hd ((∃l,iu (λk=>M k\/k=p.ml) wr p.ml l)/\iR eI wr p.rb reach/\bh (λk=>k=p.rb\/k=p.ml) W1 wr):=⟨⟨[],iu.at_ ((HS.o.2.block p.ml (by have:=uQ.o;have:=Dc.o;omega) (by have:=uQ.o;omega)).trans Uu.o)⟩,HSR.o,HS.o.2.mono λk hk=> .inl hk⟩;clear HS HSR;go_wp2;go_loopg [11,39]m2(λgg _ iv wq=>∃j:Nat,gg=m2-j/\j<=m2/\iv=xI j/\Hd ((∃l,iu (λk=>M k\/k=p.ml) wq p.ml l)/\iR eI wq p.rb reach/\bh (λk=>k=p.rb\/k=p.ml) W1 wq));exact⟨0,rfl,ax _,rfl,Ry⟩;obtain⟨j,rfl,hj,rfl,HS⟩:=hrel;rename World=>wq;have TY:Hd (bC w wq):=cr HB.o.1 HB.o.1.size HS.o.2.2 (λk hk=>by have hk:k=p.rb\/k=p.ml:=hk;have:=uQ.o;omega);by_cases cE:j<m2
 .have⟨o,ho⟩:=fg x.bN j (by have:=QL.o;omega);have⟨b,off,cap,va,vc,hv,hbl,hvs,hcl⟩:=HO.o j o ho;obtain⟨rfl,rfl⟩:=jk hv;have⟨c0,c1,c2,c3⟩:=hcl wq TY.o;have⟨⟨l,hob⟩,XT,hon⟩:=HS.o;have zy:=aV hvs;clear hv hbl hcl hvs;go_upto_region 10 with fail;have⟨W6,hW6⟩:=dd (wq.alloc (eV o (xL va o.bR.length vc)));have ph:=aV (show bC wq W6 by rw[hW6];exact cU);have Db:=aV (show ed W6 wq (eV o (xL va o.bR.length vc))by rw[hW6];exact az wq _);unfold eV at hW6;rw[<-hW6];clear hW6 c0 c1 c2 c3;have hvE:∀V,bC wq V->aS (λk=>M k\/k=p.ml) V (xL va o.bR.length vc) o.bR:=λV hb=>zy.o.ev ⟨bh.bA (TY.o.trans (hb.mono TY.o.size)),λk hk=>hk.imp_right λe=>by have:=uQ.o;omega⟩;have⟨wa,ea,ma,na⟩:=(hob.aT ph.o).put (o:=o) (vv:=xL va o.bR.length vc) (.inr rfl) (hvE _ ph.o);have⟨wb,eb,mb,nb⟩:=(hob.aT ph.o.drew).put (o:=o) (vv:=xL va o.bR.length vc) (.inr rfl) (hvE _ ph.o.drew);have rW:∀V V2,bC wq V->bh (λk=>k=p.ml) V V2->iR eI V2 p.rb reach/\bh (λk=>k=p.rb\/k=p.ml) W1 V2:=λV V2 hb h2=>⟨XT.same ((h2.block _ (aN XT.lt hb.size) (by have:=uQ.o;omega)).trans (hb.block _ XT.lt)),(hon.trans (bh.bA hb)).trans (h2.mono λk hk=> .inr hk)⟩;have HNA:=aV (And.intro (Exists.intro _ ma) (rW _ _ ph.o na));have To:=aV (And.intro (Exists.intro _ mb) (rW _ _ ph.o.drew nb));have⟨x0,x1,x2,x3⟩:=aU Db.o;have T2:=(ph.o.block p.T (by have:=uQ.o;have:=Dc.o;have:=hon.size;omega)).trans ((hon.block p.T (by have:=uQ.o;have:=Dc.o;omega) (by have:=uQ.o;omega)).trans Gn.o);have y8:cC W6 p.T 8 (.map (some p.ml)):=by unfold CY at T2;simp[World.cell?,T2]
  dsimp only[rO]at ea eb;clear hob XT hon hvE ma na mb nb rW T2;go_region_law fail;all_goals
   clear x0 x1 x2 x3 y8 ea eb;go_wp2;go_roundg(m2-(j+1));first|exact⟨j+1,rfl,by omega,by go_num,To⟩|exact⟨j+1,rfl,by omega,by go_num,HNA⟩
   omega
 obtain rfl:j=m2:=by omega
 go_wp2;go_ret;obtain⟨-,XT,hon⟩:=HS.o;have hP:=uQ.o;have hz:=Dc.o;have hzq:=hon.size;have qbu:∀k,k<W1.heap.size->k≠p.rb->k≠p.ml->wq.heap[k]? =W1.heap[k]? :=λk hk h1 h2=>hon.block k hk (λhh=>hh.elim h1 h2);have hS:∀k,ng p k->w.heap.size+1<=k/\k<=w.heap.size+7:=λk hk=>by
  unfold ng at hk;omega
 refine⟨p,rfl,HPV.o.1,HPV.o.2,λz hzz=>⟨λk hk=>by have:=hS k hk;omega,λk hk=>by have:=HM.o k hk;omega,?_⟩,λk hk=>by have:=hS k hk;omega,λW hb=> ?_,TY.o⟩
 .obtain⟨e1,e2,e3,e4,e5,e6,e7⟩:=hP;rw[e1,e2,e3,e4,e5,e6,e7];simp
 have hE:Ev M w (cz () (qU M p)) wq:=⟨bh.bA TY.o,λk hk=>by
  rcases hk with(hk|hk)|hk
  .exact .inl hk
  .right;have:=hS k hk;omega
  cases hk⟩;have hk2:∀k,k<W1.heap.size->k≠p.rb->k≠p.ml->W.heap[k]? =W1.heap[k]? :=λk hk h1 h2=>(hb.block k (by omega)).trans (qbu k hk h1 h2);refine⟨⟨xL la m1 lc,(),(),?_,(Ns.o.ev hE).aT hb,⟨aS.nil _ _,λ_=>rfl⟩,bP.nil _ _ _ _,iu.at_ ((hk2 _ (by omega) (by omega) (by omega)).trans Bz.o)⟩,XT.same (hb.block _ XT.lt),iw.at_ ((hk2 _ (by omega) (by omega) (by omega)).trans BI.o),(hk2 _ (by omega) (by omega) (by omega)).trans XR.o,iR.at_ ((hk2 _ (by omega) (by omega) (by omega)).trans TO.o),cN⟩;exact(hk2 _ (by omega) (by omega) (by omega)).trans Gn.o
end
section
open Go.RowKit Go.Shelf
attribute [local go_sem]Oper.semAt_some
def Kz:bE->Prop| .mk k _ _ l=>k≠3/\k≠4/\l=[]
def I7(k n:Int)(s:bS)(a:fM)(c:Nat)(hk:k≠3/\k≠4)(y:bt)(w:bq):xC 151 #[.agg #[k,n,s,xL a 0 c],y] w (di true w):=by
 have h3:(k==3)=false:=by simpa using hk.1
 have h4:(k==4)=false:=by simpa using hk.2
 have HX:=aV (Bx.fm w (fT k n s (xL a 0 c)));clear hk;delta xC;go_in;go_upto_region 1 with fail;have⟨W1,hW1⟩:=dd (w.alloc (fT k n s (xL a 0 c)));rw[<-hW1]at HX;unfold fT at hW1;rw[<-hW1];clear hW1;have⟨c0,c1,c2,c3⟩:=aU (HX.o.cP rfl);go_wp2;go_loopg [6,22]0(λgg _ iv wr=>gg=0/\iv=xI 0/\wr=W1);exact⟨rfl,rfl,rfl⟩;obtain⟨rfl,rfl,rfl⟩:=hrel;go_wp2;go_ret;exact⟨rfl,HX.o.1⟩
def mZ(a:fM)(n c:Nat)(w:bq):xC 70 #[xL a n c] w λe w'=>e=xR (.func (.func 150) #[] #[xP w.heap.size])/\w.alloc (xK #[xL a n c] 39)=w':=by
 have BC:∀(fn:Fn)(bu cap:Array bt)(w:bq),(Instr.makeFunc fn bu cap).run prog w= .ok (.func fn bu cap) w:=λ_ _ _ _=>rfl;delta xC;go_in;go_wp2;go_ret;exact⟨rfl,rfl⟩
def MP(vs:List bE)(hnr:∀v∈vs,Kz v)(M:bY)(p:Nat)(w0 w:bq)(hw:bC w0 w)(vv:bt)(hvs:aS M w0 vv vs)(hp:cX w p (xK #[vv] 39)):
 Hi (β:=Nat) prog 150 #[xP p] w xF 0 0 (λ_ _ _ _=>False) (λ_=>True):=by
 intro J Jx W hz hb hJ UC hY h0;have HJ:=aV hJ;have CU:=hw.size;have iJ:p<w:=(ab.1 hp).1;have hp0:cC W p 0 vv:=one_cell ((hb.block p iJ).trans hp);have ik:Hd (bC w0 W):=hw.trans (hb.mono CU);have HC:Hd (∀(i:Nat)(k n:Int)(s:bS)(ll:List bE),vs[i]? =some (.mk k n s ll)->_):=λi k n s ll hx=>ep hvs hx;have HNR:=aV hnr;have TB:=aV h0;obtain⟨a,cY,rfl,dN,hmx,_⟩:=hvs.bj;generalize hn:vs.length=n at*;have fB:=aV hn;refine callsIn_of_wp func150 rfl trivial ?_ rfl;simp only[ntmps150,List.size_toArray,aC,aD,Nat.reduceAdd,Nat.reduceSub,Array.replicate_succ,Array.replicate_zero,List.push_toArray,List.append_toArray,List.nil_append,List.cons_append];gi_wp2_with fail;gi_loopw [4,7](λ_ k wr=>∃i:Nat,k=xI i/\i<=n/\Hd (J 0 wr)/\Hd (bC w0 wr))(λ_ k _=>n-(intOf k).toNat);exact⟨0,rfl,ax _,TB,ik⟩;obtain⟨i,rfl,hi,Rb,HB⟩:=hrel;by_cases cE:i<n
 .have⟨⟨xk,xn,xs,xl⟩,hx⟩:=fg vs i (by rw[fB.o];exact cE);have⟨b,off,cap,a',c',hv,hbl,hsl,hss,hcells⟩:=HC.o i xk xn xs xl hx;obtain⟨rfl,rfl⟩:=jk hv;have⟨⟨g0,g1,g2,g3⟩,_⟩:=hcells wr HB.o;obtain⟨BD,hk4,rfl⟩:xk≠3/\xk≠4/\xl=[]:=HNR.o _ (ai hx);have cI:=aV (I7 xk xn xs a' c' ⟨BD,hk4⟩ (.func (.yield [w]) #[] #[]) (wr.alloc (xK #[xk,xn,xs,xL a' 0 c'] 50)));dsimp only[List.length_nil]at g3;gi_wp2_with fail;refine⟨trivial,rfl,(callsIn_wide.2 cI.o).mono ?_⟩;rintro e W3⟨rfl,hb3⟩;have eZ:bC wr W3:=cU.trans (hb3.mono (by simp));have UD:Hd (J 0 W3):=HJ.o 0 wr W3 Rb.o (bh.bA eZ);have cR:Hd (bC w0 W3):=HB.o.trans (eZ.mono HB.o.size);gi_wp2_with fail;go_roundw;exact⟨i+1,by go_num,by omega,UD,cR⟩;simp[intOf];omega
 obtain rfl:i=n:=by omega
 gi_wp2_with fail;refine bodyPost_end (results_none rfl _ _ _) rfl ?_;exact⟨⟨_,rfl⟩, .inl ⟨0,trivial,Rb.o⟩⟩
def I8(vs:List bE)(hnr:∀v∈vs,Kz v)(M:bY)(p:Nat)(w0 w:bq)(hw:bC w0 w)(vv:bt)(hvs:aS M w0 vv vs)(hp:cX w p (xK #[vv] 39)){g:Operand}{ps:Array Tmp}{assign body:Code}{Q:Exit->Act->bq->Prop}{a:Act}
 (hg:a.eval g= .func (.func 150) #[] #[xP p])(hdone:∀W,bC w W->ed W w (.deferred (some []))->Q .normal {a with defers:=Vq w::a.defers} W):(Code.rangeFunc g ps assign body).wp prog Q a w:=by
 refine wpIn_wide.1 (qA hg (enters_of func150 (by kernel_rfl) rfl) xF 0 0 (λ_ _ _ _=>False) (λ_=>True) (MP vs hnr M p w0 w hw vv hvs hp) (λi args i' W h=>h.elim) (λi hi=>hi.elim)
  (λ(_:Nat)W=>bC w W) (λ_ _=>False) (λi A B h ho=>cr h h.size ho (λj hj=>hj.1)) (λc A B h _=>h) eH ?hround ?hdone ?hstop);case hstop=>intro c W h;exact h.elim
 case hround=>intro l s args s' W _ h;exact h.elim
 case hdone=>exactλs W _ hb hd=>hdone W hb hd
end
section
open Go.RowKit Go.Shelf
structure uJ where
 bg:Int
 id:Int
 dz:bS
 aX:bS
 bR:List bE
 CL:bI
abbrev NK(o:uJ)(vv df:bt):List bt:=[xI o.bg,xI o.id,xS o.dz,xS o.aX,xI 0,xI 0,"",(),vv,xS o.CL.aX,df,xI 0,"","","",xI 0,xI 0,"",""]
def Bm(o:uJ)(vv df:bt):Prop:=(o.bR=[]->vv=())/\(o.CL.aW=[]->df=())
instance:bD uJ where
 size:=19
 rep:=λM w cs o=>∃vv df,cs=NK o vv df/\aS M w vv o.bR/\aS M w df o.CL.aW/\Bm o vv df
 len:=λ⟨_,_,h,_⟩=>by rw[h];rfl
 flat:=λ⟨_,_,h,h1,h2,_⟩u hu=>by
  rw[h]at hu;simp at hu;rcases hu with rfl|rfl|rfl|rfl|rfl|rfl|rfl|rfl|rfl|rfl|rfl|rfl|rfl|rfl|rfl|rfl|rfl|rfl|rfl;all_goals first|rfl|exact eL h1|exact eL h2
 ev:=λ⟨vv,fv,h,h1,h2,h3⟩k=>⟨vv,fv,h,h1.ev k,h2.ev k,h3⟩
def Qa {l:List uJ}(h:aS M w v l){r:uJ}(hr:l[i]? =some r):∃b off cap vv fv,v=xL (some ⟨b,off,none⟩) l.length cap/\aS M w vv r.bR/\aS M w fv r.CL.aW/\Bm r vv fv/\∀W,bC w W->W.rangeAt b (off+i*19) (NK r vv fv):=by
 obtain⟨a,cap,rfl,hl,_,hc⟩:=h.bj;have hk:=(ag.1 hr).1;obtain⟨b,off,rfl,_,hb,hcell⟩:=hc (by omega);obtain⟨cs,⟨vv,fv,rfl,hs,hf,hzv⟩,hcs⟩:=hcell i _ hr;refine⟨b,off,cap,vv,fv,rfl,hs,hf,hzv,λW hB j u hu=> ?_⟩;exact(hB.cell (p:=⟨b,off+i*19+j,none⟩) hb).trans (hcs j u hu)
def lh {ops:Array Oper}{rest:List Oper}{op:Oper}{a:Act}{Q:Exit->Act->bq->Prop}(hw:Region.wanted op (yielded ops a.tmps)=true)(x:Operand)(ho:op.op= .load 59 x)(b o:Nat)(hx:a.eval x= .pointer (b,o)){r:uJ}{vv:bt}(h:w.rangeAt b o (NK r vv fv))
 (hk:wpList prog ops Q rest (a.put op.dst (zR r.bg r.id r.dz r.aX vv r.CL.aX fv)) w):wpList prog ops Q (op::rest) a w:=
 wpList_step λK hK=>by rw[if_pos hw];exact wp_load_mid 59 x ho b o hx _ _ h underlying59 rfl Cz (hK _ _ hk)
def zOp:Obj:=ir 0 0 () () () () ()
def mj {ops:Array Oper}{rest:List Oper}{op:Oper}{a:Act}{Q:Exit->Act->bq->Prop}(hg:op.guard=none)(x y:Operand)(ho:op.op= .store 59 x y)(hx:a.eval x=xP w){k:Int}{c n:bS}{vv:bt}{dn:bS}{df:bt}(hy:a.eval y=zR k id c n vv dn df)(h1:vv.oneCell'=true)(h2:df.oneCell'=true)
 (h:∀W,Hd (ed W w (ir k id c n vv dn df))->Hd (bC w W)->wpList prog ops Q rest (a.put op.dst undef) W):wpList prog ops Q (op::rest) a (w.alloc zOp):=
 ia hg x y ho _ hx hy h1 h2 (az w zOp) λW k1 k2=>h W k1 (cr ((ay _ w).alloc cN zOp) (by simp) k2 λi hi=>by have hi:i=w:=hi;omega)
def madeOf(l:List uJ):Nat:=(l.filter (λo=>decide (o.bg=1))).length
def MQ {l:List uJ}{o:uJ}(h:l[i]? =some o):madeOf (l.take (i+1))=madeOf (l.take i)+(if o.bg=1 then 1 else 0):=by
 unfold madeOf;rw[ao,h,List.filter_append,aJ];by_cases hk:o.bg=1<;>simp[hk]
def KA(l:List uJ):madeOf l<=l.length:=List.length_filter_le _ _
def CD(l:List uJ)(i:Nat):madeOf (l.take i)<=l.length:=aH (KA _) (by simp;omega)
def yU(M:bY)(w:bq)(o:uJ):Prop:=∀(W:bq)(vv df:bt),bC w W->aS M W vv o.bR->aS M W df o.CL.aW->Bm o vv df->xC 15 #[zR o.bg o.id o.dz o.aX vv o.CL.aX df] W (di true W)
def V7(r:Nat):Deferred:={target:= .collected r,args:= #[]}
structure Ui(w:bq)(o0:Obj)(K:Nat)(m:Int)(ds:List Deferred)(W:bq):Prop where
 bx:Bx w [o0] W
 cnt:W.heap[K]? =some (eX 3 m)
 marks:∃rs:List Nat,ds=rs.map V7/\rs.Nodup/\∀r∈rs,K<r/\W.heap[r]? =some (.deferred (some []))
def Ui.aT {m:Int}{ds:List Deferred}(h:Ui w o0 K m ds W)(hb:bC W W'):Ui w o0 K m ds W':=by
 have⟨rs,h1,h2,h3⟩:=h.marks;exact⟨h.bx.aT hb,(hb.block _ (ab.1 h.cnt).1).trans h.cnt,rs,h1,h2,λr hr=>⟨(h3 r hr).1,(hb.block _ (ab.1 (h3 r hr).2).1).trans (h3 r hr).2⟩⟩
def Ui.mark {m:Int}{ds:List Deferred}(h:Ui w o0 K m ds W)(hb:bC W W')(hd:W'.heap[W.heap.size]? =some (.deferred (some []))):Ui w o0 K m (Vq W::ds) W':=by
 have h':=h.aT hb;have⟨rs,h1,h2,h3⟩:=h.marks;have⟨rs',h1',h2',h3'⟩:=h'.marks;have e:rs'=rs:=by
  have h9:rs'.map V7=rs.map V7:=by rw[<-h1',h1]
  have qey:∀(a b:List Nat),a.map V7=b.map V7->a=b:=λa=>by
   induction a with
   |nil=>intro b hb;cases b with
    |nil=>rfl
    |cons x y=>simp at hb
   |cons x y ih=>intro b hb;cases b with
    |nil=>simp at hb
    |cons x' y'=>
     rw[List.map_cons,List.map_cons,List.cons.injEq]at hb;have:x=x':=by have:=hb.1;unfold V7 at this;simpa using this
     rw[this,ih y' hb.2]
  exact qey _ _ h9
 have hK:=(ab.1 h.cnt).1;refine⟨h'.bx,h'.cnt,W.heap.size::rs,by rw[List.map_cons,<-h1];rfl,List.nodup_cons.2 ⟨λhr=> ?_,h2⟩,λr hr=> ?_⟩
 .have:=(ab.1 (h3 _ hr).2).1;omega
 rcases aO.1 hr with rfl|hr
 .exact⟨hK,hd⟩
 exact h3' r (by rw[e];exact hr)
theorem tF {F:Fence}{n:Nat}{P:Program}{fn:Func}{tmps:Array bt}{R:Ending->bq->Prop}(hv:∀W,(results fn tmps).run P W= .ok v W){z:Nat}:∀{rs:List Nat}{W:bq},rs.Nodup->(∀r∈rs,z<=r/\cX W r (.deferred (some [])))->z<=W->(∀W',Below z W W'->R (xR v) W')->LeavesInM F n P fn tmps R (rs.map V7) .returning W
 |[],W,_,_,_,hR=>⟨v,hv W,hR W eH⟩
 |r::rs,W,hn,hr,hz,hR=>by
  have h1:=hr r List.mem_cons_self;refine⟨by simp, .inl ⟨r,_,rfl,run_takeDeferred h1.2,?_⟩⟩;have ho:bh (λi=>i=r) W (W.putObj r (.deferred none)):=(bh.refl (λi=>i=r) W).putObj (.inl rfl) _;have hb:Below z W (W.putObj r (.deferred none)):=cr (ay _ W) hz ho (λi hi=>by have hi:i=r:=hi;omega);refine tF hv (List.nodup_cons.1 hn).2 (λq hq=>⟨(hr q (List.mem_cons_of_mem _ hq)).1,?_⟩) (aH hz hb.size) (λW' hb'=>hR W' (hb.trans hb'));have hq2:=(hr q (List.mem_cons_of_mem _ hq)).2;have hne:q≠r:=λe=>(List.nodup_cons.1 hn).1 (by rw[<-e];exact hq);exact(ho.block q (ab.1 hq2).1 hne).trans hq2
def Qb(w:bq):aS xF (w.alloc (xK jl 50)) (xL (w,0) 1 1) [bE.mk 0 0 () []]:=by
 refine⟨[[xI 0,xI 0,"",()]],(dj w jl 50 4 rfl (F:=λi=>¬False) (λh=>h)),rfl,λi cs x hc hx=> ?_⟩;cases i with
 |succ i=>simp at hx
 |zero=>
  simp at hc hx;subst hc;subst hx;exact fZ.iff.2 ⟨_,rfl,aS.nil _ _,iM⟩
def yV(l:List uJ):Prop:=∀o∈l,(-(madeOf l:Int)<=o.id/\o.id<=100000)/\∀v∈o.bR,Kz v
def Fq(l:List uJ):Prop:=∃o,l[0]? =some o/\o.id< -(madeOf l:Int)/\-100000<=o.id
def Qc {l:List uJ}(h:yV l)(hb:Fq l):False:=by
 obtain⟨o,ho,h1,_⟩:=hb;have:=(h o (ai ho)).1.1;omega
def Qd(nx:Int)(rW:0<=nx/\nx<=200000)(l:List uJ)(hl:l.length<=20)(M:bY)(w:bq)(lv ov rv qv:bt)(iH:∃a n c,lv=xL a n c)(hov:∃a n c,ov=xL a n c)(ib:∃a n c,rv=xL a n c)(hq:aS M w qv l)(hR:∀o∈l,yU M w o)(zA:madeOf l=0\/nx+madeOf l-1<=100000)(hid:yV l\/Fq l):
 xC 26 #[.agg #[lv,ov,rv,nx],qv] w λe w'=>((yV l/\e=xR (madeOf l))\/(Fq l/\e= .panicked (yR 170)))/\bC w w':=by
 have zj:Hd (∀W,bC w W->∀i r,l[i]? =some r->_):=λW hb i r hr=>Qa (hq.aT hb) hr;have zY:=aV hR;have qez:=aV hid;have HMD:=aV zA;have Uu:=aV (CD l);obtain⟨la,m1,lc,rfl⟩:=iH;obtain⟨oa,m2,oc,rfl⟩:=hov;obtain⟨ra,m3,rc,rfl⟩:=ib;obtain⟨qa,qc,rfl,hqc,hqm,-⟩:=hq.bj;have Nq:=aV (nQ 170);have HUB:=aV (Bi 170);clear hq hR hid zA;generalize hn:l.length=n at*;have wP:=aV hn;clear hn;have dp:=aV (Bx.fm w (dI (xL la m1 lc) (xL oa m2 oc) (xL ra m3 rc) nx));have hle:((n:Int)<=20):=by omega
 refine callsIn_wide.1 (callsIn_of_wp_marks (n:=0) func26 rfl trivial (wpIn_wide.2 ?_) rfl);simp only[ntmps26,List.size_toArray,aC,aD,Nat.reduceAdd,Nat.reduceSub,Array.replicate_succ,Array.replicate_zero,List.push_toArray,List.append_toArray,List.nil_append,List.cons_append];go_upto_region 1 with fail;have⟨W0,hW0⟩:=dd (w.alloc (dI (xL la m1 lc) (xL oa m2 oc) (xL ra m3 rc) nx));rw[<-hW0]at dp;unfold dI at hW0;rw[<-hW0];clear hW0;go_wp2_with fail;refine(Nq.o _).mono ?_;rintro e W0a⟨rfl,rfl⟩;go_upto_region 3 with fail;have⟨W1,hW1⟩:=dd (W0a.alloc (eX 3 (xI 0)));have cu:=aV (show Bx w [dI (xL la m1 lc) (xL oa m2 oc) (xL ra m3 rc) nx] W1 by rw[hW1];exact dp.o.alloc _);have gy:=aV (show ed W1 W0a (eX 3 (xI 0))by rw[hW1];exact az W0a _);have NS:Hd (w.heap.size+1<=W0a):=dp.o.cM;unfold eX at hW1;rw[<-hW1];clear hW1;generalize hKK:W0a.heap.size=K at*;have gy:=aV (show cX W1 K (eX 3 (xI 0))by first|exact gy.o|(rw[<-hKK];exact gy.o));clear hKK;have iG:Hd (Bx w [dI (xL la m1 lc) (xL oa m2 oc) (xL ra m3 rc) nx] W1/\cX W1 K (eX 3 (xI (madeOf (l.take 0):Int)))):=⟨cu.o,gy.o⟩;go_wp2;go_loopg [7,18]n(λgg _ iv wr=>∃i:Nat,gg=n-i/\i<=n/\iv=xI i/\Hd (Bx w [dI (xL la m1 lc) (xL oa m2 oc) (xL ra m3 rc) nx] wr/\cX wr K (eX 3 (xI (madeOf (l.take i):Int)))));exact⟨0,rfl,ax _,rfl,iG⟩;obtain⟨i,rfl,hi,rfl,HS⟩:=hrel;rename World=>wr;by_cases cE:i<n
 .have⟨o,ho⟩:=fg l i (by have:=wP.o;omega);have⟨b,off,cap,vv,df,hv1,hvv,hdf,hzv,hrg⟩:=zj.o wr HS.o.1.1 i o ho;obtain⟨rfl,rfl⟩:=jk hv1;have Q9:=aV (hrg wr eH);have NX:=ie (w:=wr) (λW hb=>zY.o o (ai ho) W vv df (HS.o.1.1.trans (hb.mono HS.o.1.1.size)) (hvv.aT hb) (hdf.aT hb) hzv);have hmt:=MQ ho;obtain⟨va,vc,rfl,-⟩:=hvv.bj;obtain⟨da,dc,rfl,-⟩:=hdf.bj;have HMT:=aV hmt;have Ye:=Uu.o i;clear hv1 hvv hdf hzv hrg hmt;generalize o.bR.length=vn at*;generalize o.CL.aW.length=dn at*;go_upto_region 5 with fail;iterate 4 go_step
  refine lh rfl (.tmp 20) rfl b (off+i*19) rfl Q9.o ?_;iterate 3 go_step
  refine mj rfl (.tmp 7) (.tmp 21) rfl rfl rfl rfl rfl λW3 mn cR=> ?_;go_upto_region 6 with fail;go_wp2_with(refine ew rfl (.tmp 7) rfl wr rfl mn.o ?_);refine(NX.o _ cR.o).mono ?_;rintro e w5⟨rfl,iz⟩;have od:Hd (ed w5 wr (ir o.bg o.id o.dz o.aX (xL va vn vc) o.CL.aX (xL da dn dc))):=(iz.block _ (ab.1 mn.o).1).trans mn.o;have jF:Hd (bC wr w5):=cR.o.trans (iz.mono cR.o.size);have FZ:Hd (cX w5 K (eX 3 (xI (madeOf (l.take i):Int)))):=(jF.o.block _ (ab.1 HS.o.2).1).trans HS.o.2;have mu:=aV (HS.o.1.aT jF.o);clear iz;go_wp2_with fail;refine(Nq.o _).mono ?_;rintro e w6⟨rfl,rfl⟩;have k0:=(cQ od.o).c0;by_cases hk:o.bg=1
  .have QL:=aV (show(madeOf (l.take (i+1)):Int)=(madeOf (l.take i):Int)+1 by have:=HMT.o;rw[if_pos hk]at this;omega);rw[hk]at k0;have HHK:=aV hk;clear hk;have g0:cC w6 K 0 (xI (madeOf (l.take i):Int)):=by have h:=FZ.o;unfold eX at h;simp[World.cell?,h]
   have f0:w6.frozen? (K,0)=false:=by have h:=FZ.o;unfold eX at h;exact aY h 0
   have hmb:(madeOf (l.take i):Int)<=20:=by omega
   have hmc:(0:Int)<=(madeOf (l.take i):Int):=by omega
   have Jz:Hd (Bx w [dI (xL la m1 lc) (xL oa m2 oc) (xL ra m3 rc) nx] (w6.setCell (K,0) (xI ((madeOf (l.take i):Int)+1)))/\(w6.setCell (K,0) (xI ((madeOf (l.take i):Int)+1))).heap[K]? =some (eX 3 (xI (madeOf (l.take (i+1)):Int)))):=⟨mu.o.only ((bh.refl (λj=>j=K) w6).setCell (.inl rfl) _) (λj hj=>by have hj:j=K:=hj;have:=NS.o;simp;omega),by
    rw[QL.o];have h:=FZ.o;unfold eX at h⊢;have:=aA w6 K 0 _ _ (xI ((madeOf (l.take i):Int)+1)) h;simpa using this⟩;generalize(madeOf (l.take i):Int)=md at*;go_wp2;go_roundg(n-(i+1));exact⟨i+1,rfl,by omega,by go_num,by first|exact Jz|(simpa [aw _ (show _ by omega)]using Jz)⟩;omega
  have QL:=aV (show madeOf (l.take (i+1))=madeOf (l.take i)by have:=HMT.o;rw[if_neg hk]at this;omega);have Jz:Hd (Bx w [dI (xL la m1 lc) (xL oa m2 oc) (xL ra m3 rc) nx] w6/\cX w6 K (eX 3 (xI (madeOf (l.take (i+1)):Int)))):=⟨mu.o,by rw[QL.o];exact FZ.o⟩;go_wp2;go_roundg(n-(i+1));exact⟨i+1,rfl,by omega,by go_num,Jz⟩;omega
 obtain rfl:i=n:=by omega
 have HMN:=aV (show(madeOf (l.take i):Int)=(madeOf l:Int)/\madeOf l<=i by
  have h1:=Uu.o i;rw[ak (by rw[wP.o];exact cN)]at h1⊢;exact⟨rfl,h1⟩);have Ye:(madeOf l:Int)<=20:=by have:=HMN.o.2;omega
 have qe0:(0:Int)<=(madeOf l:Int):=by omega
 have Bw:=aV (show cX wr K (eX 3 (xI (madeOf l:Int)))by rw[<-HMN.o.1];exact HS.o.2);have Aa:=aV HS.o.1;have zA:=HMD.o;have⟨m,hm⟩:=js ((madeOf l:Int));rw[hm]at Ye qe0 Bw zA;have g0:cC wr K 0 m:=by have h:=Bw.o;unfold eX at h;simp[World.cell?,h]
 obtain⟨-,-,-,b3⟩:=aU (Aa.o.cP rfl);have qe1:m=0\/nx+m-1<=100000:=by rcases zA with h|h<;>omega
 have vM:=aV hm;clear zA HS hm;go_upto_region 10 with fail;go_cut [41]from 31 to 75(λ_ wx=>wx=wr)
 .by_cases Yu:m=0
  .subst Yu;go_wp2_with fail;go_at_call 69;refine(Nq.o _).mono ?_;rintro e w6⟨rfl,rfl⟩;go_wp2;go_meet;exact rfl
  have hme:(m==0)=false:=by simpa using Yu
  have qhc:nx+m-1<=100000:=by omega
  clear qe1;go_wp2_with fail;go_at_call 69;refine(Nq.o _).mono ?_;rintro e w6⟨rfl,rfl⟩;go_wp2;go_meet;exact rfl
 obtain⟨_,rfl⟩:=hcut;go_wp2_with fail;have Ry:Hd (Ui w (dI (xL la m1 lc) (xL oa m2 oc) (xL ra m3 rc) nx) K m [] wr):=⟨Aa.o,Bw.o,[],rfl,List.nodup_nil,λr hr=>by cases hr⟩;refine wp_loop_ghost_k (λk a W=>∃(j:Nat)(ds:List Deferred)(s9 Z2 s11 iv u45 u46 u47 u48 u49 u50 u51 u52 u53 u54 u55 u56 u57 u58 u59 u60 u61 u62 u63 u64 u65 u66 u67 u68 u69 u70 u71 u72 u73:bt),k=i-j/\j<=i/\iv=xI (j:Int)/\Hd (yV l\/(Fq l/\j=0/\ds=[]))/\a={tmps:= #[.agg #[xL la m1 lc,xL oa m2 oc,xL ra m3 rc,xI nx],xL qa i qc,xP w.heap.size,undef,xI 0,xP K,undef,u7,undef,s9,Z2,s11,xL qa i qc,xI (i:Int),xB true, .tuple #[],xL qa i qc,xI (i:Int),xI (i:Int),xB false,u20,u21,u22,u23,u24,u25,u26,u27,u28,u29,u30,u31,u32,u33,u34,u35,u36,u37,u38,u39,u40,u41,xL qa i qc,xI (i:Int),iv,u45,u46,u47,u48,u49,u50,u51,u52,u53,u54,u55,u56,u57,u58,u59,u60,u61,u62,u63,u64,u65,u66,u67,u68,u69,u70,u71,u72,u73,u74],defers:=ds}/\Hd (Ui w (dI (xL la m1 lc) (xL oa m2 oc) (xL ra m3 rc) nx) K m ds W)) i ⟨0,[],_,_,_,_,_,_,_,_,_,_,_,_,_,_,_,_,_,_,_,_,_,_,_,_,_,_,_,_,_,_,_,_,_,rfl,ax _,rfl,aV (qez.o.imp_right λh=>⟨h,rfl,rfl⟩),rfl,Ry⟩ ?_;rintro gk a2 wq⟨j,ds,s9,Z2,s11,iv,u45,u46,u47,u48,u49,u50,u51,u52,u53,u54,u55,u56,u57,u58,u59,u60,u61,u62,u63,u64,u65,u66,u67,u68,u69,u70,u71,u72,u73,rfl,hj,rfl,XU,rfl,HS⟩J2 K2 hJ2 hK2;by_cases cE:j<i;rotate_left
 .obtain rfl:j=i:=by omega
  have HGG:Hd (yV l):=XU.o.elim (λh=>h) λh=>by
   obtain⟨⟨o,ho,_⟩,h0,_⟩:=h;have:=(ag.1 ho).1;have:=wP.o;omega
  have c0:cC wq K 0 m:=by have h:=HS.o.cnt;unfold eX at h;simp[World.cell?,h]
  go_wp2_with fail;obtain⟨rs,rfl,Tt,UY⟩:=HS.o.marks;have hlr:=Aa.o;exact tF (v:=xI m) (z:=K+1) (λW=>by simp[results,results26,go_sem]) Tt (λr hr=>⟨(UY r hr).1,(UY r hr).2⟩) (by have:=(ab.1 HS.o.cnt).1;omega) (λW' hb=>⟨.inl ⟨HGG.o,by rw[vM.o]⟩,HS.o.bx.1.trans (hb.mono (by have:=NS.o;omega))⟩)
 dsimp only;have hlq:=HS.o.bx.1;have⟨o,ho⟩:=fg l j (by have:=wP.o;omega);obtain⟨b,off,cap,vv,df,hv1,hvv,hdf,-,hrg⟩:=zj.o wq hlq j o ho;obtain⟨rfl,rfl⟩:=jk hv1;have Q9:=aV (hrg wq eH);have XO:=aV hvv;have HO:=aV ho;obtain⟨va,vc,rfl,-⟩:=hvv.bj;obtain⟨da,dc,rfl,-⟩:=hdf.bj;clear hv1 hvv hdf hrg ho hlq;generalize hvn:o.bR.length=vn at*;have HVN:=aV hvn;clear hvn;generalize o.CL.aW.length=dn at*;go_upto_region 13 with fail;iterate 4 go_step
 refine lh rfl (.tmp 46) rfl b (off+j*19) rfl Q9.o ?_;iterate 3 go_step
 refine mj rfl (.tmp 9) (.tmp 47) rfl rfl rfl rfl rfl λW3 mn cR=> ?_;obtain⟨k0,k1,k2,k3,k4,k5,k6,k7,k8,k9,k10,-,-,-,-,-,-,-,-⟩:=cQ mn.o;have jM:=aV (HS.o.aT cR.o);have cK:cC W3 K 0 m:=by have h:=jM.o.cnt;unfold eX at h;simp[World.cell?,h]
 go_upto_region 14 with fail;rcases XU.o with hG|⟨hB,rfl,rfl⟩;rotate_left
 .have BB:=aV hB;obtain⟨o',ho',jE,qfx⟩:=hB;obtain rfl:o'=o:=Option.some.inj (ho'.symm.trans HO.o);rw[vM.o]at jE;clear ho';go_wp2_with fail;go_at_call 69;rw[show decide (-m<=o'.id)=false from by simp;omega];refine(HUB.o _).mono ?_;rintro e w6⟨rfl,rfl⟩;exact⟨.inr ⟨BB.o,rfl⟩,jM.o.bx.1⟩
 have HGG:=aV hG;have HNV:Hd (∀v∈o.bR,Kz v):=(hG o (ai HO.o)).2;obtain⟨hge,hgl⟩: -m<=o.id/\o.id<=100000:=by have h:=(hG o (ai HO.o)).1;rw[vM.o]at h;exact h
 clear hG;go_wp2_with fail;go_at_call 69;refine(Nq.o _).mono ?_;rintro e w6⟨rfl,rfl⟩;go_wp2_with fail;refine(mZ _ 1 1 _).mono ?_;rintro e w8⟨rfl,rfl⟩;have⟨W4,hW4⟩:=dd ((w6.alloc (xK #[xI 0,xI 0,"",()] 50)).alloc (xK #[xL (w6,0) 1 1] 39));have fh:=aV (show bC w6 W4 by rw[hW4];exact cU.alloc (by simp) _);have NT:=aV (show cX W4 [w6] (xK #[xL (w6,0) 1 1] 39)by rw[hW4];have:=az (w6.alloc (xK #[xI 0,xI 0,"",()] 50)) (xK #[xL (w6,0) 1 1] 39);simpa using this);have R8:=aV (show aS xF W4 (xL (w6,0) 1 1) [bE.mk 0 0 () []]by rw[hW4];exact(Qb w6).aT cU);rw[<-hW4];clear hW4 k0 k1 k2 k3 k4 k5 k6 k7 k8 k9 k10 cK;have qZ:=aV (jM.o.aT fh.o);go_wp2_with fail;refine I8 [bE.mk 0 0 () []] (λv hv=>by rw[aR.1 hv];exact⟨by decide,by decide,rfl⟩) xF [w6] W4 W4 eH _ R8.o NT.o rfl ?_;intro W5 iz hd5;have mu:=aV (qZ.o.mark iz hd5);have jF:=aV ((cR.o.trans (fh.o.mono cR.o.size)).trans (iz.mono (aH cR.o.size fh.o.size)));have od:Hd (ed W5 wq (ir o.bg o.id o.dz o.aX (xL va vn vc) o.CL.aX (xL da dn dc))):=(iz.block _ (by have:=(ab.1 mn.o).1;have:=fh.o.size;omega)).trans ((fh.o.block _ (ab.1 mn.o).1).trans mn.o);have k8:=(cQ od.o).c8;clear iz hd5;go_simp;go_wp2_with fail;refine(mZ va vn vc _).mono ?_;rintro e w8⟨rfl,rfl⟩;have⟨W6,hW6⟩:=dd (W5.alloc (xK #[xL va vn vc] 39));have ph:=aV (show bC W5 W6 by rw[hW6];exact cU);have HP6:=aV (show ed W6 W5 (xK #[xL va vn vc] 39)by rw[hW6];exact az W5 _);rw[<-hW6];clear hW6 k8;have TS:Hd (aS M W6 (xL va vn vc) o.bR):=XO.o.aT (jF.o.trans (ph.o.mono jF.o.size));have vL:=aV (mu.o.aT ph.o);go_wp2_with fail;refine I8 o.bR HNV.o M W5 W6 W6 eH _ TS.o HP6.o rfl ?_;intro W7 gw hd7;have Ae:=aV (vL.o.mark gw hd7);clear gw hd7;go_simp;go_wp2_with fail;refine Handed.intro (i-(j+1)) (by omega) ?_;go_step;exact⟨j+1,_,_,_,_,_,_,_,_,_,_,_,_,_,_,_,_,_,_,_,_,_,_,_,_,_,_,_,_,_,_,_,_,_,_,rfl,by omega,by go_num,aV (.inl HGG.o),rfl,Ae⟩
def Qe(p q r s:Addr)(w:bq):
 CallsD prog 24 #[.pointer (some p), .pointer (some q), .pointer (some r), .pointer (some s)] .returning w λe u' w'=>e=xR (.tuple #[])/\u'= .returning/\w'=w:=by
 refine callsD_of_wpS func24 rfl λTL cs hu=> ?_;apply wpS_seq;apply wpS_region;simp[wpOpsS,go_sem,recoverD,hu,ntmps24,Exit.thenS];apply wpS_seq;apply wpS_region;simp[wpOpsS,go_sem,Exit.thenS];refine wpS_cond (t:=false) (by simp[Act.eval,Array.replicate]) ?_;simp only[Bool.false_eq_true,if_false];refine wpS_of_wp (wp_skip ?_);cases TL;simp_all[bodyPostS,results,results24]
def MR(n:Int)(W:bq):(Instr.typeAssert (.iface 100 (.agg #[n])) 20 100 true).run prog W= .ok (.tuple #[.agg #[n],true]) W:=by kernel_rfl
def MS(K:Nat)(n:Int)(w:World)(h0:w.heap[K]? =some (eX 45 ()))(h1:w.heap[K+1]? =some (eX 46 ()))(h2:w.heap[K+2]? =some (eX 3 (xI 0)))(h3:w.heap[K+3]? =some (eX 42 (xI 0))):
 CallsD prog 24 #[xP K,xP (K+1),xP (K+2),xP (K+3)] (.panicking (yR n)) w λe u' w'=>e=xR (.tuple #[])/\u'= .panicking [{v:= .iface 100 (.agg #[n]),recovered:=true}]/\w'.heap[K]? =some (eX 45 ())/\w'.heap[K+1]? =some (eX 46 ())/\w'.heap[K+2]? =some (eX 3 (xI 0))/\w'.heap[K+3]? =some (eX 42 n)/\bh (λi=>i=K\/i=K+1\/i=K+2\/i=K+3) w w':=by
 refine callsD_of_wpS func24 rfl λTL cs hu=> ?_;unfold yR at hu;apply wpS_seq;apply wpS_region;simp[wpOpsS,go_sem,recoverD,hu,ntmps24,Exit.thenS];have c0:w.cell? (K,0)=some (xL none 0 0):=by unfold eX at h0;simp[World.cell?,h0]
 have c1:w.cell? (K+1,0)=some (xL none 0 0):=by unfold eX at h1;simp[World.cell?,h1]
 have c2:w.cell? (K+2,0)=some (xI 0):=by unfold eX at h2;simp[World.cell?,h2]
 have c3:w.cell? (K+3,0)=some (xI 0):=by unfold eX at h3;simp[World.cell?,h3]
 have f0:w.frozen? (K,0)=false:=by unfold eX at h0;exact aY h0 0
 have f1:w.frozen? (K+1,0)=false:=by unfold eX at h1;exact aY h1 0
 have f2:w.frozen? (K+2,0)=false:=by unfold eX at h2;exact aY h2 0
 have f3:w.frozen? (K+3,0)=false:=by unfold eX at h3;exact aY h3 0
 have hta:=MR n;refine wpS_of_wp ?_;simp only[Array.replicate_succ,Array.replicate_zero,List.push_toArray,List.append_toArray,List.nil_append,List.cons_append,List.setIfInBounds_toArray,List.set_cons_zero,List.set_cons_succ];have TB:=aV h0;clear h0;have HH1:=aV h1;clear h1;have HH2:=aV h2;clear h2;have HH3:=aV h3;clear h3;clear hu;go_upto_region 3 with fail;go_upto_region 5 with fail;have⟨W3,hW3⟩:=dd ((((w.setCell (K,0) ()).setCell (K+1,0) ()).setCell (K+2,0) (xI 0)).setCell (K+3,0) (xI 170));have rV:=aV (show bh (λi=>i=K\/i=K+1\/i=K+2\/i=K+3) w W3 by
  rw[hW3];exact((((bh.refl (λi=>i=K\/i=K+1\/i=K+2\/i=K+3) w).setCell (p:=⟨K,0,none⟩) (.inl (.inl rfl)) _).setCell (p:=⟨K+1,0,none⟩) (.inl (.inr (.inl rfl))) _).setCell (p:=⟨K+2,0,none⟩) (.inl (.inr (.inr (.inl rfl)))) _).setCell (p:=⟨K+3,0,none⟩) (.inl (.inr (.inr (.inr rfl)))) _);have one:∀(W:World)(i:Nat)(t:TypeId)(v u:Value),W.heap[i]? =some (eX t v)->(W.setCell (i,0) u).heap[i]? =some (eX t u):=λW i t v u h=>by
  have:=aA W i 0 _ _ u h;simpa [eX]using this
 have KW:∀(W:World)(i j:Nat)(u:Value),i≠j->(W.setCell (j,0) u).heap[i]? =W.heap[i]? :=λW i j u h=>aj _ _ _ _ (by simpa using h);have G0:=aV (show W3.heap[K]? =some (eX 45 ())by
  rw[hW3,KW _ K (K+3) _ (by omega),KW _ K (K+2) _ (by omega),KW _ K (K+1) _ (by omega)];exact one _ _ _ _ _ TB.o);have G1:=aV (show W3.heap[K+1]? =some (eX 46 ())by
  rw[hW3,KW _ (K+1) (K+3) _ (by omega),KW _ (K+1) (K+2) _ (by omega)];exact one _ _ _ _ _ ((KW _ _ _ _ (by omega)).trans HH1.o));have G2:=aV (show W3.heap[K+2]? =some (eX 3 (xI 0))by
  rw[hW3,KW _ (K+2) (K+3) _ (by omega)];exact one _ _ _ _ _ ((KW _ _ _ _ (by omega)).trans ((KW _ _ _ _ (by omega)).trans HH2.o)));have G3:=aV (show W3.heap[K+3]? =some (eX 42 (xI 170))by
  rw[hW3];exact one _ _ _ _ _ ((KW _ _ _ _ (by omega)).trans ((KW _ _ _ _ (by omega)).trans ((KW _ _ _ _ (by omega)).trans HH3.o))));have KU:=aV (show W3.heap.size=w by rw[hW3];simp[World.setCell]);have qp:Hd (K+3<w):=(ab.1 HH3.o).1;rw[<-hW3];clear hW3 c0 c1 c2 c3 f0 f1 f2 f3 hta;have⟨W4,hW4⟩:=dd (W3.alloc (xK #[n] 100));have fh:=aV (show bC W3 W4 by rw[hW4];exact cU);have e0:W4.cell? (w,0)=some (xI n):=by rw[hW4,<-KU.o];exact one_cell (az W3 _)
 rw[<-hW4];clear hW4;have g3:=(fh.o.block (K+3) (by have:=qp.o;have:=KU.o;omega)).trans G3.o;have c3:W4.cell? (K+3,0)=some (xI 170):=by have h:=g3;unfold eX at h;exact one_cell h
 have f3:W4.frozen? (K+3,0)=false:=by have h:=g3;unfold eX at h;exact aY h 0
 have Tv:=aV g3;have qe2:=aV one;have XV:=aV KW;clear g3 one KW;go_wp2_with fail;have hk:=qp.o;have hz:=KU.o;refine⟨rfl,_,rfl, .tuple #[],by simp[results,results24,go_sem],rfl,rfl,?_,?_,?_,qe2.o _ _ _ _ _ Tv.o,?_⟩
 .exact(XV.o _ _ _ _ (by omega)).trans ((fh.o.block _ (by omega)).trans G0.o)
 .exact(XV.o _ _ _ _ (by omega)).trans ((fh.o.block _ (by omega)).trans G1.o)
 .exact(XV.o _ _ _ _ (by omega)).trans ((fh.o.block _ (by omega)).trans G2.o)
 exact(rV.o.trans (bh.bA fh.o)).setCell (p:=⟨K+3,0,none⟩) (.inl (.inr (.inr (.inr rfl)))) _
def yW {fn:Func}{tmps:Array bt}{R:Ending->bq->Prop}{fv:Fn}{cap U2:Array bt}{n:Int}(h:Bx w [o0,eX 45 (),eX 46 (),eX 3 (xI 0),eX 42 (xI 0)] W)
 (hi:(invoke (.fn fv cap) U2).run prog W= .ok (.enter 24 #[xP [w],xP [w,w],xP [w,w,w],xP (w.heap.size+1+1+1+1)]) W)
 (hr:∀W':bq,W'.cell? ([w],0)=some (xL none 0 0)->W'.cell? ([w,w],0)=some (xL none 0 0)->W'.cell? ([w,w,w],0)=some (xI 0)->W'.cell? (w.heap.size+1+1+1+1,0)=some (xI n)->(results fn tmps).run prog W'= .ok (.tuple #[(),(),xI 0,n]) W')
 (hR:∀W',bC w W'->R (xR (.tuple #[(),(),xI 0,n])) W'):
 Leaves prog fn tmps R [{target:= .fn fv cap,args:=U2}] (.panicking (yR n)) W:=by
 refine leaves_cons (f:=24) (args:= #[xP [w],xP [w,w],xP [w,w,w],xP (w.heap.size+1+1+1+1)]) (by simp) hi ?_;refine(MS [w] n W (h.cZ rfl) (h.im rfl) (h.Au rfl) (h.X7 rfl)).mono ?_;rintro e u' w''⟨rfl,rfl,g0,g1,g2,g3,ho⟩;exact⟨_,hr w'' (one_cell g0) (one_cell g1) (one_cell g2) (one_cell g3),hR w'' (cr h.1 h.1.size ho (λi hi=>by omega))⟩
def nR {ops:Array Oper}{rest:List Oper}{op:Oper}{a:Act}{C:bq->Prop}{Q:Act->Prop}(hw:Region.wanted op (yielded ops a.tmps)=true)(x:Operand)(ho:op.op= .load 81 x)(b o:Nat)(hx:a.eval x= .pointer (b,o)){r:fC}{vv:bt}(h:∀w,C w->w.rangeAt b o (yN r vv fv))
 (hk:wpQuiet prog ops C Q rest (a.put op.dst (yJ r vv fv))):wpQuiet prog ops C Q (op::rest) a:=
 BigFrame.wpQuiet_want hw λK hK=>⟨yJ r vv fv,λw hc=>by
  unfold Oper.quietAt execOp;simp only[ho,hx,Instr.loadAt,Instr.sureAddr,Sem.run_bind,Sem.run_pure,Result.andThen_ok,run_loadVar_mid w b o 81 _ _ (h w hc) underlying81 rfl Fh];exact⟨rfl,rfl⟩,hK _ hk⟩
structure We(r:fC):Prop where
 dB:r.dB=0
 dz:r.dz=⟨⟨#[]⟩,[]⟩
 qm:r.qm=V6
 flat:∀y∈r.j9.bR,yQ y
 few:r.j9.bR.length<=20
def Ng(r:fC)(h:We r)(M:bY)(w:bq)(v u a b:bt)(hs:aS M w v r.j9.bR)(hu:aS M w u r.j9.bR)(ha:aS M w a r.dz.aW)(hb:aS M w b r.dz.aW):
 xC 45 #[yJ r v a,yJ r u b] w (di true w):=by
 obtain⟨k,o,id,dB,nm,dz,qm⟩:=r;obtain⟨h1,h2,h3,h4,h5⟩:=h;dsimp only at*;subst h1 h2 h3;obtain⟨aa,ac,rfl,-⟩:=ha.bj;obtain⟨ba,bc,rfl,-⟩:=hb.bj;exact Nf k o id nm h4 h5 M w v u aa ba ac bc hs hu
def FI(l:List fC)(hz:∀r∈l,We r)(M:bY)(w:bq)(v u:bt)(hs:aS M w v l)(hu:aS M w u l):
 xC 14 #[v,u] w (di "" w):=by
 have HV:Hd (∀i r,l[i]? =some r->_):=λi r hr=>Ct hs hr;have HU:Hd (∀i r,l[i]? =some r->_):=λi r hr=>Ct hu hr;have HZ:=aV hz;obtain⟨a,cY,rfl,dN,hmx,_⟩:=hs.bj;obtain⟨ua,qfn,rfl,-⟩:=hu.bj;generalize hn:l.length=n at*;have HN:=aV hn;delta xC;go_in;go_wp2;go_loopg [4,5]n(λg r4 iv wr=>∃i:Nat,i<=n/\g=n-i/\iv=xI i/\r4= ""/\Hd (bC w wr));exact⟨0,ax _,rfl,rfl,rfl,aV eH⟩;obtain⟨i,hi,rfl,rfl,rfl,HB⟩:=hrel;rename World=>wr;by_cases cE:i<n
 .have⟨r,hr⟩:=fg l i (by rw[HN.o];exact cE);have⟨b,off,cap,vv,fv,hv,h1,h2,hrg⟩:=HV.o i r hr;obtain⟨rfl,rfl⟩:=jk hv;have⟨b2,off2,cap2,vv2,fv2,hv2,g1,g2,hrg2⟩:=HU.o i r hr;obtain⟨rfl,rfl⟩:=jk hv2;have nU:Hd (∀V,bC wr V->V.rangeAt b (off+i*18) (yN r vv fv)):=λV hb=>hrg V (HB.o.trans (hb.mono HB.o.size));have vZ:Hd (∀V,bC wr V->V.rangeAt b2 (off2+i*18) (yN r vv2 fv2)):=λV hb=>hrg2 V (HB.o.trans (hb.mono HB.o.size));have BE:Hd (∀V,bC wr V->_):=λV hb=>Ng r (HZ.o r (ai hr)) M V vv vv2 fv fv2 (h1.aT (HB.o.trans (hb.mono HB.o.size))) (g1.aT (HB.o.trans (hb.mono HB.o.size))) (h2.aT (HB.o.trans (hb.mono HB.o.size))) (g2.aT (HB.o.trans (hb.mono HB.o.size)));have i0:(0:Int)<=(i:Int):=an _;have i1:(i:Int)<(n:Int):=by omega
  go_upto_region 6 with fail;go_cut [26](λs25 wx=>s25=xB false/\Hd (bC w wx))
  .refine jf (by kernel_rfl) (by kernel_rfl) λι _ F jr vO=> ?_;have iY:=aV jr;have uR:=aV vO;iterate 3(go_big_quiet_step(fail))
   refine nR rfl (.tmp 19) rfl b (off+i*18) rfl (λw'⟨n,e⟩=>e▸nU.o _ (iY.o n)) ?_;simp only[Act.put,List.setIfInBounds_toArray,List.set_cons_zero,List.set_cons_succ];iterate 3(go_big_quiet_step(fail))
   refine nR rfl (.tmp 23) rfl b2 (off2+i*18) rfl (λw'⟨n,e⟩=>e▸vZ.o _ (iY.o n)) ?_;simp only[Act.put,List.setIfInBounds_toArray,List.set_cons_zero,List.set_cons_succ];repeat(go_big_quiet_step((go_at_call 45;refine dx (BE.o _ (iY.o _)) λw3 hb3=> ?_;exact⟨rfl,uR.o _ ((iY.o _).trans (hb3.mono (iY.o _).size))⟩)))
   refine wpQuiet_nil ?_;rintro _⟨nq,rfl⟩;go_wp2;go_meet;exact⟨rfl,aV (HB.o.trans ((iY.o _).mono HB.o.size))⟩
  obtain⟨rfl,cR⟩:=hcut;go_wp2;go_roundg(n-(i+1));exact⟨i+1,by omega,rfl,by go_num,rfl,cR⟩;omega
 obtain rfl:i=n:=by omega
 go_wp2;go_ret;exact⟨rfl,HB.o⟩
end
end Go.Proofs.YtpjdjlnknfmfkaaGreatDoor
