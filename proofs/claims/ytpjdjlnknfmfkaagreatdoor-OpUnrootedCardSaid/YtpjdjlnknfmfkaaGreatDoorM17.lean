/- A part; no condition. -/
import Derived.Test.YtpjdjlnknfmfkaaGreatDoorM14
import Derived.Shelf.SlIterI.Nil
import Derived.Shelf.SortM.Plain
import Derived.Shelf.SortM.SortNone
set_option linter.all false
set_option maxHeartbeats 8000000
set_option maxRecDepth 100000
namespace Go.Proofs.YtpjdjlnknfmfkaaGreatDoor
open Go.Proofs.Tryz
variable{S:List Int}{b k i:Nat}{w W:bq}{o1:Obj}{v2:bt}{s:bS}
section
open Go.RowKit Go.Maps Go.Sort Go.Shelf
def Fs {ss:List Int}(hp:ss.Perm S)(hn:S.Nodup):Mk.PB (ss.mergeSort (λx y=>decide (x<=y)))/\∀x,x∈ss.mergeSort (λx y=>decide (x<=y))↔x∈S:=by
 have tr:∀a b c:Int,(decide (a<=b))=true->(decide (b<=c))=true->(decide (a<=c))=true:=λa b c h1 h2=>by simp only[decide_eq_true_eq]at*;exact Int.le_trans h1 h2
 have tot:∀a b:Int,(decide (a<=b)||decide (b<=a))=true:=λa b=>by simp only[Bool.or_eq_true,decide_eq_true_eq];exact Int.le_total a b
 have h1:=List.pairwise_mergeSort (le:=λx y:Int=>decide (x<=y)) tr tot ss;have h2:=(List.mergeSort_perm ss (λx y=>decide (x<=y))).trans hp;have h3:(ss.mergeSort (λx y=>decide (x<=y))).Nodup:=h2.nodup_iff.2 hn;refine⟨?_,λx=>h2.mem_iff⟩;refine(List.Pairwise.and h1 h3).imp ?_;intro a b⟨hab,hne⟩;simp only[decide_eq_true_eq]at hab;have:a≠b:=hne;omega
def Qf(h:Mk.eY w b S)(hS:∀x∈S,1<=x/\x<=100000)(hl:S.length<=maxLen):
 ∃D0:DataW Unit,w.ownsMap prog 3 (plainElem prog 4) b S.length D0/\(intKeys D0).Perm S/\Maps.size D0=S.length:=by
 obtain⟨es,clk,⟨hb,h1,h2,h3⟩,rfl⟩:=h;have hrd:∀p∈es,Go.WideElems.rd (H:=Unit) prog 3 (plainElem prog 4) (Mk.tR p)=some (.int .i64 p.1, .lit (.bool true)):=λp hp=>by
  have hb:=hS p.1 (List.mem_map_of_mem hp);have hw:(Lit.int .i64 p.1).wf=true:=by
   simp only[Lit.wf,aF,decide_eq_true_eq];have e1:IntKind.i64.min= -9223372036854775808:=by decide
   have e2:IntKind.i64.max=9223372036854775807:=by decide
   rw[e1,e2];omega
  exact Go.WideElems.rd_mk (keyOf_int_mk underlying3 hw) (plainElem_bool underlying4 true)
 have TF:(es.map Mk.tR).map (Go.WideElems.rg (H:=Unit) prog 3 (plainElem prog 4))=es.map (λp=>(Lit.int .i64 p.1,DataW.lit (.bool true))):=by
  rw[List.map_map];exact List.map_congr_left λp hp=>Go.WideElems.rg_of (hrd p hp)
 have hk:(es.map Mk.tR).map (·.key)=es.map (λp=>Value.int .i64 p.1):=by rw[List.map_map];rfl
 have wI:(es.map Mk.tR).map (·.born)=es.map (·.2):=by rw[List.map_map];rfl
 refine⟨_,⟨(es.map Mk.tR).toArray,clk,hb,⟨by simpa using hl,⟨?_,?_,?_⟩,?_⟩,by simp,rfl⟩,?_,?_⟩
 .intro x hx;obtain⟨p,hp,rfl⟩:=aQ.1 (show x∈es.map Mk.tR from by simpa using hx);exact h3 p hp
 .show((es.map Mk.tR).map (·.born)).Nodup;rw[wI];exact h2
 .show((es.map Mk.tR).map (·.key)).Nodup;rw[hk];have:es.map (λp=>Value.int .i64 p.1)=(es.map (·.1)).map (λx=>Value.int .i64 x):=by rw[List.map_map];rfl
  rw[this];exact List.Pairwise.map _ (λa b hab e=>hab (by simpa using e)) h1
 .intro x hx;obtain⟨p,hp,rfl⟩:=aQ.1 (show x∈es.map Mk.tR from by simpa using hx);exact⟨_,hrd p hp⟩
 .show(((((es.map Mk.tR).map _).foldr DataW.insert [])).map λp=>Go.intOf p.1).Perm _;refine((Go.WideShapes.sorted_perm _).map _).trans ?_;rw[TF,List.map_map];exact List.Perm.of_eq rfl
 rw[Maps.size_eq];have:=(Go.WideShapes.sorted_perm ((es.map Mk.tR).map (Go.WideElems.rg (H:=Unit) prog 3 (plainElem prog 4)))).length_eq;simpa using this
def Bn:Go.Shelf.Ren:=⟨λ|7=>39|10=>101|n=>n,λ|23=>96|26=>3|3=>4|28=>128|0=>0|27=>127|33=>142|4=>4|n=>n,λ|n=>n⟩
def Uj:Go.Proofs.SlLaysZI.n7 prog Bn:={
 mixed:=by kernel_rfl
 f7:=⟨Tryz.f39.name,by decide,Tryz.func39.trans (by kernel_rfl)⟩
 f10:=⟨Tryz.f101.name,by decide,Tryz.func101.trans (by kernel_rfl)⟩
 t0:=underlying0
 a0:=isAgg0
 z0:=sizeOf0
 v0:=zeroValue0
 t4:=underlying4
 a4:=isAgg4
 z4:=sizeOf4
 v4:=zeroValue4
 t23:=underlying96
 a23:=isAgg96
 z23:=sizeOf96
 v23:=zeroValue96
 t26:=underlying3
 a26:=isAgg3
 z26:=sizeOf3
 v26:=zeroValue3
 t27:=underlying127
 a27:=isAgg127
 z27:=sizeOf127
 v27:=zeroValue127
 t28:=underlying128
 a28:=isAgg128
 z28:=sizeOf128
 v28:=zeroValue128
 t33:=underlying142
 a33:=isAgg142
 z33:=sizeOf142
 v33:=zeroValue142}
def vH:Go.Shelf.Ren:=⟨λ|6=>38|8=>99|9=>100|11=>177|13=>164|12=>178|23=>225|24=>226|14=>249|15=>250|16=>251|17=>252|18=>253|19=>254|20=>255|21=>256|22=>257|25=>292|26=>280|27=>281|28=>293|29=>294|30=>165|31=>339|n=>n,λ|26=>3|28=>128|24=>65|0=>0|3=>3|37=>248|48=>305|50=>307|4=>4|40=>299|39=>298|45=>63|5=>5|9=>9|51=>359|55=>363|57=>404|58=>405|33=>142|n=>n,λ|n=>n⟩
def S8:Go.Proofs.SlLaysZI.n6 prog vH:={
 mixed:=by kernel_rfl
 f6:=⟨Tryz.f38.name,by decide,Tryz.func38.trans (by kernel_rfl)⟩
 f8:=⟨Tryz.f99.name,by decide,Tryz.func99.trans (by kernel_rfl)⟩
 f11:=⟨Tryz.f177.name,by decide,Tryz.func177.trans (by kernel_rfl)⟩
 t0:=underlying0
 a0:=isAgg0
 z0:=sizeOf0
 v0:=zeroValue0
 t24:=underlying65
 a24:=isAgg65
 z24:=sizeOf65
 v24:=zeroValue65
 t26:=underlying3
 a26:=isAgg3
 z26:=sizeOf3
 v26:=zeroValue3
 t28:=underlying128
 a28:=isAgg128
 z28:=sizeOf128
 v28:=zeroValue128
 i26:=by kernel_rfl}
def MT:Go.Shelf.Ren:=⟨λ|5=>100|8=>164|7=>178|19=>225|20=>226|10=>249|11=>250|12=>251|13=>252|14=>253|15=>254|16=>255|17=>256|18=>257|30=>292|31=>280|32=>281|33=>293|34=>294|35=>165|40=>339|n=>n,λ|23=>65|25=>3|3=>3|32=>248|22=>65|0=>0|44=>305|46=>307|4=>4|36=>299|35=>298|41=>63|5=>5|9=>9|53=>359|57=>363|63=>404|64=>405|n=>n,λ|n=>n⟩
def Uk:Go.Proofs.SlLaysM.n5 prog MT:={
 mixed:=by kernel_rfl
 f5:=⟨Tryz.f100.name,by decide,Tryz.func100.trans (by kernel_rfl)⟩
 f7:=⟨Tryz.f178.name,by decide,Tryz.func178.trans (by kernel_rfl)⟩
 f8:=Tryz.func164.trans (by kernel_rfl)
 f10:=⟨Tryz.f249.name,by decide,Tryz.func249.trans (by kernel_rfl)⟩
 f11:=⟨Tryz.f250.name,by decide,Tryz.func250.trans (by kernel_rfl)⟩
 f12:=⟨Tryz.f251.name,by decide,Tryz.func251.trans (by kernel_rfl)⟩
 f13:=⟨Tryz.f252.name,by decide,Tryz.func252.trans (by kernel_rfl)⟩
 f14:=⟨Tryz.f253.name,by decide,Tryz.func253.trans (by kernel_rfl)⟩
 f15:=⟨Tryz.f254.name,by decide,Tryz.func254.trans (by kernel_rfl)⟩
 f16:=⟨Tryz.f255.name,by decide,Tryz.func255.trans (by kernel_rfl)⟩
 f17:=⟨Tryz.f256.name,by decide,Tryz.func256.trans (by kernel_rfl)⟩
 f18:=⟨Tryz.f257.name,by decide,Tryz.func257.trans (by kernel_rfl)⟩
 f19:=Tryz.func225.trans (by kernel_rfl)
 f20:=Tryz.func226.trans (by kernel_rfl)
 f30:=⟨Tryz.f292.name,by decide,Tryz.func292.trans (by kernel_rfl)⟩
 f31:=Tryz.func280.trans (by kernel_rfl)
 f32:=Tryz.func281.trans (by kernel_rfl)
 f33:=⟨Tryz.f293.name,by decide,Tryz.func293.trans (by kernel_rfl)⟩
 f34:=⟨Tryz.f294.name,by decide,Tryz.func294.trans (by kernel_rfl)⟩
 f35:=⟨Tryz.f165.name,by decide,Tryz.func165.trans (by kernel_rfl)⟩
 f40:=⟨Tryz.f339.name,by decide,Tryz.func339.trans (by kernel_rfl)⟩
 t0:=underlying0
 a0:=isAgg0
 z0:=sizeOf0
 v0:=zeroValue0
 t3:=underlying3
 a3:=isAgg3
 z3:=sizeOf3
 v3:=zeroValue3
 t4:=underlying4
 a4:=isAgg4
 z4:=sizeOf4
 v4:=zeroValue4
 t5:=underlying5
 a5:=isAgg5
 z5:=sizeOf5
 v5:=zeroValue5
 t9:=underlying9
 a9:=isAgg9
 z9:=sizeOf9
 v9:=zeroValue9
 t22:=underlying65
 a22:=isAgg65
 z22:=sizeOf65
 v22:=zeroValue65
 t23:=underlying65
 a23:=isAgg65
 z23:=sizeOf65
 v23:=zeroValue65
 t25:=underlying3
 a25:=isAgg3
 z25:=sizeOf3
 v25:=zeroValue3
 t32:=underlying248
 a32:=isAgg248
 z32:=sizeOf248
 v32:=zeroValue248
 t35:=underlying298
 a35:=isAgg298
 z35:=sizeOf298
 v35:=zeroValue298
 t36:=underlying299
 a36:=isAgg299
 z36:=sizeOf299
 v36:=zeroValue299
 t41:=underlying63
 a41:=isAgg63
 z41:=sizeOf63
 v41:=zeroValue63
 t44:=underlying305
 a44:=isAgg305
 z44:=sizeOf305
 v44:=zeroValue305
 t46:=underlying307
 a46:=isAgg307
 z46:=sizeOf307
 v46:=zeroValue307
 t53:=underlying359
 a53:=isAgg359
 z53:=sizeOf359
 v53:=zeroValue359
 t57:=underlying363
 a57:=isAgg363
 z57:=sizeOf363
 v57:=zeroValue363
 t63:=underlying404
 a63:=isAgg404
 z63:=sizeOf404
 v63:=zeroValue404
 t64:=underlying405
 a64:=isAgg405
 z64:=sizeOf405
 v64:=zeroValue405}
def V8(m:Nat):AnyZI.SortsIn prog vH Fence.wide m:=
 ⟨λblk off cap ss W hH hblk hsz=>callsIn_wide.2 (AnyM.slices_Sort_int Uk blk off cap ss W hH hblk hsz),
  λp cap W=>callsIn_wide.2 (AnyM.slices_Sort_int_none Uk p cap W)⟩
def I9(mb:Option Nat)(W:bq):xC 39 #[.map mb] W λe w'=>e=xR (.func (.func 101) #[] #[xP W.heap.size])/\w'=W.alloc (xK #[.map mb] 96):=
 callsIn_wide.1 (AnyZI.keys_in Uj Fence.wide 5 trivial rfl mb W)
def CE(W:bq)(sb:Nat)(S:List Int)(h:Mk.eY W sb S)(hS:∀x∈S,1<=x/\x<=100000)(hl:S.length<=1000):
 xC 38 #[.func (.func 101) #[] #[xP W.heap.size]] (W.alloc (xK #[.map (some sb)] 96)) λe w'=>∃(v:bt)(L:List Int),e=xR v/\aS (α:=Int) xF w' v L/\Mk.PB L/\(∀n,n∈L↔n∈S)/\bC W w':=by
 have Tt:=h.nodup;have hbl:=h.lt;have⟨D0,hown,hper,hsz⟩:=Qf h hS (by unfold maxLen;omega);have Ra:SeqGives Fence.wide 2 prog 101 #[xP W.heap.size] encZ (λss=>ss.Perm (intKeys D0)) (Maps.size D0) (W.alloc (xK #[.map (some sb)] 96)):=
  AnyZI.keys_gives (ρ:=Bn) {Uj with} Fence.wide _ trivial rfl (by omega) W sb S.length D0 _ (by simp) (by simp) (by
   obtain⟨es,clock,hb,Ft,hs,hD⟩:=hown;exact⟨es,clock,(aB _ _ sb hbl).trans hb,Ft,hs,hD⟩);have cS:=AnyZI.sorted_in S8 Fence.wide 5 trivial trivial trivial trivial rfl (by omega) (V8 _) (by first|exact enters_of func100 (by kernel_rfl) rfl|exact enters_of func177 (by kernel_rfl) rfl) 101 #[xP W.heap.size] trivial (enters_of func101 (by kernel_rfl) rfl) _ _ (by rw[hsz];unfold maxLen;omega) (by rw[hsz];omega) _ Ra;change CallsIn _ _ prog 38 _ _ _ at cS;refine(callsIn_wide.1 cS).mono ?_;rintro e w'⟨v,ss,rfl,hp,Ag,_,hb⟩;have⟨hr1,hr2⟩:=Fs (hp.trans hper) Tt;refine⟨v,ss.mergeSort (λx y=>decide (x<=y)),rfl,?_,hr1,hr2,cU.trans (hb.mono (by simp))⟩;have fl:∀l:List Int,(l.map (λx=>[Value.int .i64 x])).flatten=l.map encZ:=λl=>by
  induction l with
  |nil=>rfl
  |cons a r ih=>simp only[List.map_cons,List.flatten_cons,ih];rfl
 refine⟨(ss.mergeSort (λx y=>decide (x<=y))).map (λx=>[Value.int .i64 x]),?_,by simp,λi cs x hcs hx=> ?_⟩
 .rw[fl,List.length_mergeSort];exact(du.BJ Ag).mono λj hj _ Wj=>Wj
 rw[List.getElem?_map,hx]at hcs;simp at hcs;exact hcs.symm
def Bq(x:bU)(w:bq)(lv ov rv:bt)(h:fL x)(hG:Gd w)(iH:aS xF w lv x.bH)(hov:aS xF w ov x.bN)(ib:aS xF w rv x.bB):
 xG 11 #[.agg #[lv,ov,rv,x.next]] w λu w'=>∃(L:List Int)(wv:bt),u= .tuple #[wv,xI 0]/\aS (α:=Int) xF w' wv L/\Mk.PB L/\∀n,n∈L↔Mk.wD (cV x) (dT x) n:=by
 have qM:∀W,Bd xF W:=λW i hi=>hi.elim;have U4:=ie (w:=w) (λW hb=>oP x h xF W (qM W) (hG.aT hb) lv ov rv (iH.aT hb) (hov.aT hb) (ib.aT hb));have zj:Hd (∀W lt pm,bC w W->Cl x xF W lt pm->_):=λW lt pm hb hg=>uK x h xF W (qM W) (hG.tb.aT hb) lt rv pm hg (ib.aT hb);have zY:Hd (∀S:List Int,(∀n,n∈S↔Mk.wD (cV x) (dT x) n)->∀W sb,Mk.eY W sb S->_):=λS hS W sb hs=>CE W sb S hs (λy hy=>by
  obtain⟨o,ho,rfl⟩:=aQ.1 (h.closed.Ud ((hS y).1 hy));have⟨i,hi⟩:=aP ho;have⟨h1,h2,_⟩:=h.bN i o hi;have:=h.next;omega) (by
  have h1:=je (dV x.bN) S hs.nodup (λy hy=>h.closed.Ud ((hS y).1 hy));unfold dV at h1;rw[aL]at h1;have:=h.len;omega);obtain⟨la,lc,rfl,_⟩:=iH.bj;obtain⟨oa,oc,rfl,_⟩:=hov.bj;obtain⟨ra,rc,rfl,_⟩:=ib.bj;have⟨c0,c1,c2,c3⟩:=aU ((Bx.fm w (dI (xL la x.bH.length lc) (xL oa x.bN.length oc) (xL ra x.bB.length rc) x.next)).cP rfl);have ik:=aV (Bx.fm w (dI (xL la x.bH.length lc) (xL oa x.bN.length oc) (xL ra x.bB.length rc) x.next));delta xG;go_in;go_wp2_with fail;refine(U4.o _ ik.o.1).mono ?_;rintro e w1⟨_,rfl,⟨lt,pm,rfl,hg⟩,hb1⟩;have cE:∃ta tc,lt=xL ta x.bN.length tc:=by
  obtain⟨⟨ls,tP,hlen,_⟩,_⟩:=hg;have⟨ta,tc,e,_⟩:=tP.bj;rw[hlen]at e;exact⟨ta,tc,e⟩
 obtain⟨ta,tc,rfl⟩:=cE;have cu:=aV (ik.o.aT hb1);have C4:=aV hg;have bZ:=aV (cu.o.alloc (jZ (xL ta x.bN.length tc) pm));have⟨c0,c1,c2,c3⟩:=aU (bZ.o.cP rfl);have⟨d0,d1⟩:=aZ (az w1 (jZ (xL ta x.bN.length tc) pm));unfold jZ at c0 c1 c2 c3 d0 d1;go_wp2_with fail;refine(zj.o _ _ _ bZ.o.1 (C4.o.aT cU)).mono ?_;rintro e w3⟨S,sb,rfl,hset,hmem,hb3⟩;have cR:=aV (bZ.o.aT hb3);have mC:=aV (zY.o S hmem w3 sb hset);have HME:=aV hmem;go_wp2_with fail;refine(I9 _ _).mono ?_;rintro e w4⟨rfl,rfl⟩;go_wp2_with fail;refine(mC.o).mono ?_;rintro e w5⟨v,L,rfl,hs,TD,hm,iz⟩;have hs':=hs;obtain⟨va,vc,rfl,_⟩:=hs'.bj;have H5:Hd (aS (α:=Int) xF w5 (xL va L.length vc) L/\Mk.PB L/\(∀n,n∈L↔n∈S)/\bC w w5):=⟨hs,TD,hm,(cR.o.aT iz).1⟩;go_wp2;go_ret2;exact⟨_,rfl,⟨L,_,rfl,H5.o.1,H5.o.2.1,λn=>(H5.o.2.2.1 n).trans (HME.o n)⟩,H5.o.2.2.2⟩
end
section
open Go.RowKit Go.Shelf
def Bu(x:bU)(M:bY)(w:bq)(lv ov rv:bt)(rI:lv.oneCell'=true)(hoo:ov.oneCell'=true)(aX:bS)(ib:aS M w rv x.bB):
 xC 10 #[.agg #[lv,ov,rv,x.next],aX] w λe w'=>(∃(n:Int)(b:Bool),e=xR (.tuple #[n,b])/\(b=true->∃r∈x.bB,r.aX=aX/\n=r.id)/\(b=false->∀r∈x.bB,r.aX≠aX))/\bC w w':=by
 have HR:Hd (∀i r,x.bB[i]? =some r->_):=λi r hr=>fU ib hr;obtain⟨ra,rc,rfl,QS,Q7,_⟩:=ib.bj;have⟨m,hmr⟩:=js (x.bB.length);have BI:=aV hmr;rw[hmr]at QS⊢;clear ib hmr;delta xC;go_in;go_wp2;go_loopg [4,5,7,11]m(λg r4 r5 _ iv wr=>∃j:Nat,j<=m/\g=m-j/\iv=xI j/\r4=xI 0/\r5=xB false/\Hd (Bx w [xK #[lv,ov,xL ra m rc,x.next] 34] wr)/\Hd (∀r∈x.bB.take j,r.aX≠aX));exact⟨0,ax _,rfl,rfl,rfl,rfl,(Bx.fm w _),aV λr hr=>by simp at hr⟩;obtain⟨j,hj,rfl,rfl,rfl,rfl,HB,HN⟩:=hrel;by_cases cE:j<m
 .have⟨r,hr⟩:=fg x.bB j (by rw[BI.o];exact cE);have⟨b,off,cap,hv,hbl,_,hcells⟩:=HR.o j r hr;obtain⟨rfl,rfl⟩:=jk hv;have⟨g0,g1⟩:=hcells _ HB.o.1;have HME:=aV (ai hr);have rX:Hd (r.aX≠aX->∀q∈x.bB.take (j+1),q.aX≠aX):=λhne q hq=>by
   rw[ao,hr]at hq;rcases aI.1 hq with hq|hq
   .exact HN.o q hq
   simp at hq;rw[hq];exact hne
  clear hv hcells hr;by_cases hq:(r.aX.toList==aX.toList)=true
  .have HQ:=aV (rM (show dh r.aX aX=true from hq));go_wp2;go_ret2;exact⟨⟨_,true,rfl,λ_=>⟨r,HME.o,HQ.o,rfl⟩,λh=>by cases h⟩,(HB.o.alloc _).1⟩
  have HQ:Hd (r.aX≠aX):=λe=>hq (by rw[e];simp);go_wp2;go_roundg(m-(j+1));exact⟨j+1,by omega,rfl,by go_num,rfl,rfl,aV (HB.o.alloc _),aV (rX.o HQ.o)⟩;omega
 have HA:=HN.o;rw[ak (by rw[BI.o];omega)]at HA;have HA:=aV HA;go_wp2;go_ret2;exact⟨⟨0,false,rfl,λh=>(by cases h),λ_=>HA.o⟩,HB.o.1⟩
def Jf:(Tryz.prog.info? 37).map (λi=>(i.zero,i.size,i.bytes))=some (some (.agg #["",xI 0]),2,24):=by kernel_rfl
def tK(M:bY)(w:bq)(v:bt)(l:List bT)(h:aS M w v l)(hl:l.length<=500):
 xG 102 #[v] w λv w'=>bP M w 37 w' v l:=by
 have⟨i0,hi0,hz0,hz1,hz2⟩:=info_parts Jf;have HS:=aV h;obtain⟨a,c,rfl,dN,hmx,ho⟩:=h.bj;have HE:Hd (bP (α:=bT) M w 37 (w.alloc (xK #[] 37)) (xL (w,0) 0 0) []):=bP.made M #[] 0 cN (by unfold maxLen;omega) rfl;have q89:∀(w:bq)(a:fM)(n c n' c':Nat),(binOp .eql 32 (.slice a n c) (.slice none n' c')).run prog w= .ok (.bool a.isNone) w:=λw a n c n' c'=>Lib.run_eql_slice_nil w _ _ a n c n' c' underlying32;have⟨n,hn⟩:=js (l.length);have HO:Hd (a=none->l=[]):=λha=>by
  by_cases hp:0<l.length
  .have⟨b,off,h1,_⟩:=ho hp;rw[ha]at h1;cases h1
  exact List.length_eq_zero_iff.1 (by omega)
 rw[hn]at hl dN⊢;have iy:=aV (show aS M w (xL a n c) l by rw[<-hn];exact HS.o);have HN:=aV hn;clear hn;clear h ho;cases a with
 |none=>
  obtain rfl:=HO.o rfl;go_enter func102,ntmps102;go_wp2;go_ret;exact⟨_,rfl,bP.nil _ _ _ _,eH⟩
 |some adr=>
 go_enter func102,ntmps102;go_wp2_with(at_builtin;go_loud(refine dM (α:=bT) rfl _ _ _ rfl M w 37 i0 _ 24 underlying32 hi0 hz0 hz1 hz2 rfl (by decide) (.slice (w,0) 0 0) [] rfl HE.o (.slice (some adr) n c) l rfl (iy.o.ev (tg HE.o rfl cU)) (by rw[HN.o];simp;unfold maxLen;omega) (by rw[HN.o];simp;omega) (by simp) ?_);rw[HN.o];simp only[aD,Nat.zero_add,List.nil_append];intro a2 c2 w2 cF eD cJ;have dR:=aV cF;have cR:Hd (bC w w2):=cU.trans cJ;clear cF eD cJ);go_ret;exact⟨_,rfl,dR.o,cR.o⟩
structure Jg(x:bU)(S:List Int)(n:Nat)(ls:List cm):Prop where
 from_:∀o'∈ls,∃(i:Nat)(o0:cm),x.bN[i]? =some o0/\o0.id∈S/\o'.id=o0.id/\o'.dz=o0.dz
 all:∀(i:Nat)(o0:cm),i<n->x.bN[i]? =some o0->o0.id∈S->∃o'∈ls,o'.id=o0.id/\o'.dz=o0.dz
 len:ls.length<=n
def Jg.zero(x:bU)(S:List Int):Jg x S 0 []:=⟨λo ho=>(by cases ho),λi o0 hi=>by omega,cN⟩
def Jg.skip {x:bU}{S:List Int}{n:Nat}{ls:List cm}(h:Jg x S n ls){o0:cm}(h0:x.bN[n]? =some o0)(hn:o0.id∉S):Jg x S (n+1) ls:=
 ⟨h.from_,λi o1 hi h1 hS=>by
   by_cases e:i=n
   .subst e;rw[h0]at h1;cases h1;exact absurd hS hn
   exact h.all i o1 (by omega) h1 hS,Nat.le_succ_of_le h.len⟩
def Jg.more {x:bU}{S:List Int}{n:Nat}{ls:List cm}(h:Jg x S n ls){o0:cm}(h0:x.bN[n]? =some o0)(hn:o0.id∈S){o':cm}(h1:o'.id=o0.id)(h2:o'.dz=o0.dz):Jg x S (n+1) (ls++[o']):=
 ⟨λo ho=>by
   rcases aI.1 ho with ho|ho
   .exact h.from_ o ho
   rw[aR.1 ho];exact⟨n,o0,h0,hn,h1,h2⟩,
  λi o1 hi g1 hS=>by
   by_cases e:i=n
   .subst e;rw[h0]at g1;cases g1;exact⟨o',by simp,h1,h2⟩
   have⟨o2,k1,k2⟩:=h.all i o1 (by omega) g1 hS;exact⟨o2,List.mem_append_left _ k1,k2⟩,by have:=h.len;simp;omega⟩
def Ul(x:bU)(M:bY)(u:bt)(w':bq):Prop:=∃(S:List Int)(ls:List cm)(lv ov rv:bt),u= .tuple #[.agg #[lv,ov,rv,x.next],xI 0]/\(∀n,n∈S↔Mk.wD (cV x) (dT x) n)/\Jg x S x.bN.length ls/\aS M w' lv x.bH/\aS M w' ov ls/\aS M w' rv x.bB
structure uL(x:bU)(S:List Int)(N:bY)(W7:bq)(K:Nat)(lv rv:bt)(i:Nat)(v:bt)(os:List cm)(wr:bq):Prop where
 only:bh (λk=>k=K) W7 wr
 blk:wr.heap[K]? =some (xK #[lv,v,rv,x.next] 34)
 acc:bP (orM N K) W7 41 wr v os
 live:Jg x S i os
 len:os.length<=i
section
variable {x:bU}{S:List Int}{N:bY}{W7 wr w':bq}{K i:Nat}{lv rv v:bt}{os:List cm}
def uL.aT(h:uL x S N W7 K lv rv i v os wr)(hb:bC wr w'):uL x S N W7 K lv rv i v os w':=
 ⟨h.only.trans (bh.bA hb),(hb.block _ (ab.1 h.blk).1).trans h.blk,h.acc.aT hb,h.live,h.len⟩
def uL.more(h:uL x S N W7 K lv rv i v os wr){o0:cm}(h0:x.bN[i]? =some o0)(hn:o0.id∉S):uL x S N W7 K lv rv (i+1) v os wr:=⟨h.only,h.blk,h.acc,h.live.skip h0 hn,Nat.le_succ_of_le h.len⟩
end
def uL.next {x:bU}{S:List Int}{N:bY}{W7 w5 w6:bq}{K i:Nat}{lv rv v:bt}{os:List cm}{o':cm}(h:uL x S N W7 K lv rv i v os w5)(hK:K<W7)(hb:Below W7 (w5.alloc o1) w6)(ha:bP (orM N K) W7 41 w6 v2 (os++[o'])){o0:cm}(h0:x.bN[i]? =some o0)(hn:o0.id∈S)(g1:o'.id=o0.id)(g2:o'.dz=o0.dz):
 uL x S N W7 K lv rv (i+1) v2 (os++[o']) (w6.setCell (K,1) v2):=by
 have hz:=h.only.size;have h1:cX w6 K (xK #[lv,v,rv,x.next] 34):=(hb.block K (by omega)).trans ((aB w5 o1 K (by omega)).trans h.blk);refine⟨?_,aA w6 K 1 _ _ v2 h1,ha.ue (p:=⟨K,1,none⟩) (.inr rfl) hK v2,h.live.more h0 hn g1 g2,by have:=h.len;simp;omega⟩;have h2:bh (λk=>k=K) W7 w6:=⟨hb.os.trans h.only.os,hb.tape.trans h.only.tape,hb.output.trans h.only.output,aH hz (aH (by simp) hb.size),λk hk hn=>(hb.block k hk).trans ((aB w5 o1 k (by omega)).trans (h.only.block k hk hn))⟩;exact h2.setCell (p:=⟨K,1,none⟩) (.inl rfl) v2
structure LvC(x:bU)(N:bY)(W3:bq)(K:Nat)(lv rv:bt)(wx:bq):Prop where
 low:bC W3 wx
 new:W3<=K
 blk:wx.heap[K]? =some (xK #[lv,(),rv,x.next] 34)
 bH:aS (orM N K) wx lv x.bH
 bB:aS (orM N K) wx rv x.bB
section
variable {x:bU}{N:bY}{W3 w4 w5:bq}{K:Nat}{lv rv:bt}{cur:Array bt}{o:Obj}
def wG(w5:bq)(N:bY)(K:Nat)(a b c d:bt):Ev (orM N K) w5 (orM N K) (lD w5 K 0 a b c d):=
 ((((Ev.refl _ w5).setCell (p:=⟨K,0,none⟩) (.inl (.inr rfl)) a).setCell (p:=⟨K,0+1,none⟩) (.inl (.inr rfl)) b).setCell (p:=⟨K,0+2,none⟩) (.inl (.inr rfl)) c).setCell (p:=⟨K,0+3,none⟩) (.inl (.inr rfl)) d
def FA {w':bq}(hb:bC w w')(hK:w<=K):Ev N w (orM N K) w':=⟨bh.bA hb,λi hi=>hi.elim .inl λe=> .inr (by omega)⟩
def FB(hx:cX w5 K (.cells cur 34 (0,0)))(h4:cur.size=4)(a b c d:bt):(lD w5 K 0 a b c d).heap[K]? =some (xK #[a,b,c,d] 34):=by
 obtain⟨l⟩:=cur;match l,h4 with
 |[_,_,_,_],_=>exact fG (o:=0) hx a b c d
def qcz(hx:cX w5 K (.cells cur 34 (0,0)))(h4:cur.size=4)(hj:bC W3 w4)(hK:W3<=K)(hK4:K<w4)(hb:bC w4 w5)(hs:aS (orM N K) w4 lv x.bH)(hN:∀i,N i->i<w4.heap.size)(ha:bP (orM N K) w4 37 w5 rv x.bB):
 LvC x N W3 K lv rv (lD w5 K 0 lv () rv x.next):=
 ⟨tJ (hj.trans (hb.mono hj.size)) hK,hK,FB hx h4 _ _ _ _,(hs.aT hb).ev (wG ..),(ha.slice λi hi=>hi.elim (hN i) λe=>by omega).ev (wG ..)⟩
def qc0(hx:ed w5 w4 (.cells cur 34 (0,0)))(h4:cur.size=4)(hj:bC W3 w4)(hb:Below (w4.alloc o).heap.size (w4.alloc o) w5)(hs:aS N w4 lv x.bH)(hN:∀i,N i->i<w4.heap.size)(ha:bP (orM N w4) (w4.alloc o).heap.size 37 w5 rv x.bB):
 LvC x N W3 w4 lv rv (lD w5 w4 0 lv () rv x.next):=by
 have hz:(w4.alloc o).heap.size=[w4]:=by simp
 have h1:bC w4 w5:=((ay _ w4).alloc cN o).trans (hb.mono (by omega));exact⟨tJ (hj.trans (h1.mono hj.size)) hj.size,hj.size,FB hx h4 _ _ _ _,(hs.ev (FA h1 cN)).ev (wG ..),(ha.slice λi hi=>hi.elim (λh=>by have:=hN i h;omega) λe=>by omega).ev (wG ..)⟩
def lvL {p:Obj}(_:cX W k p):k<=k:=ae _
def qc1 {p:Obj}(hb:bC w4 w5)(hx:cX w4 k p):cX w5 k p:=(hb.block k (ab.1 hx).1).trans hx
def qc2(hb:Below (w4.alloc o).heap.size (w4.alloc o) w5):ed w5 w4 o:=(hb.block _ (by simp)).trans (az w4 o)
def qc3(hj:bC W3 w4)(hb:bC w4 w5):bC W3 w5:=hj.trans (hb.mono hj.size)
def qc4(hj:bC W3 w4)(hb:Below (w4.alloc o).heap.size (w4.alloc o) w5):bC W3 w5:=hj.trans (((ay _ w4).alloc cN o).mono hj.size|>.trans (hb.mono (by have:=hj.size;simp;omega)))
def qc5(hj:bC W3 w4)(hb:bC w4 w5)(hs:aS N w4 lv x.bH)(hN:∀i,N i->i<w4.heap.size)(ha:bP N w4 37 w5 rv x.bB):
 LvC x N W3 w5 lv rv (w5.alloc (xK #[lv,(),rv,x.next] 34)):=by
 have h5:=hj.trans (hb.mono hj.size);have ha5:bC w5 (w5.alloc (xK #[lv,(),rv,x.next] 34)):=cU;exact⟨h5.trans (ha5.mono h5.size),h5.size,az w5 _,(hs.aT hb).ev (FA ha5 cN),(ha.slice hN).ev (FA ha5 cN)⟩
end
def Qs(x:bU)(h:fL x)(M:bY)(w:bq)(hM:Bd M w)(hG:Gd w)(lv ov rv:bt)(iH:aS M w lv x.bH)(hov:aS M w ov x.bN)(ib:aS M w rv x.bB):
 xG 40 #[.agg #[lv,ov,rv,x.next]] w (Ul x M):=by
 have⟨i0,hi0,hz0,hz1,hz2⟩:=info_parts yM;have HM:=aV hM;have U4:Hd (∀W,bC w W->w.heap.size+2<=W->_):=λW hb hz=>oP x h (eo M w 2) W (dZ hM hz) (hG.aT hb) lv ov rv (iH.ev (dH hb)) (hov.ev (dH hb)) (ib.ev (dH hb));have zj:Hd (∀W lt pm,bC w W->w.heap.size+2<=W->Cl x (eo M w 2) W lt pm->_):=λW lt pm hb hz hg=>uK x h (eo M w 2) W (dZ hM hz) (hG.tb.aT hb) lt rv pm hg (ib.ev (dH hb));have BF:=aV h;have UF:Hd (∀W,bC w W->Tb W):=λW hb=>hG.tb.aT hb;have h10:=h.len;have HLR:Hd (∀W,bC w W->aS (eo M w 2) W lv x.bH/\aS (eo M w 2) W rv x.bB):=λW hb=>⟨iH.ev (dH hb),ib.ev (dH hb)⟩;obtain⟨la,lc,rfl,-⟩:=iH.bj;obtain⟨oa,oc,rfl,-⟩:=hov.bj;obtain⟨ra,rc,rfl,-⟩:=ib.bj;have ik:=aV (Bx.ei w (dI (xL la x.bH.length lc) (xL oa x.bN.length oc) (xL ra x.bB.length rc) x.next) (dI () () () 0));clear iH hov ib h hG hM;have⟨c0,c1,c2,c3⟩:=aU (ik.o.cP rfl);unfold dI at ik c0 c1 c2 c3;delta xG;go_in;go_wp2_with fail;refine(U4.o _ ik.o.1 ik.o.cM).mono ?_;rintro e w1⟨_,rfl,⟨lt,pm,rfl,hg⟩,hb1⟩;have C4:=aV hg;have cu:=aV (ik.o.aT hb1);obtain⟨⟨ls,tP,hlen,j6⟩,es,clk,F0,zw⟩:=hg;obtain⟨ta,tc,rfl,-⟩:=tP.bj;rw[hlen]at C4 tP⊢;have JO:=aV (And.intro tP (And.intro hlen (And.intro j6 (And.intro F0 zw))));clear hb1 c0 c1 c2 c3 tP j6 F0 zw;go_upto_region 4 with fail;have⟨W2,hW2⟩:=dd (w1.alloc (xK #[xL ta x.bN.length tc, .map (some pm)] 93));have bZ:=aV (cu.o.alloc (xK #[xL ta x.bN.length tc, .map (some pm)] 93));have nh:=aV (show bC w1 W2/\ed W2 w1 (xK #[xL ta x.bN.length tc, .map (some pm)] 93)by rw[hW2];exact⟨cU,az w1 _⟩);rw[<-hW2]at bZ⊢;clear hW2;have⟨c0,c1,c2,c3⟩:=aU (bZ.o.cP rfl);have⟨d0,d1⟩:=aZ nh.o.2;go_wp2_with fail;refine(zj.o _ _ _ bZ.o.1 bZ.o.cM (C4.o.aT nh.o.1)).mono ?_;rintro e w3⟨S,sb,rfl,hset,hmem,hb3⟩;have cR:=aV (bZ.o.aT hb3);have Dc:Hd (w.heap.size+2<=w1):=cu.o.cM;have qp:Hd (bC w1 w3/\ed w3 w1 (xK #[xL ta x.bN.length tc, .map (some pm)] 93)):=⟨nh.o.1.trans (hb3.mono nh.o.1.size),(hb3.block _ (ab.1 nh.o.2).1).trans nh.o.2⟩;have iG:=aV (And.intro hset hmem);clear hb3 c0 c1 c2 c3 d0 d1 hset hmem nh bZ cu zj U4 ik C4;go_upto_region 5 with fail;have To:Hd (∀i,eo M w 2 i->i<w3.heap.size):=λi hi=>by have h1:w.heap.size+2<=w3:=cR.o.cM;have h2:=pQ HM.o i hi;omega
 have qfi:=ie (w:=w3) (λW hb=>mg x.bH (by have:=BF.o.sch.len;omega) (λy hy=>⟨by have:=((cw _).1 (BF.o.sch.bH y hy).bu.right).2.1;omega,by have:=(BF.o.sch.bH y hy).len;omega⟩) (eo M w 2) W _ (λi hi=>aN (To.o i hi) hb.size) ((HLR.o w3 cR.o.1).1.aT hb));have qb3:Hd (∀W K,bC w3 W->w3.heap.size<=K->K<W.heap.size->_):=λW K hb hK hW=>mg x.bH (by have:=BF.o.sch.len;omega) (λy hy=>⟨by have:=((cw _).1 (BF.o.sch.bH y hy).bu.right).2.1;omega,by have:=(BF.o.sch.bH y hy).len;omega⟩) (orM (eo M w 2) K) W _ (λi hi=>hi.elim (λh=>aN (To.o i h) hb.size) λe=>by omega) ((HLR.o w3 cR.o.1).1.ev (FA hb hK));have qfj:=ie (w:=w3) (λW hb=>tK (eo M w 2) W _ x.bB ((HLR.o w3 cR.o.1).2.aT hb) (by have:=BF.o.rlen;omega));have TH:Hd (∀W K,bC w3 W->w3.heap.size<=K->_):=λW K hb hK=>tK (orM (eo M w 2) K) W _ x.bB ((HLR.o w3 cR.o.1).2.ev (FA hb hK)) (by have:=BF.o.rlen;omega);have eh:Hd (∀W,bC w3 W->oT W w 0 (xL la x.bH.length lc)/\oT W w 2 (xL ra x.bB.length rc)/\oT W w 3 x.next):=λW hb=>by
  have⟨p0,p1,p2,p3⟩:=aU ((cR.o.aT hb).cP rfl);exact⟨p0,p2,p3⟩
 have HJ:Hd (bC w3 w3):=eH;have iy:Hd (∀o,w3.heap.size<(w3.alloc o).drew.heap.size):=λo=>by show w3.heap.size<(w3.alloc o).heap.size;simp
 have jM:Hd (∀o,w3.heap.size<(w3.drew.alloc o).heap.size):=λo=>by show w3.heap.size<(w3.alloc o).heap.size;simp
 have Jz:Hd (∀(W:bq),bC w3 W->∀i,eo M w 2 i->i<W.heap.size):=λW hb i hi=>aN (To.o i hi) hb.size;go_cut [7](λs7 wx=>∃(K:Nat)(Rh Ri:bt),s7=xP K/\Hd (LvC x (eo M w 2) w3 K Rh Ri wx))
 .go_region_held3(λw'=>w'.cell? (w,0)=some (xL la x.bH.length lc)/\w'.cell? (w,2)=some (xL ra x.bB.length rc)/\w'.cell? (w,3)=some (xI x.next))
   (with_reducible first|exact eh.o _ HJ.o|exact eh.o _ HJ.o.drew|exact eh.o _ (HJ.o.alloc HJ.o.size _)|exact eh.o _ ((HJ.o.alloc HJ.o.size _).drew)|exact eh.o _ (HJ.o.drew.alloc HJ.o.size _)|exact eh.o _ ee.o|exact eh.o _ (ee.o.alloc ee.o.size _)|exact eh.o _ pC.o|exact eh.o _ (pC.o.alloc pC.o.size _)|exact eh.o _ ((((pC.o.setCell cN _).setCell cN _).setCell cN _).setCell cN _)|exact eh.o _ ((((pC.o.setCell ee.o.size _).setCell ee.o.size _).setCell ee.o.size _).setCell ee.o.size _))
   (first
     |(go_at_call 93;first
       |(with_reducible refine(qfi.o _ HJ.o.drew).mono ?_)
       |(with_reducible refine(qb3.o _ w3 (HJ.o.alloc HJ.o.size _).drew cN (iy.o _)).mono ?_)
       |(with_reducible refine(qb3.o _ w3 (HJ.o.drew.alloc HJ.o.size _) cN (jM.o _)).mono ?_)
       |fail
       rintro e w4⟨_,rfl,⟨_,rfl,Xp⟩,eZ⟩;obtain⟨za,zc,rfl,-⟩:=Xp.bj;have gS:=aV Xp;try(with_reducible(have HX:=aV (oX2 eZ)))
       try(with_reducible(have HX:=aV (oX3 eZ)))
       have ee:Hd (bC w3 w4):=(by with_reducible first|exact aV (Gc eZ)|exact aV (X8 eZ)|exact aV (X9 eZ));clear Xp eZ)
     |(go_at_call 102;first
       |(with_reducible refine(TH.o _ w3 ee.o (lvL HX.o)).mono ?_)
       |(with_reducible refine(qfj.o _ ee.o).mono ?_)
       |(with_reducible refine(TH.o _ w4 (ee.o.alloc ee.o.size _) ee.o.size).mono ?_)
       |fail
       rintro e w5⟨_,rfl,hacc,iz⟩;obtain⟨ya,yc,rfl,-⟩:=hacc.bj;have RE:=aV hacc;have jF:=aV iz;try(with_reducible(have HY:=aV (qc1 iz HX.o)))
       try(with_reducible(have HY:=aV (qc2 iz)))
       try(have g0:=aY HY.o 0)
       try(have g1:=aY HY.o 1)
       try(have g2:=aY HY.o 2)
       try(have g3:=aY HY.o 3)
       try(have hq:=aU HY.o)
       have pC:Hd (bC w3 w5):=(by with_reducible first|exact aV (qc3 ee.o iz)|exact aV (qc4 ee.o iz));clear hacc iz)
     |fail);all_goals(go_wp2;go_meet)
  all_goals first
   |exact⟨_,_,_,rfl,aV (qcz HY.o rfl ee.o cN (ab.1 HX.o).1 jF.o gS.o (Jz.o _ ee.o) RE.o)⟩
   |exact⟨_,_,_,rfl,aV (qc0 HY.o rfl ee.o jF.o gS.o (Jz.o _ ee.o) RE.o)⟩
   |exact⟨_,_,_,rfl,aV (qc5 ee.o jF.o gS.o (Jz.o _ ee.o) RE.o)⟩
 obtain⟨K,Rh,Ri,rfl,HC⟩:=hcut;rename World=>W7;obtain⟨l7,m7,rfl,-⟩:=HC.o.bH.bj;obtain⟨r7,s7,rfl,-⟩:=HC.o.bB.bj;have hgl:=(ab.1 qp.o.2).1;have qL:=aV (show w.heap.size+2<=w1/\w1<K/\sb<K/\K<W7/\w1.heap.size<W7/\sb<W7 by
  have h1:=HC.o.new;have h2:=iG.o.1.lt;have h3:=(ab.1 HC.o.blk).1;have h4:=HC.o.low.size;have h5:w.heap.size+2<=w1:=Dc.o;exact⟨h5,by omega,by omega,h3,by omega,by omega⟩);have RH:Hd (∀wr,bh (λk=>k=K) W7 wr->bC w1 wr/\ed wr w1 (xK #[xL ta x.bN.length tc, .map (some pm)] 93)/\Mk.eY wr sb S):=λwr ho=>by
  have⟨h1,h2,h3,h4,h5,h6⟩:=qL.o;have gw:bC w1 W7:=qp.o.1.trans (HC.o.low.mono qp.o.1.size);exact⟨⟨ho.os.trans gw.os,ho.tape.trans gw.tape,ho.output.trans gw.output,aH gw.size ho.size,λi hi=>(ho.block i (by omega) (by omega)).trans (gw.block i hi)⟩,(ho.block _ h5 (by omega)).trans ((HC.o.low.block _ hgl).trans qp.o.2),(iG.o.1.same (HC.o.low.block _ iG.o.1.lt)).same (ho.block _ h6 (by omega))⟩
 have XU:Hd (∀wr,bh (λk=>k=K) W7 wr->bC w wr/\cX wr [w] (xK #[(),(),(),xI 0] 34)):=λwr ho=>by
  have⟨h1,h2,h3,h4,h5,h6⟩:=qL.o;have gw:=cR.o.aT HC.o.low;exact⟨⟨ho.os.trans gw.1.os,ho.tape.trans gw.1.tape,ho.output.trans gw.1.output,aH gw.1.size ho.size,λi hi=>(ho.block i (by omega) (by omega)).trans (gw.1.block i hi)⟩,(ho.block _ (by omega) (by omega)).trans (gw.cZ rfl)⟩
 have YY:Hd (∀(i:Nat)(o:cm),ls[i]? =some o->_):=λi o ho=>gX JO.o.1 ho;have HTD:Hd (∀wr v os i,uL x S (eo M w 2) W7 K (xL l7 x.bH.length m7) (xL r7 x.bB.length s7) i v os wr->∀W,bC wr W->∀(j:Nat)(o0 o:cm),x.bN[j]? =some o0->ls[j]? =some o->_):=λwr v os i hs W hb j o0 o h0 ho=>by
  have⟨h1,h2,h3,h4,h5,h6⟩:=qL.o;have hg:=RH.o wr hs.only;have hbW:bC w1 W:=hg.1.trans (hb.mono hg.1.size);have zq:Ev (eo M w 2) w1 (cz v (orM (eo M w 2) K)) W:=⟨bh.bA hbW,λk hk=>by
   rcases hk with(hk|hk)|hk
   .exact .inl hk
   .right;omega
   right;have:=(hs.acc.dC k hk).1;omega⟩;exact Fz x BF.o S ls j o0 o h0 ho (JO.o.2.2.1 j o ho) (cz v (orM (eo M w 2) K)) W (λk hk=>by
   have hzz:=hb.size;have hz2:=hs.only.size;rcases hk with(hk|hk)|hk
   .have:=pQ HM.o k hk;omega
   .omega
   have:=(hs.acc.dC k hk).2;omega) (UF.o W ((XU.o wr hs.only).1.trans (hb.mono (XU.o wr hs.only).1.size))) (xL ta x.bN.length tc) pm sb es clk (JO.o.1.ev zq) ((hbW.block _ (ab.1 JO.o.2.2.2.1).1).trans JO.o.2.2.2.1) (Cl.at_ BF.o JO.o.2.2.2.2 h0) (hg.2.2.same (hb.block _ hg.2.2.lt))
 have QK:Hd (uL x S (eo M w 2) W7 K (xL l7 x.bH.length m7) (xL r7 x.bB.length s7) 0 () [] W7):=⟨bh.refl _ _,HC.o.blk,bP.nil _ _ _ _,Jg.zero x S,cN⟩;have⟨d0,d1⟩:=aZ (RH.o W7 (bh.refl _ _)).2.1;have⟨n,hn⟩:=js (x.bN.length);have HN:=aV hn;rw[hn]at RH HTD h10 d0 JO⊢;clear hn hlen hgl eh qfi qb3 qfj TH HJ iy jM Jz To;go_wp2;go_loopg [9,35]n(λg _ iv wr=>∃(i:Nat)(v:bt)(os:List cm),i<=n/\g=n-i/\iv=xI i/\Hd (uL x S (eo M w 2) W7 K (xL l7 x.bH.length m7) (xL r7 x.bB.length s7) i v os wr));exact⟨0,_,[],ax _,rfl,rfl,QK⟩;clear d0 d1 QK;obtain⟨i,v,os,hi,rfl,rfl,HS⟩:=hrel;rename World=>wr;obtain⟨a,c,rfl,-,-⟩:=HS.o.acc.bj;by_cases cE:i<n
 .have⟨o,ho⟩:=fg ls i (by rw[JO.o.2.1];exact cE);have⟨b,off,cap,va,vc,hv,_,_,hcells⟩:=YY.o i o ho;obtain⟨rfl,rfl⟩:=jk hv;have⟨g0,g1,g2,g3⟩:=hcells wr (RH.o wr HS.o.only).1;have⟨o0,h0,hid⟩:=(JO.o.2.2.1 i o ho).idn;have hcl:o.dz=o0.dz:=(JO.o.2.2.1 i o ho).ZI h0;have H00:=aV h0;have mC:=aV hcl;have HO:=aV ho;rw[hid]at g0;have HID:=aV hid;clear hv hcells ho hid h0 hcl;obtain⟨zi,hzi⟩:∃z,o0.id=z:=⟨_,rfl⟩;rw[hzi]at g0 HID;have HZI:=aV hzi;clear hzi;go_upto_region 9 with fail;have⟨W9,hW9⟩:=dd (wr.alloc (xK #[zi,o.dz,o.dB,xL va o.bR.length vc] 41));have Gt:=aV (show uL x S (eo M w 2) W7 K (xL l7 x.bH.length m7) (xL r7 x.bB.length s7) i (xL a os.length c) os W9 by rw[hW9];exact HS.o.aT cU);have HZ9:=aV (show ed W9 wr (xK #[zi,o.dz,o.dB,xL va o.bR.length vc] 41)by rw[hW9];exact az wr _);rw[<-hW9];clear hW9 g0 g1 g2 g3 HS;have z0:=(aU HZ9.o).1;have mD:=(RH.o W9 Gt.o.only).2.2.lookup zi;by_cases ji:zi∈S;rotate_left
  .have hd:decide (zi∈S)=false:=by simpa using ji
   have qfk:=ji;rw[hd]at mD;clear hd ji;go_wp2;go_roundg(n-(i+1));exact⟨i+1,_,os,by omega,rfl,by go_num,aV (Gt.o.more H00.o (by rw[HZI.o];exact qfk))⟩;omega
  have hd:decide (zi∈S)=true:=by simpa using ji
  rw[hd]at mD;have Gn:=aV (HTD.o W9 _ os i Gt.o W9.drew ((ay _ W9).drew) i o0 o H00.o HO.o);rw[HZI.o]at Gn;have zo:=aV ji;clear hd ji;go_upto_region 10 with fail;clear mD;have⟨d0,d1⟩:=aZ (RH.o W9 Gt.o.only).2.1;have p1:=(aU Gt.o.blk).2.1;have hol:=Gt.o.len;have h48:(os.length+1)*48<=140737488355328:=by omega
  obtain⟨oi,oc,ov,ovs⟩:=o;dsimp only at*;go_region_law(first
   |(go_simp;go_at_call 23;refine Gn.o.mono ?_;rintro e w5⟨_,rfl,⟨vs,vv,rfl,hvv⟩,iz⟩;obtain⟨ua,uc,rfl,-⟩:=hvv.bj;have mu:=aV (Gt.o.aT ((ay _ W9).drew.trans iz));have fR:Hd (∀o1,bD.rep (α:=cm) (cz (xL a os.length c) (orM (eo M w 2) K)) (w5.alloc o1) [xI oi,xI oc,xI ov,xL ua vs.length uc] ⟨oi,oc,ov,vs⟩):=λo1=>⟨_,rfl,hvv.aT (eH.alloc cN o1)⟩;have q1:=(aU mu.o.blk).2.1;have q2:∀o1,(w5.alloc o1).cell? (K,1)=some (xL a os.length c):=λo1=>(aU ((aB w5 o1 K (ab.1 mu.o.blk).1).trans mu.o.blk)).2.1;clear hvv iz p1 d0 d1 z0)
   |(refine eA (α:=cm) rfl _ _ _ rfl (orM (eo M w 2) K) W7 41 i0 _ 48 underlying31 hi0 hz0 hz1 hz2 rfl (by decide) (.slice a os.length c) os rfl (mu.o.acc.alloc _) (λ_=>True) _ _ (⟨oi,oc,ov,vs⟩:cm) rfl (dj _ _ _ _ rfl trivial) (fR.o _) (by unfold maxLen;omega) h48 (by have:=mu.o.only.size;simp;omega) ?_;intro a2 c2 w6 cF eD kN;have rX:=aV (mu.o.next qL.o.2.2.2.1 kN cF H00.o (by rw[HZI.o];exact zo.o) (HID.o.trans HZI.o.symm) mC.o);have gw:=(kN.block K qL.o.2.2.2.1).trans ((aB w5 _ K (by have:=mu.o.only.size;have:=qL.o.2.2.2.1;omega)).trans mu.o.blk);have s6:=(aU gw).2.1;have f6:=aY gw 1;clear cF eD kN gw q1 q2)
   |fail);all_goals
   go_wp2;go_roundg(n-(i+1));exact⟨i+1,_,os++[⟨oi,oc,ov,vs⟩],by omega,rfl,by go_num,rX⟩;omega
 obtain rfl:i=n:=by omega
 have⟨k0,k1,k2,k3⟩:=aU HS.o.blk;have qb4:=(XU.o wr HS.o.only).2;have⟨r0,r1,r2,r3⟩:=aU qb4;have⟨f0,f1,f2,f3⟩:=iS qb4;have rI:=eL HC.o.bH;have hro:=eL HC.o.bB;have TQ:Hd (Ev (orM (eo M w 2) K) W7 (orM (eo M w 2) K) wr):=⟨HS.o.only.mono λk hk=> .inr hk,λi hi=> .inl hi⟩;have U5:=aV (HS.o.acc.slice λk hk=>by
  rcases hk with hk|hk
  .have:=pQ HM.o k hk;have:=qL.o;omega
  have:=qL.o;omega);have Aa:=aV (XU.o wr HS.o.only).1;have hol:=HS.o.len;have po:Hd (∀W',W'=(((wr.setCell ([w],0) (xL l7 x.bH.length m7)).setCell ([w],1) (xL a os.length c)).setCell ([w],2) (xL r7 x.bB.length s7)).setCell ([w],3) x.next->Ul x M (.tuple #[.agg #[xL l7 x.bH.length m7,xL a os.length c,xL r7 x.bB.length s7,x.next],xI 0]) W'/\bC w W'):=λW' hW'=>by
  rw[hW'];have e1:Ev (orM (eo M w 2) K) wr M ((((wr.setCell ([w],0) (xL l7 x.bH.length m7)).setCell ([w],1) (xL a os.length c)).setCell ([w],2) (xL r7 x.bB.length s7)).setCell ([w],3) x.next):=((((Ev.eO wr λk hk=> .inl (.inl hk)).setCell (.inl (.inl (.inr ⟨by simp,by simp⟩))) _).setCell (.inl (.inl (.inr ⟨by simp,by simp⟩))) _).setCell (.inl (.inl (.inr ⟨by simp,by simp⟩))) _).setCell (.inl (.inl (.inr ⟨by simp,by simp⟩))) _;exact⟨⟨S,os,_,_,_,rfl,iG.o.2,by rw[HN.o];exact HS.o.live,(HC.o.bH.ev TQ.o).ev e1,U5.o.ev e1,(HC.o.bB.ev TQ.o).ev e1⟩,(((Aa.o.setCell (by simp) _).setCell (by simp) _).setCell (by simp) _).setCell (by simp) _⟩
 clear qb4;go_wp2_with fail;exact ah (v:= .tuple #[.agg #[xL l7 x.bH.length m7,xL a os.length c,xL r7 x.bB.length s7,x.next],xI 0]) (by simp[results,results40,go_sem,r0,r1,r2,r3,f0,f1,f2,f3]) rfl ⟨_,rfl,po.o _ rfl⟩
abbrev Qu(c:bS):bt:= .agg #[xI 2,"",(),c,"","",xI 0,xI 0,"",()]
def zU(c:bS):Obj:=xK #[xI 2,"",(),c,"","",xI 0,xI 0,"",()] 75
def lS {c:bS}(h:cX W b (zU c)):
 cC W b 0 (xI 2)/\cC W b 1 ""/\cC W b 2 ()/\cC W b 3 c/\cC W b 4 ""/\cC W b 5 ""/\
  cC W b 6 (xI 0)/\cC W b 7 (xI 0)/\cC W b 8 ""/\cC W b 9 ():=
 ⟨cell_of_heap h rfl,cell_of_heap h rfl,cell_of_heap h rfl,cell_of_heap h rfl,cell_of_heap h rfl,cell_of_heap h rfl,cell_of_heap h rfl,cell_of_heap h rfl,cell_of_heap h rfl,cell_of_heap h rfl⟩
def Jh(w:bq):xC 180 #[.agg jl] w (di true w):=by
 have HB:=aV (Bx.fm w (xK jl 50));delta xC;go_in;go_wp2;go_ret;exact⟨rfl,HB.o.1⟩
def FC(c:Nat)(hc:cG c=true)(w:bq):xC 258 #[.int .u8 c] w (j7 true w):=by
 have h:(97<=(c:Int)/\(c:Int)<=122)\/(48<=(c:Int)/\(c:Int)<=57)\/(c:Int)=95:=by
  simpa [cG,eP,or_assoc]using hc
 clear hc;rcases h with⟨b1,b2⟩|⟨b1,b2⟩|b1
 .go_enter func258,ntmps258;go_wp2_with fail;all_goals first|(go_ret;exact⟨rfl,rfl⟩)|(exfalso;omega)
 .have d1:¬97<=(c:Int):=by omega
  go_enter func258,ntmps258;go_wp2_with fail;all_goals first|(go_ret;exact⟨rfl,rfl⟩)|(exfalso;omega)
 have d1:¬97<=(c:Int):=by omega
 have d2:¬(c:Int)<=57:=by omega
 go_enter func258,ntmps258;go_wp2_with fail;all_goals first|(go_ret;first|exact⟨rfl,rfl⟩|exact⟨by simp[b1],rfl⟩)|(exfalso;omega)
def Ji(h:bF s=true):∃(h1:1<=s.size),s.size<=20/\eP (s[0]'h1).toNat=true/\∀(k:Nat)(hk:k<s.size),cG (s[k]).toNat=true:=by
 obtain⟨⟨h1,h2⟩,h3⟩:(1<=s.size/\s.size<=20)/\(match s.data.toList with|[]=>false|c::r=>eP c.toNat&&(c::r).all λc=>cG c.toNat)=true:=by
  unfold bF at h;rw[aF,aF]at h;exact⟨⟨by simpa using h.1.1,by simpa using h.1.2⟩,h.2⟩
 refine⟨h1,h2,?_,λk hk=> ?_⟩
 .have h4:=dY s 0 h1;cases hl:s.data.toList with
  |nil=>rw[hl]at h4;simp at h4
  |cons a r=>
   rw[hl]at h3 h4;simp at h4;rw[<-h4];exact(Bool.and_eq_true_iff.1 h3).1
 have h4:=dY s k hk;cases hl:s.data.toList with
 |nil=>rw[hl]at h4;simp at h4
 |cons a r=>
  rw[hl]at h3 h4;have h5:=(Bool.and_eq_true_iff.1 h3).2;exact List.all_eq_true.1 h5 _ (ai h4)
def Qv(s:bS)(h:bF s=true)(w:bq):xC 179 #[s] w (j7 true w):=by
 have⟨h1,h2,h0,hall⟩:=Ji h;have XP:Hd (∀(k:Nat)(hk:k<s.size)W,_):=λk hk W=>FC _ (hall k hk) W;obtain⟨c0,hc0⟩:∃c,s[0]'h1=c:=⟨_,rfl⟩;rw[hc0]at h0;obtain⟨a1,a2⟩:97<=(c0.toNat:Int)/\(c0.toNat:Int)<=122:=by simpa [eP]using h0
 clear h hall h0;have hs1:¬(s.size:Int)<1:=by omega
 have hs2:¬20<(s.size:Int):=by omega
 have qX:(0:Int)<s.size:=by omega
 have a3:¬(c0.toNat:Int)<97:=by omega
 have a4:¬122<(c0.toNat:Int):=by omega
 delta xC;go_in;go_wp2_with fail;clear hc0;go_loopg [3,24]s.size(λg _ iv wr=>∃i:Nat,g=s.size-i/\i<=s.size/\iv=xI i/\w=wr);exact⟨0,rfl,by omega,rfl,rfl⟩;obtain⟨i,rfl,hi,rfl,rfl⟩:=hrel;by_cases cE:i<s.size
 .have HI:=aV (XP.o i cE);have⟨x,hx⟩:=js (s[i]);rw[hx]at HI;go_wp2_with fail;refine ey (HI.o _) ?_;go_wp2;go_roundg(s.size-(i+1));exact⟨i+1,rfl,by omega,by go_num,rfl⟩;omega
 go_wp2;go_ret;exact⟨rfl,rfl⟩
def FD(c:bS)(h:bF c=true)(w:bq):xC 104 #[Qu c] w (di true w):=by
 have HN:Hd (∀W,_):=λW=>Qv c h W;have HO:Hd (∀W,_):=λW=>Jh W;have dp:=aV (Bx.fm w (zU c));clear h;delta xC;go_in;go_upto_region 1 with fail;have⟨W,hW⟩:=dd (w.alloc (zU c));rw[<-hW]at dp;unfold zU at hW;rw[<-hW];clear hW;have⟨q0,q1,q2,q3,q4,q5,q6,q7,q8,q9⟩:=lS (dp.o.cP rfl);go_wp2_with fail;refine ey (HN.o _) ?_;go_wp2_with fail;refine dx (HO.o _) λw1 hb=> ?_;have cu:=aV (dp.o.aT hb);clear hb;go_wp2;go_ret;exact⟨rfl,cu.o.1⟩
def FE(c:bS)(h:bF c=true)(w:bq):xC 41 #[Qu c] w (di true w):=by
 have HF:Hd (∀W,_):=λW=>FD c h W;have dp:=aV (Bx.fm w (zU c));clear h;unfold zU at dp;have⟨q0,q1,q2,q3,q4,q5,q6,q7,q8,q9⟩:=lS (dp.o.cP rfl);delta xC;go_in;go_wp2_with fail;refine dx (HF.o _) λw1 hb=> ?_;have HB:=aV (dp.o.aT hb);clear hb;go_wp2;go_ret;exact⟨rfl,HB.o.1⟩
def M3(i c v:Int)(a:fM)(n k:Nat)(w:bq):xC 107 #[.agg #[i,c,v,xL a n k]] w (di true w):=by
 delta xC;go_in;go_wp2;go_ret;exact⟨rfl,cU⟩
def dW(num:Int)(l:List cm):List bE:=(l.filter λo=>decide (o.dz=num)).map λo=> .mk 3 o.id mz []
def M4 {num:Int}{l:List cm}{o:cm}(h:l[i]? =some o)(hc:o.dz=num):dW num (l.take (i+1))=dW num (l.take i)++[.mk 3 o.id mz []]:=by
 unfold dW;rw[ao,h];simp[hc]
def M5 {num:Int}{l:List cm}{o:cm}(h:l[i]? =some o)(hc:o.dz≠num):dW num (l.take (i+1))=dW num (l.take i):=by
 unfold dW;rw[ao,h];simp[hc]
def M6(num:Int)(l:List cm)(i:Nat):(dW num (l.take i)).length<=i:=by
 unfold dW;rw[aL];exact aH (List.length_filter_le _ _) (by simp;omega)
def FF(l:List cm)(hl:l.length<=1000)(M:bY)(w:bq)(lv ov rv:bt)(nx num:Int)(iH:lv.oneCell'=true)(ib:rv.oneCell'=true)(hM:Bd M w)(hov:aS M w ov l):
 xG 106 #[.agg #[lv,ov,rv,nx],num, .func (.func 107) #[] #[]] w λv w'=>aS M w' v (dW num l):=by
 have⟨i0,hi0,hz0,hz1,hz2⟩:=info_parts iD;have HO:Hd (∀(i:Nat)(x:cm),l[i]? =some x->_):=λi x hx=>gX hov hx;have HF:Hd (∀i c v a n k W,_):=M3;obtain⟨oa,oc,rfl,_⟩:=hov.bj;have HG:Hd (∀i,i<l.length->∃x,l[i]? =some x):=λi h=>⟨_,af h⟩;have dp:=aV (Bx.fm w (xK #[lv,xL oa l.length oc,rv,nx] 34));have HM:=aV hM;have tT:=aV (M6 num l);have⟨m,hm⟩:=js (l.length);have HN:=aV hm;rw[hm]at hl dp HG⊢;clear hov hm hM;delta xG;go_in;go_wp2;go_loopg [7,9,13]m(λg v7 _ iv wr=>∃(i:Nat)(a1:fM)(c1 k1:Nat),g=m-i/\i<=m/\iv=xI i/\v7=xL a1 k1 c1/\Hd ((dW num (l.take i)).length=k1)/\Hd (bP M [w] 50 wr (xL a1 k1 c1) (dW num (l.take i)))/\Hd (Bx w [xK #[lv,xL oa m oc,rv,nx] 34] wr));exact⟨0,none,0,0,rfl,by omega,rfl,rfl,aV rfl,aV (bP.nil _ _ _ _),dp⟩;clear dp;obtain⟨i,a1,c1,k1,rfl,hi,rfl,rfl,HK,HA,HB⟩:=hrel;by_cases cE:i<m
 .have⟨x,hx⟩:=HG.o i cE;have⟨b,off,cap,a,c,hv,_,hvs,hc⟩:=HO.o i x hx;obtain⟨rfl,rfl⟩:=jk hv;have⟨g0,g1,g2,g3⟩:=hc _ HB.o.1;have HX:=aV hx;clear hv hc hx hvs;have C7:k1<=1000:=by have:=tT.o i;have:=HK.o;omega
  by_cases hcl:x.dz=num
  .have Jr:=aV (M4 HX.o hcl);go_upto_region 5 with fail;have⟨W1,hW1⟩:=dd (wr.alloc (xK #[x.id,num,x.dB,xL a x.bR.length c] 41));have cu:=aV (show Bx w [xK #[lv,xL (b,off) m oc,rv,nx] 34] W1 by rw[hW1];exact HB.o.alloc _);have zX:=aV (show bP M [w] 50 W1 (xL a1 k1 c1) (dW num (l.take i))by rw[hW1];exact HA.o.alloc _);have gy:=aV (show Bx wr [xK #[x.id,num,x.dB,xL a x.bR.length c] 41] W1 by rw[hW1];exact Bx.fm wr _);rw[<-hW1];clear hW1 g0 g1 g2 g3;have⟨o0,o1,o2,o3⟩:=aU (gy.o.cP rfl);go_wp2_with fail;refine dx (HF.o _ _ _ _ _ _ _) λw2 cJ=> ?_;have bZ:=aV (cu.o.aT cJ);have lJ:=aV (zX.o.aT cJ);have gz:=aV (gy.o.aT cJ);clear cJ o0 o1 o2 o3;obtain⟨o0,-,-,-⟩:=aU (gz.o.cP rfl);have hsz2:w.heap.size+1<=w2:=bZ.o.cM;go_wp2_with(at_builtin;go_loud(refine cA (α:=bE) rfl _ _ _ rfl M [w] 50 i0 _ 56 underlying39 hi0 hz0 hz1 hz2 rfl (by decide) (.slice a1 k1 c1) (dW num (l.take i)) rfl (lJ.o.alloc _) (λ_=>True) _ _ (.mk 3 x.id mz []) rfl (dj _ _ _ _ rfl trivial) (fZ.iff.2 ⟨_,rfl,aS.nil _ _,iM⟩) (by rw[HK.o];unfold maxLen;omega) (by rw[HK.o];omega) (by simp;omega) ?_);rw[HK.o];intro a2 c2 w4 cF eD eZ;have dR:=aV (show bP M [w] 50 w4 (xL a2 (k1+1) c2) (dW num (l.take (i+1)))by rw[Jr.o];exact cF);have nh:=aV (show(dW num (l.take (i+1))).length=k1+1 by rw[Jr.o,aJ,HK.o];rfl);have fh:Hd (Bx w [xK #[lv,xL (b,off) m oc,rv,nx] 34] w4):=(bZ.o.alloc _).ej eZ (by simp);clear cF eD eZ);go_roundg(m-(i+1));exact⟨i+1,a2,c2,k1+1,rfl,by omega,by go_num,rfl,nh,dR,fh⟩;omega
  have qhg:(x.dz==num)=false:=by simpa using hcl
  have Jr:=aV (M5 HX.o hcl);clear hcl;go_wp2;go_roundg(m-(i+1));exact⟨i+1,a1,c1,k1,rfl,by omega,by go_num,rfl,aV (by rw[Jr.o];exact HK.o),aV (by rw[Jr.o];exact HA.o.alloc _),aV (HB.o.alloc _)⟩;omega
 have Ad:=aV (show aS M wr (xL a1 k1 c1) (dW num l)by
  have h:=HA.o.slice λj hj=>by have:=HM.o j hj;omega
  rw[ak (by rw[HN.o];omega)]at h;exact h);go_wp2;go_ret;exact⟨_,rfl,Ad.o,HB.o.1⟩
def Jj(ls:List bQ)(h12:ls.length<=12)(os:List cm)(ho:os.length<=1000)(c:bS)(n:Nat)(hn:n<ls.length)(hat:ek ls c=n)(M:bY)(w:bq)(hM:Bd M w)(lv ov rv:bt)(nx:Int)(iH:aS M w lv ls)(hov:aS M w ov os)(hro:rv.oneCell'=true):
 xG 42 #[.agg #[lv,ov,rv,nx],Qu c] w λu w'=>∃wv,u= .tuple #[wv,xI 0]/\aS M w' wv (dW n os):=by
 have rI:=eL iH;have HF:=ie (w:=w) (λW hb=>A6 M lv W ls c (iH.aT hb) h12);have HT:Hd (∀W(num:Int),bC w W->_):=λW num hb=>FF os ho M W lv ov rv nx num rI hro (hM.aT hb) (hov.aT hb);have UB:Hd (∀(k:Nat)(b:Bool),FdS ls c k b->b=true/\k=n):=λk b h=>by
  rcases h with⟨rfl,_,h⟩|⟨_,_,h⟩
  .exact⟨rfl,by omega⟩
  omega
 obtain⟨la,lc,rfl,_⟩:=iH.bj;obtain⟨oa,oc,rfl,_⟩:=hov.bj;have ik:=aV (Bx.ei w (xK #[xL la ls.length lc,xL oa os.length oc,rv,nx] 34) (zU c));have BC:∀(fn:Fn)(bu cap:Array bt)(w:bq),(Instr.makeFunc fn bu cap).run prog w= .ok (.func fn bu cap) w:=λ_ _ _ _=>rfl;generalize ls.length=nl at*;generalize os.length=no at*;clear iH hov hM rI h12 ho hn hat;unfold zU at ik;have⟨c0,c1,c2,c3⟩:=aU (ik.o.cP rfl);have⟨q0,q1,q2,q3,q4,q5,q6,q7,q8,q9⟩:=lS (ik.o.cZ rfl);delta xG;go_in;go_wp2_with fail;refine(HF.o _ ik.o.1).mono ?_;rintro e w1⟨⟨k,b,rfl,hk⟩,hb1⟩;obtain⟨rfl,rfl⟩:=UB.o k b hk;have cu:=aV (ik.o.aT hb1);clear hb1 hk ik c0 c1 c2 c3 q0 q1 q2 q3 q4 q5 q6 q7 q8 q9;have⟨c0,c1,c2,c3⟩:=aU (cu.o.cP rfl);have⟨q0,q1,q2,q3,q4,q5,q6,q7,q8,q9⟩:=lS (cu.o.cZ rfl);go_wp2_with fail;refine(HT.o _ _ cu.o.1).mono ?_;rintro e w2⟨wv,rfl,hs,cJ⟩;obtain⟨wa,wc,rfl,_⟩:=hs.bj;have HS:=aV (And.intro hs (cu.o.aT cJ).1);clear hs cJ;generalize(dW k os).length=tn at*;go_wp2;go_ret2;exact⟨_,rfl,⟨_,rfl,HS.o.1⟩,HS.o.2⟩
def M7(x:bU)(h:fL x)(M:bY)(w:bq)(hM:Bd M w)(hG:Gd w)(lv ov rv:bt)(iH:aS M w lv x.bH)(hov:aS M w ov x.bN)(ib:aS M w rv x.bB)(c:bS)(hc:bF c=true)(n:Nat)(hn:n<x.bH.length)(hat:ek x.bH c=n):
 xG 12 #[.agg #[lv,ov,rv,x.next],Qu c] w λu w'=>∃(wv:bt)(S:List Int)(ls:List cm),u= .tuple #[wv,xI 0]/\aS M w' wv (dW n ls)/\(∀y,y∈S↔Mk.wD (cV x) (dT x) y)/\Jg x S x.bN.length ls:=by
 have HM:=aV hM;have HLI:=ie (w:=w) (λW hb=>Qs x h M W (hM.aT hb) (hG.aT hb) lv ov rv (iH.aT hb) (hov.aT hb) (ib.aT hb));have NX:Hd (∀W,_):=λW=>FE c hc W;have QZ:Hd (∀(ls:List cm)W lv ov(rv:bt),ls.length<=1000->bC w W->aS M W lv x.bH->aS M W ov ls->rv.oneCell'=true->_):=λls W lv ov rv hl hb h1 h2 h3=>Jj x.bH (by have:=h.sch.len;omega) ls hl c n hn hat M W (hM.aT hb) lv ov rv x.next h1 h2 h3;obtain⟨la,lc,rfl,-⟩:=iH.bj;obtain⟨oa,oc,rfl,-⟩:=hov.bj;obtain⟨ra,rc,rfl,-⟩:=ib.bj;have hxl:=h.len;have ik:=aV (Bx.ei w (xK #[xL la x.bH.length lc,xL oa x.bN.length oc,xL ra x.bB.length rc,x.next] 34) (zU c));clear iH hov ib h hG hM hc hn hat;unfold zU at ik;delta xG;go_in;go_wp2_with fail;refine(HLI.o _ ik.o.1).mono ?_;rintro e w1⟨_,rfl,⟨S,ls,lv1,ov1,rv1,rfl,hS,hL,h1,h2,h3⟩,hb1⟩;have HLE:=aV (show ls.length<=1000 by have:=hL.len;omega);obtain⟨l1,m1,rfl,-⟩:=h1.bj;obtain⟨o1,p1,rfl,-⟩:=h2.bj;obtain⟨r1,s1,rfl,-⟩:=h3.bj;have cu:=aV (ik.o.aT hb1);have HL:=aV hL;have HS:=aV hS;have gS:=aV (And.intro h1 (And.intro h2 h3));clear hb1 hS hL h1 h2 h3 ik HLI;go_upto_region 2 with fail;have⟨W2,hW2⟩:=dd (w1.alloc (xK #[xL l1 x.bH.length m1,xL o1 ls.length p1,xL r1 x.bB.length s1,x.next] 34));have bZ:=aV (cu.o.alloc (xK #[xL l1 x.bH.length m1,xL o1 ls.length p1,xL r1 x.bB.length s1,x.next] 34));have nh:=aV (show bC w1 W2/\ed W2 w1 (xK #[xL l1 x.bH.length m1,xL o1 ls.length p1,xL r1 x.bB.length s1,x.next] 34)by rw[hW2];exact⟨cU,az w1 _⟩);rw[<-hW2]at bZ⊢;clear hW2;have⟨c0,c1,c2,c3,c4,c5,c6,c7,c8,c9⟩:=lS (bZ.o.cZ rfl);go_wp2_with fail;refine dx (NX.o _) λw3 hb3=> ?_;have cR:=aV (bZ.o.aT hb3);have qp:Hd (bC w1 w3/\w3.heap[w1.heap.size]? =_):=⟨nh.o.1.trans (hb3.mono nh.o.1.size),(hb3.block _ (ab.1 nh.o.2).1).trans nh.o.2⟩;clear hb3 c0 c1 c2 c3 c4 c5 c6 c7 c8 c9 nh bZ NX;have⟨c0,c1,c2,c3,c4,c5,c6,c7,c8,c9⟩:=lS (cR.o.cZ rfl);have⟨d0,d1,d2,d3⟩:=aU qp.o.2;have HFX:=aV (QZ.o ls w3 _ _ (xL r1 x.bB.length s1) HLE.o cR.o.1 (gS.o.1.aT qp.o.1) (gS.o.2.1.aT qp.o.1) rfl);go_wp2_with fail;refine(HFX.o).mono ?_;rintro e w4⟨_,rfl,⟨wv,rfl,hsl⟩,eZ⟩;have fh:=aV (cR.o.aT eZ).1;have nS:=aV hsl;obtain⟨wa,wc,rfl,-⟩:=hsl.bj;clear eZ hsl;generalize(dW n ls).length=tn at*;go_wp2;go_ret2;exact⟨_,rfl,⟨_,S,ls,rfl,nS.o,HS.o,HL.o⟩,fh.o⟩
def ZJ(x:bU)(o0:cm)(u:bt)(w':bq):Prop:=(Mk.wD (cV x) (dT x) o0.id/\∃(dB:Int)(vs:List bE)(vv:bt),u= .tuple #[.agg #[o0.id,o0.dz,dB,vv],xI 0]/\aS xF w' vv vs)\/(¬Mk.wD (cV x) (dT x) o0.id/\u= .tuple #[.agg #[xI 0,xI 0,xI 0,()],xI 101])
def KG(x:bU)(w:bq)(lv ov rv:bt)(h:fL x)(hG:Gd w)(iH:aS xF w lv x.bH)(hov:aS xF w ov x.bN)(ib:aS xF w rv x.bB)(i:Nat)(o0:cm)(h0:x.bN[i]? =some o0):
 xG 7 #[.agg #[lv,ov,rv,x.next],o0.id] w (ZJ x o0):=by
 have qM:∀W,Bd xF W:=λW i hi=>hi.elim;have hM:Bd (λ_:Nat=>False) w:=qM w;have U4:Hd (∀W,bC w W->w.heap.size+2<=W->_):=λW hb hz=>oP x h (eo xF w 2) W (dZ hM hz) (hG.aT hb) lv ov rv (iH.ev (dH hb)) (hov.ev (dH hb)) (ib.ev (dH hb));have zj:Hd (∀W lt pm,bC w W->w.heap.size+2<=W->Cl x (eo xF w 2) W lt pm->_):=λW lt pm hb hz hg=>uK x h (eo xF w 2) W (dZ hM hz) (hG.tb.aT hb) lt rv pm hg (ib.ev (dH hb));have HTD:Hd (∀W lt pm sb(S:List Int),bC w W->w.heap.size+2<=W->Cl x (eo xF w 2) W lt pm->Mk.eY W sb S->xC 23 #[.agg #[lt, .map (some pm)],o0.id, .map (some sb)] W (de W λu w'=>∃(dB:Int)(vs:List bE)(vv:bt),u= .agg #[o0.id,o0.dz,dB,vv]/\aS (eo xF w 2) w' vv vs)):=λW lt pm sb S hb hz hg hset=>by
  obtain⟨⟨ls,tP,hlen,j6⟩,es,clk,F0,zw⟩:=hg;have⟨o,ho⟩:=fg ls i (by rw[hlen];exact(ag.1 h0).1);have hl:=j6 i o ho;have⟨o1,h1,hid⟩:=hl.idn;rw[h0]at h1;cases h1;refine(Fz x h S ls i o0 o h0 ho hl (eo xF w 2) W (dZ hM hz) (hG.tb.aT hb) lt pm sb es clk tP F0 (Cl.at_ h zw h0) hset).mono ?_;rintro e w'⟨u,he,⟨vs,vv,hu,hv⟩,hb'⟩;exact⟨u,he,⟨o.dB,vs,vv,by rw[hu,hid,hl.ZI h0],hv⟩,hb'⟩
 obtain⟨la,lc,rfl,_⟩:=iH.bj;obtain⟨oa,oc,rfl,_⟩:=hov.bj;obtain⟨ra,rc,rfl,_⟩:=ib.bj;clear iH hov ib h hG qM h0 hM;have ik:=aV (Bx.ei w (dI (xL la x.bH.length lc) (xL oa x.bN.length oc) (xL ra x.bB.length rc) x.next) (xK #[xI 0,xI 0,xI 0,()] 41));have⟨c0,c1,c2,c3⟩:=aU (ik.o.cP rfl);unfold dI at ik c0 c1 c2 c3;delta xG;go_in;go_wp2_with fail;refine(U4.o _ ik.o.1 ik.o.cM).mono ?_;rintro e w1⟨_,rfl,⟨lt,pm,rfl,hg⟩,hb1⟩;have cE:∃ta tc,lt=xL ta x.bN.length tc:=by
  obtain⟨⟨ls,tP,hlen,_⟩,_⟩:=hg;have⟨ta,tc,e,_⟩:=tP.bj;rw[hlen]at e;exact⟨ta,tc,e⟩
 obtain⟨ta,tc,rfl⟩:=cE;have cu:=aV (ik.o.aT hb1);have C4:=aV hg;clear hb1 hg c0 c1 c2 c3;go_upto_region 4 with fail;have⟨W2,hW2⟩:=dd (w1.alloc (xK #[xL ta x.bN.length tc, .map (some pm)] 93));have bZ:=aV (cu.o.alloc (xK #[xL ta x.bN.length tc, .map (some pm)] 93));have nh:=aV (show bC w1 W2/\ed W2 w1 (xK #[xL ta x.bN.length tc, .map (some pm)] 93)by rw[hW2];exact⟨cU,az w1 _⟩);rw[<-hW2]at bZ⊢;clear hW2;have⟨c0,c1,c2,c3⟩:=aU (bZ.o.cP rfl);have⟨d0,d1⟩:=aZ nh.o.2;go_wp2_with fail;refine(zj.o _ _ _ bZ.o.1 bZ.o.cM (C4.o.aT nh.o.1)).mono ?_;rintro e w3⟨S,sb,rfl,hset,hmem,hb3⟩;have cR:=aV (bZ.o.aT hb3);have qp:Hd (bC w1 w3/\ed w3 w1 (xK #[xL ta x.bN.length tc, .map (some pm)] 93)):=⟨nh.o.1.trans (hb3.mono nh.o.1.size),(hb3.block _ (ab.1 nh.o.2).1).trans nh.o.2⟩;have mD:=hset.lookup o0.id;have vM:=aV (hmem o0.id);have nS:=aV hset;have⟨f0,f1,f2,f3⟩:=iS (cR.o.cZ rfl);have⟨r0,r1,r2,r3⟩:=aU (cR.o.cZ rfl);clear hb3 hset hmem c0 c1 c2 c3 d0 d1;by_cases ji:o0.id∈S;rotate_left
 .rw[show decide (o0.id∈S)=false by simpa using ji]at mD;have HNR:Hd (¬Mk.wD (cV x) (dT x) o0.id):=λh=>ji (vM.o.2 h);clear ji;go_wp2_with fail;exact ah (v:= .tuple #[.agg #[xI 0,xI 0,xI 0,()],xI 101]) (by simp[results,results7,go_sem,r0,r1,r2,r3]) rfl ⟨_,rfl, .inr ⟨HNR.o,rfl⟩,(((cR.o.1.setCell (by simp) _).setCell (by simp) _).setCell (by simp) _).setCell (by simp) _⟩
 rw[show decide (o0.id∈S)=true by simpa using ji]at mD;have zY:=aV (vM.o.1 ji);clear ji f0 f1 f2 f3 r0 r1 r2 r3;have⟨d0,d1⟩:=aZ qp.o.2;go_wp2_with fail;refine(HTD.o _ _ _ sb S cR.o.1 cR.o.cM (C4.o.aT qp.o.1) nS.o).mono ?_;rintro e w5⟨_,rfl,⟨dB,vs,vv,rfl,hvv⟩,iz⟩;have jF:=aV (cR.o.aT iz);have HF:=aV hvv;obtain⟨va,vc,rfl,_⟩:=hvv.bj;clear hvv iz mD d0 d1;have⟨r0,r1,r2,r3⟩:=aU (jF.o.cZ rfl);have⟨f0,f1,f2,f3⟩:=iS (jF.o.cZ rfl);go_wp2_with fail;refine ah (v:= .tuple #[.agg #[o0.id,o0.dz,dB,xL va vs.length vc],xI 0]) (by simp[results,results7,go_sem,r0,r1,r2,r3]) rfl ⟨_,rfl, .inl ⟨zY.o,dB,vs,_,rfl,?_⟩,?_⟩
 .exact HF.o.ev (((((fx w5).setCell (.inl (.inr ⟨by simp,by simp⟩)) _).setCell (.inl (.inr ⟨by simp,by simp⟩)) _).setCell (.inl (.inr ⟨by simp,by simp⟩)) _).setCell (.inl (.inr ⟨by simp,by simp⟩)) _)
 exact(((jF.o.1.setCell (by simp) _).setCell (by simp) _).setCell (by simp) _).setCell (by simp) _
end
end Go.Proofs.YtpjdjlnknfmfkaaGreatDoor
