/- A part; no condition. -/
import Derived.Test.YtepaofffbkfodaaGreatDoorM27
import Derived.Shelf.SlIterI.Nil
import Derived.Shelf.SortM.Plain
import Derived.Shelf.SortM.SortNone
set_option linter.all false
set_option maxHeartbeats 8000000
set_option maxRecDepth 100000
namespace Go.Proofs.YtepaofffbkfodaaGreatDoor
open Go.Proofs.Tryz
variable{S:List Int}{b:Nat}{w:ax}{cur:Array aA}{ay:Int}
section
open Go.RowKit Go.Maps Go.Sort Go.Shelf
def EV {ss:List Int}(hp:ss.Perm S)(hn:S.Nodup):Mk.LB (ss.mergeSort (λx y=>decide (x<=y)))/\∀x,x∈ss.mergeSort (λx y=>decide (x<=y))↔x∈S:=by
 have tr:∀a b c:Int,(decide (a<=b))=true->(decide (b<=c))=true->(decide (a<=c))=true:=λa b c h1 h2=>by simp only[decide_eq_true_eq]at*;exact Int.le_trans h1 h2
 have tot:∀a b:Int,(decide (a<=b)||decide (b<=a))=true:=λa b=>by simp only[Bool.or_eq_true,decide_eq_true_eq];exact Int.le_total a b
 have h1:=List.pairwise_mergeSort (le:=λx y:Int=>decide (x<=y)) tr tot ss;have h2:=(List.mergeSort_perm ss (λx y=>decide (x<=y))).trans hp;have h3:(ss.mergeSort (λx y=>decide (x<=y))).Nodup:=h2.nodup_iff.2 hn;refine⟨?_,λx=>h2.mem_iff⟩;refine(List.Pairwise.and h1 h3).imp ?_;intro a b⟨hab,hne⟩;simp only[decide_eq_true_eq]at hab;have:a≠b:=hne;omega
def PG(h:Mk.jy w b S)(hS:∀x∈S,1<=x/\x<=100000)(hl:S.length<=maxLen):
 ∃D0:DataW Unit,w.ownsMap prog 3 (plainElem prog 4) b S.length D0/\(intKeys D0).Perm S/\Maps.size D0=S.length:=by
 obtain⟨es,clk,⟨hb,h1,h2,h3⟩,rfl⟩:=h;have hrd:∀p∈es,Go.WideElems.rd (H:=Unit) prog 3 (plainElem prog 4) (Mk.AK p)=some (.int .i64 p.1, .lit (.bool true)):=λp hp=>by
  have hb:=hS p.1 (List.mem_map_of_mem hp);have hw:(Lit.int .i64 p.1).wf=true:=by
   simp only[Lit.wf,Qce,decide_eq_true_eq];have e1:IntKind.i64.min= -9223372036854775808:=by decide
   have e2:IntKind.i64.max=9223372036854775807:=by decide
   rw[e1,e2];omega
  exact Go.WideElems.rd_mk (keyOf_int_mk underlying3 hw) (plainElem_bool underlying4 true)
 have SO:(es.map Mk.AK).map (Go.WideElems.rg (H:=Unit) prog 3 (plainElem prog 4))=es.map (λp=>(Lit.int .i64 p.1,DataW.lit (.bool true))):=by
  rw[List.map_map];exact List.map_congr_left λp hp=>Go.WideElems.rg_of (hrd p hp)
 have hk:(es.map Mk.AK).map (·.key)=es.map (λp=>Value.int .i64 p.1):=by rw[List.map_map];rfl
 have sX:(es.map Mk.AK).map (·.born)=es.map (·.2):=by rw[List.map_map];rfl
 refine⟨_,⟨(es.map Mk.AK).toArray,clk,hb,⟨by simpa using hl,⟨?_,?_,?_⟩,?_⟩,by simp,rfl⟩,?_,?_⟩
 .intro x hx;obtain⟨p,hp,rfl⟩:=Qdh.1 (show x∈es.map Mk.AK from by simpa using hx);exact h3 p hp
 .show((es.map Mk.AK).map (·.born)).Nodup;rw[sX];exact h2
 .show((es.map Mk.AK).map (·.key)).Nodup;rw[hk];have:es.map (λp=>Value.int .i64 p.1)=(es.map (·.1)).map (λx=>Value.int .i64 x):=by rw[List.map_map];rfl
  rw[this];exact List.Pairwise.map _ (λa b hab e=>hab (by simpa using e)) h1
 .intro x hx;obtain⟨p,hp,rfl⟩:=Qdh.1 (show x∈es.map Mk.AK from by simpa using hx);exact⟨_,hrd p hp⟩
 .show(((((es.map Mk.AK).map _).foldr DataW.insert [])).map λp=>Go.intOf p.1).Perm _;refine((Go.WideShapes.sorted_perm _).map _).trans ?_;rw[SO,List.map_map];exact List.Perm.of_eq rfl
 .rw[Maps.size_eq];have:=(Go.WideShapes.sorted_perm ((es.map Mk.AK).map (Go.WideElems.rg (H:=Unit) prog 3 (plainElem prog 4)))).length_eq;simpa using this
def AV:Go.Shelf.Ren:=⟨λ|7=>23|10=>60|n=>n,λ|23=>96|26=>3|3=>4|28=>94|0=>0|27=>93|33=>129|4=>4|n=>n,λ|n=>n⟩
def Tv:Go.Proofs.SlLaysZI.n7 prog AV:={
 mixed:=by kernel_rfl
 f7:=⟨Tryz.f23.name,by decide,Tryz.func23.trans (by kernel_rfl)⟩
 f10:=⟨Tryz.f60.name,by decide,Tryz.func60.trans (by kernel_rfl)⟩
 t0:=underlying0
 a0:=isAgg0
 z0:=sizeOf0
 v0:=zeroValue0
 t4:=underlying4
 a4:=isAgg4
 z4:=sizeOf4
 v4:=zeroValue4
 t23:=underlying96
 a23:=isAgg96
 z23:=sizeOf96
 v23:=zeroValue96
 t26:=underlying3
 a26:=isAgg3
 z26:=sizeOf3
 v26:=zeroValue3
 t27:=underlying93
 a27:=isAgg93
 z27:=sizeOf93
 v27:=zeroValue93
 t28:=underlying94
 a28:=isAgg94
 z28:=sizeOf94
 v28:=zeroValue94
 t33:=underlying129
 a33:=isAgg129
 z33:=sizeOf129
 v33:=zeroValue129}
def ve:Go.Shelf.Ren:=⟨λ|6=>22|8=>58|9=>59|11=>129|13=>131|12=>130|23=>196|24=>197|14=>187|15=>188|16=>189|17=>190|18=>191|19=>192|20=>193|21=>194|22=>195|25=>248|26=>249|27=>250|28=>251|29=>252|30=>148|31=>282|n=>n,λ|26=>3|28=>94|24=>27|0=>0|3=>3|37=>216|48=>279|50=>281|4=>4|40=>272|39=>271|45=>63|5=>5|9=>9|51=>329|55=>333|57=>366|58=>367|33=>129|n=>n,λ|n=>n⟩
def Sc:Go.Proofs.SlLaysZI.n6 prog ve:={
 mixed:=by kernel_rfl
 f6:=⟨Tryz.f22.name,by decide,Tryz.func22.trans (by kernel_rfl)⟩
 f8:=⟨Tryz.f58.name,by decide,Tryz.func58.trans (by kernel_rfl)⟩
 f11:=⟨Tryz.f129.name,by decide,Tryz.func129.trans (by kernel_rfl)⟩
 t0:=underlying0
 a0:=isAgg0
 z0:=sizeOf0
 v0:=zeroValue0
 t24:=underlying27
 a24:=isAgg27
 z24:=sizeOf27
 v24:=zeroValue27
 t26:=underlying3
 a26:=isAgg3
 z26:=sizeOf3
 v26:=zeroValue3
 t28:=underlying94
 a28:=isAgg94
 z28:=sizeOf94
 v28:=zeroValue94
 i26:=by kernel_rfl}
def Mi:Go.Shelf.Ren:=⟨λ|5=>59|8=>131|7=>130|19=>196|20=>197|10=>187|11=>188|12=>189|13=>190|14=>191|15=>192|16=>193|17=>194|18=>195|30=>248|31=>249|32=>250|33=>251|34=>252|35=>148|40=>282|n=>n,λ|23=>27|25=>3|3=>3|32=>216|22=>27|0=>0|44=>279|46=>281|4=>4|36=>272|35=>271|41=>63|5=>5|9=>9|53=>329|57=>333|63=>366|64=>367|n=>n,λ|n=>n⟩
def Tw:Go.Proofs.SlLaysM.n5 prog Mi:={
 mixed:=by kernel_rfl
 f5:=⟨Tryz.f59.name,by decide,Tryz.func59.trans (by kernel_rfl)⟩
 f7:=⟨Tryz.f130.name,by decide,Tryz.func130.trans (by kernel_rfl)⟩
 f8:=Tryz.func131.trans (by kernel_rfl)
 f10:=⟨Tryz.f187.name,by decide,Tryz.func187.trans (by kernel_rfl)⟩
 f11:=⟨Tryz.f188.name,by decide,Tryz.func188.trans (by kernel_rfl)⟩
 f12:=⟨Tryz.f189.name,by decide,Tryz.func189.trans (by kernel_rfl)⟩
 f13:=⟨Tryz.f190.name,by decide,Tryz.func190.trans (by kernel_rfl)⟩
 f14:=⟨Tryz.f191.name,by decide,Tryz.func191.trans (by kernel_rfl)⟩
 f15:=⟨Tryz.f192.name,by decide,Tryz.func192.trans (by kernel_rfl)⟩
 f16:=⟨Tryz.f193.name,by decide,Tryz.func193.trans (by kernel_rfl)⟩
 f17:=⟨Tryz.f194.name,by decide,Tryz.func194.trans (by kernel_rfl)⟩
 f18:=⟨Tryz.f195.name,by decide,Tryz.func195.trans (by kernel_rfl)⟩
 f19:=Tryz.func196.trans (by kernel_rfl)
 f20:=Tryz.func197.trans (by kernel_rfl)
 f30:=⟨Tryz.f248.name,by decide,Tryz.func248.trans (by kernel_rfl)⟩
 f31:=Tryz.func249.trans (by kernel_rfl)
 f32:=Tryz.func250.trans (by kernel_rfl)
 f33:=⟨Tryz.f251.name,by decide,Tryz.func251.trans (by kernel_rfl)⟩
 f34:=⟨Tryz.f252.name,by decide,Tryz.func252.trans (by kernel_rfl)⟩
 f35:=⟨Tryz.f148.name,by decide,Tryz.func148.trans (by kernel_rfl)⟩
 f40:=⟨Tryz.f282.name,by decide,Tryz.func282.trans (by kernel_rfl)⟩
 t0:=underlying0
 a0:=isAgg0
 z0:=sizeOf0
 v0:=zeroValue0
 t3:=underlying3
 a3:=isAgg3
 z3:=sizeOf3
 v3:=zeroValue3
 t4:=underlying4
 a4:=isAgg4
 z4:=sizeOf4
 v4:=zeroValue4
 t5:=underlying5
 a5:=isAgg5
 z5:=sizeOf5
 v5:=zeroValue5
 t9:=underlying9
 a9:=isAgg9
 z9:=sizeOf9
 v9:=zeroValue9
 t22:=underlying27
 a22:=isAgg27
 z22:=sizeOf27
 v22:=zeroValue27
 t23:=underlying27
 a23:=isAgg27
 z23:=sizeOf27
 v23:=zeroValue27
 t25:=underlying3
 a25:=isAgg3
 z25:=sizeOf3
 v25:=zeroValue3
 t32:=underlying216
 a32:=isAgg216
 z32:=sizeOf216
 v32:=zeroValue216
 t35:=underlying271
 a35:=isAgg271
 z35:=sizeOf271
 v35:=zeroValue271
 t36:=underlying272
 a36:=isAgg272
 z36:=sizeOf272
 v36:=zeroValue272
 t41:=underlying63
 a41:=isAgg63
 z41:=sizeOf63
 v41:=zeroValue63
 t44:=underlying279
 a44:=isAgg279
 z44:=sizeOf279
 v44:=zeroValue279
 t46:=underlying281
 a46:=isAgg281
 z46:=sizeOf281
 v46:=zeroValue281
 t53:=underlying329
 a53:=isAgg329
 z53:=sizeOf329
 v53:=zeroValue329
 t57:=underlying333
 a57:=isAgg333
 z57:=sizeOf333
 v57:=zeroValue333
 t63:=underlying366
 a63:=isAgg366
 z63:=sizeOf366
 v63:=zeroValue366
 t64:=underlying367
 a64:=isAgg367
 z64:=sizeOf367
 v64:=zeroValue367}
def Vm(m:Nat):AnyZI.SortsIn prog ve Fence.wide m:=
 ⟨λblk off cap ss W hH hblk hsz=>callsIn_wide.2 (AnyM.slices_Sort_int Tw blk off cap ss W hH hblk hsz),
  λp cap W=>callsIn_wide.2 (AnyM.slices_Sort_int_none Tw p cap W)⟩
def Iv(mb:Option Nat)(W:ax):xC 23 #[.map mb] W λe w'=>e=xR (.func (.func 60) #[] #[xP W.heap.size])/\w'=W.alloc (xK #[.map mb] 96):=
 callsIn_wide.1 (AnyZI.keys_in Tv Fence.wide 5 trivial rfl mb W)
def Cc(W:ax)(sb:Nat)(S:List Int)(h:Mk.jy W sb S)(hS:∀x∈S,1<=x/\x<=100000)(hl:S.length<=1000):
 xC 22 #[.func (.func 60) #[] #[xP W.heap.size]] (W.alloc (xK #[.map (some sb)] 96)) λe w'=>∃(v:aA)(L:List Int),e=xR v/\ab (α:=Int) xF w' v L/\Mk.LB L/\(∀n,n∈L↔n∈S)/\aC W w':=by
 have SF:=h.nodup;have hbl:=h.lt;have⟨D0,hown,hper,hsz⟩:=PG h hS (by unfold maxLen;omega);have Qr:SeqGives Fence.wide 2 prog 60 #[xP W.heap.size] encZ (λss=>ss.Perm (intKeys D0)) (Maps.size D0) (W.alloc (xK #[.map (some sb)] 96)):=
  AnyZI.keys_gives (ρ:=AV) {Tv with} Fence.wide _ trivial rfl (by omega) W sb S.length D0 _ (by simp) (by simp) (by
   obtain⟨es,clock,hb,Ft,hs,hD⟩:=hown;exact⟨es,clock,(Qcb _ _ sb hbl).trans hb,Ft,hs,hD⟩);have cS:=AnyZI.sorted_in Sc Fence.wide 5 trivial trivial trivial trivial rfl (by omega) (Vm _) (by first|exact enters_of func59 (by kernel_rfl) rfl|exact enters_of func129 (by kernel_rfl) rfl) 60 #[xP W.heap.size] trivial (enters_of func60 (by kernel_rfl) rfl) _ _ (by rw[hsz];unfold maxLen;omega) (by rw[hsz];omega) _ Qr;change CallsIn _ _ prog 22 _ _ _ at cS;refine(callsIn_wide.1 cS).mono ?_;rintro e w'⟨v,ss,rfl,hp,Ta,_,hb⟩;have⟨hr1,hr2⟩:=EV (hp.trans hper) SF;refine⟨v,ss.mergeSort (λx y=>decide (x<=y)),rfl,?_,hr1,hr2,bU.trans (hb.mono (by simp))⟩;have fl:∀l:List Int,(l.map (λx=>[Value.int .i64 x])).flatten=l.map encZ:=λl=>by
  induction l with
  |nil=>rfl
  |cons a r ih=>simp only[List.map_cons,List.flatten_cons,ih];rfl
 refine⟨(ss.mergeSort (λx y=>decide (x<=y))).map (λx=>[Value.int .i64 x]),?_,by simp,λi cs x hcs hx=> ?_⟩
 .rw[fl,List.length_mergeSort];exact(ct.FQ Ta).mono λj hj _ Ze=>Ze
 .rw[List.getElem?_map,hx]at hcs;simp at hcs;exact hcs.symm
def AW(x:aW)(w:ax)(lv ov rv:aA)(h:gx x)(hG:Gd w)(js:ab xF w lv x.aK)(kM:ab xF w ov x.aP)(iM:ab xF w rv x.aF):
 xG 7 #[.agg #[lv,ov,rv,x.next]] w λu w'=>∃(L:List Int)(wv:aA),u= .tuple #[wv,xI 0]/\ab (α:=Int) xF w' wv L/\Mk.LB L/\∀n,n∈L↔Mk.D9 (cE x) (de x) n:=by
 have sU:∀W,Bd xF W:=λW i hi=>hi.elim;have Yl:=gQ (w:=w) (λW hb=>qT x h xF W (sU W) (hG.ae hb) lv ov rv (js.ae hb) (kM.ae hb) (iM.ae hb));have Cr:Hd (∀W lt pm,aC w W->Cz x xF W lt pm->_):=λW lt pm hb hg=>AU x h xF W (sU W) (hG.tb.ae hb) lt rv pm hg (iM.ae hb);have FF:Hd (∀S:List Int,(∀n,n∈S↔Mk.D9 (cE x) (de x) n)->∀W sb,Mk.jy W sb S->_):=λS hS W sb hs=>Cc W sb S hs (λy hy=>by
  obtain⟨o,ho,rfl⟩:=Qdh.1 (h.closed.RW ((hS y).1 hy));have⟨i,hi⟩:=Qdg ho;have⟨h1,h2,_⟩:=h.aP i o hi;have:=h.next;omega) (by
  have h1:=im (cA x.aP) S hs.nodup (λy hy=>h.closed.RW ((hS y).1 hy));unfold cA at h1;rw[Qdc]at h1;have:=h.len;omega);obtain⟨la,lc,rfl,_⟩:=js.aq;obtain⟨oa,oc,rfl,_⟩:=kM.aq;obtain⟨ra,rc,rfl,_⟩:=iM.aq;have⟨c0,c1,c2,c3⟩:=af ((Bx.eI w (cT (xL la x.aK.length lc) (xL oa x.aP.length oc) (xL ra x.aF.length rc) x.next)).bO rfl);have iW:=ag (Bx.eI w (cT (xL la x.aK.length lc) (xL oa x.aP.length oc) (xL ra x.aF.length rc) x.next));go_enter func7,ntmps7;go_wp2_with fail;refine(Yl.o _ iW.o.1).mono ?_;rintro e w1⟨_,rfl,⟨lt,pm,rfl,hg⟩,hb1⟩;have bH:∃ta tc,lt=xL ta x.aP.length tc:=by
  obtain⟨⟨ls,zJ,hlen,_⟩,_⟩:=hg;have⟨ta,tc,e,_⟩:=zJ.aq;rw[hlen]at e;exact⟨ta,tc,e⟩
 obtain⟨ta,tc,rfl⟩:=bH;have bz:=ag (iW.o.ae hb1);have MM:=ag hg;have bg:=ag (bz.o.alloc (jl (xL ta x.aP.length tc) pm));have⟨c0,c1,c2,c3⟩:=af (bg.o.bO rfl);have⟨d0,d1⟩:=ak (Qbh w1 (jl (xL ta x.aP.length tc) pm));unfold jl at c0 c1 c2 c3 d0 d1;go_wp2_with fail;refine(Cr.o _ _ _ bg.o.1 (MM.o.ae bU)).mono ?_;rintro e w3⟨S,sb,rfl,hset,jr,hb3⟩;have bV:=ag (bg.o.ae hb3);have lM:=ag (FF.o S jr w3 sb hset);have HME:=ag jr;go_wp2_with fail;refine(Iv _ _).mono ?_;rintro e w4⟨rfl,rfl⟩;go_wp2_with fail;refine(lM.o).mono ?_;rintro e w5⟨v,L,rfl,hs,Q5,hm,iL⟩;have hs':=hs;obtain⟨va,vc,rfl,_⟩:=hs'.aq;have H5:Hd (ab (α:=Int) xF w5 (xL va L.length vc) L/\Mk.LB L/\(∀n,n∈L↔n∈S)/\aC w w5):=⟨hs,Q5,hm,(bV.o.ae iL).1⟩;go_wp2;go_ret2;exact⟨_,rfl,⟨L,_,rfl,H5.o.1,H5.o.2.1,λn=>(H5.o.2.2.1 n).trans (HME.o n)⟩,H5.o.2.2.2⟩
end
section
open Go.RowKit Go.Shelf
def My(x:aW)(M:aV)(w:ax)(lv ov rv:aA)(sT:lv.oneCell'=true)(hoo:ov.oneCell'=true)(ai:aY)(iM:ab M w rv x.aF):
 xC 11 #[.agg #[lv,ov,rv,x.next],ai] w λe w'=>(∃(n:Int)(b:Bool),e=xR (.tuple #[n,b])/\(b=true->∃r∈x.aF,r.ai=ai/\n=r.id)/\(b=false->∀r∈x.aF,r.ai≠ai))/\aC w w':=by
 have HR:Hd (∀i r,x.aF[i]? =some r->_):=λi r hr=>gw iM hr;obtain⟨ra,rc,rfl,Qh,V0,_⟩:=iM.aq;have⟨m,hmr⟩:=jN (x.aF.length);have Bf:=ag hmr;rw[hmr]at Qh⊢;clear iM hmr;go_enter func11,ntmps11;go_wp2;go_loopg [4,5,7,11]m(λg r4 r5 _ iv wr=>∃j:Nat,j<=m/\g=m-j/\iv=xI j/\r4=xI 0/\r5=xB false/\Hd (Bx w [xK #[lv,ov,xL ra m rc,x.next] 35] wr)/\Hd (∀r∈x.aF.take j,r.ai≠ai));case atStart=>exact⟨0,Qbf _,rfl,rfl,rfl,rfl,(Bx.eI w _),ag λr hr=>by simp at hr⟩
 case round=>
  obtain⟨j,hj,rfl,rfl,rfl,rfl,HB,HN⟩:=hrel;by_cases bH:j<m
  .have⟨r,hr⟩:=eG x.aF j (by rw[Bf.o];exact bH);have⟨b,off,cap,hv,hbl,_,hcells⟩:=HR.o j r hr;obtain⟨rfl,rfl⟩:=iY hv;have⟨g0,g1⟩:=hcells _ HB.o.1;have HME:=ag (Qaf hr);have tj:Hd (r.ai≠ai->∀q∈x.aF.take (j+1),q.ai≠ai):=λhne q hq=>by
    rw[Qbb,hr]at hq;rcases Qch.1 hq with hq|hq
    .exact HN.o q hq
    .simp at hq;rw[hq];exact hne
   clear hv hcells hr;by_cases hq:(r.ai.toList==ai.toList)=true
   .have HQ:=ag (qP (show cq r.ai ai=true from hq));go_wp2;go_ret2;exact⟨⟨_,true,rfl,λ_=>⟨r,HME.o,HQ.o,rfl⟩,λh=>by cases h⟩,(HB.o.alloc _).1⟩
   .have HQ:Hd (r.ai≠ai):=λe=>hq (by rw[e];simp);go_wp2;go_roundg(m-(j+1));case measure=>omega
    case rel=>exact⟨j+1,by omega,rfl,by go_num,rfl,rfl,ag (HB.o.alloc _),ag (tj.o HQ.o)⟩
  .have HA:=HN.o;rw[Qah (by rw[Bf.o];omega)]at HA;have HA:=ag HA;go_wp2;go_ret2;exact⟨⟨0,false,rfl,λh=>(by cases h),λ_=>HA.o⟩,HB.o.1⟩
def Mz(k n:Int)(s:aY)(a:fx)(m c:Nat)(pl:aA)(hk:k≠4)(w:ax):
 xC 162 #[.agg #[k,n,s,xL a m c],pl] w (cu (.agg #[k,n,s,xL a m c]) w):=by
 have h4:(k==4)=false:=by simpa using hk
 have⟨W,hW⟩:=bY ((w.alloc (xK #[k,n,s,xL a m c] 44)).alloc (xK iE 44));have HB:=ag (Bx.du w (xK #[k,n,s,xL a m c] 44) (xK iE 44));rw[<-hW]at HB;have⟨r0,r1,r2,r3⟩:=af (HB.o.bO rfl);have⟨e0,e1,e2,e3⟩:=af (HB.o.cg rfl);have⟨g0,g1,g2,g3⟩:=hZ (HB.o.cg rfl);have IV:Hd (∀a b c d,aC w ((((W.setCell ([w],0) a).setCell ([w],1) b).setCell ([w],2) c).setCell ([w],3) d)):=λa b c d=>(((HB.o.1.setCell (by simp) _).setCell (by simp) _).setCell (by simp) _).setCell (by simp) _;clear hk HB;go_enter func162,ntmps162;go_upto_region 1 with fail;rw[<-hW];clear hW;go_wp2_with fail;refine Qae (v:= .agg #[k,n,s,xL a m c]) (by simp[results,results162,go_sem,e0,e1,e2,e3]) rfl ⟨rfl,IV.o _ _ _ _⟩
def IH(a:fx)(c:Nat)(gf:Nat)(lb:Array aA)(w:ax)(eg:∀args w,(callFunc gf args).run prog w= .ok (.enter gf args) w)(h:ab (α:=Int) xF w (xL a 0 c) []):
 xC 93 #[xL a 0 c, .func (.func gf) #[] lb] w (cu (xL a 0 c) w):=by
 have HI:=ag (Af gf lb eg [] xF (xL a 0 c) w h (λx hx=>by cases hx));clear h;go_enter func93,ntmps93;go_wp2_with fail;refine HI.o.mono ?_;rintro e w1⟨rfl,hb1⟩;have HB:=ag hb1;clear hb1;go_wp2;go_ret;exact⟨rfl,HB.o⟩
def Sp(h:cur.size=4){a b c d:aA}(h0:cur[0]? =some a)(h1:cur[1]? =some b)(h2:cur[2]? =some c)(h3:cur[3]? =some d):cur= #[a,b,c,d]:=by
 obtain⟨l⟩:=cur;match l,h with
 |[_,_,_,_],_=>
  simp at h0 h1 h2 h3;rw[h0,h1,h2,h3]
def MA {fs:List aH}(id cL cQ k n:Int)(s:ByteArray)(hk:k≠4/\k≠5)(h:bA fs ay [aJ.mk k n s []])(M:Nat->Prop)(w:World)(v:Value)(hM:Bd M w)(hs:ab M w v [aJ.mk k n s []])(aa:Option Addr)(ac:Nat):
 xG 96 #[.agg #[id,cL,cQ,v],xL aa 0 ac] w λu w'=>∃v',u= .agg #[id,cL,cQ,v']/\ab M w' v' [aJ.mk k n s []]:=by
 have HFO:Hd (∀W,aC w W->w.heap.size+4<=W->_):=λW hb hz=>uY (x:=⟨id,cL,cQ,[aJ.mk k n s []]⟩) h (by simp) (dX M w 4) W v (dt hM hz) (hs.ev (dj hb));have Cs:∀(fn:Fn)(au cap:Array Value)(w:World),(Instr.makeFunc fn au cap).run prog w= .ok (.func fn au cap) w:=λ_ _ _ _=>rfl;have hmk:=λw=>eM 96 w;have h5:(k==5)=false:=by simpa using hk.2
 have VZ:Hd (∀a m c pl W,_):=λa m c pl W=>Mz k n s a m c pl hk.1 W;have T9:=ag hM;obtain⟨va,vc,rfl,_⟩:=hs.aq;clear hs h hk hM;dsimp only[List.length_cons,List.length_nil,Nat.reduceAdd]at*;have HX:=ag (Bx.KE w (xK #[id,cL,cQ,xL va 1 vc] 66) (xK #[xI 0,xI 0,xI 0,()] 66) (.map #[] 0) (xK #[.map (some [w,w])] 96));go_enter func96,ntmps96;go_upto_region 2 with fail;have⟨W1,hW1⟩:=bY ((((w.alloc (xK #[id,cL,cQ,xL va 1 vc] 66)).alloc (xK #[xI 0,xI 0,xI 0,()] 66)).alloc (.map #[] 0)).alloc (xK #[.map (some [w,w])] 96));rw[<-hW1]at HX;rw[<-hW1];clear hW1;have Cy:=ag (show w.heap.size+4<=W1 by have:=HX.o.bQ;simpa using this);go_wp2;go_loopg [7,16]0(λg _ iv wr=>g=0/\iv=xI 0/\wr=W1);case atStart=>exact⟨rfl,rfl,rfl⟩
 case round=>
  obtain⟨rfl,rfl,rfl⟩:=hrel;have⟨c0,c1,c2,c3⟩:=af (HX.o.bO rfl);go_wp2_with fail;refine(HFO.o _ HX.o.1 Cy.o).mono ?_;rintro e w2⟨_,rfl,⟨za,rfl,Uf⟩,bE⟩;have eZ:=ag (HX.o.ae bE);obtain⟨B,a',rfl,hB⟩:∃B a',za=some ⟨B,0,none⟩/\w.heap.size+4<=B/\B<w2.heap.size/\s.size<=maxLen/\w2.heap[B]? =some (xK #[k,n,s,xL a' 0 0] 44):=by
   have hz:=Cy.o;rcases Uf wr (by omega)with⟨e,_⟩|⟨B,_,hB,hv,sq,cur,h1,h2,h3,h4,h5,h6,h7⟩
   .cases e
   .obtain⟨q0,q1,q2,q3,p0,p1,p2,p3,kk,nn,t,l,a,e,ht,hcs,-⟩:=h7 0 _ rfl;cases e;have qe5:=Sp (by simpa using h2) p0 p1 p2 p3;simp only[List.cons.injEq,and_true]at hcs;obtain⟨rfl,rfl,rfl,rfl⟩:=hcs;refine⟨B,a,by simpa using hv,by omega,(Qaa.1 h1).1,ht,?_⟩;rw[h1,qe5];rfl
  have HBH:=ag hB;clear Uf bE hB c0 c1 c2 c3;dsimp only[List.length_cons,List.length_nil,Nat.reduceAdd]at*;have⟨c0,c1,c2,c3⟩:=af (eZ.o.bO rfl);have⟨f0,f1,f2,f3⟩:=hZ (eZ.o.bO rfl);go_upto_region 9 with fail;have⟨W3,hW3⟩:=bY ((((w2.setCell (w,0) id).setCell (w,1) cL).setCell (w,2) cQ).setCell (w,3) (xL (B,0) 1 1));have ky:=ag (show Bx w [xK #[id,cL,cQ,xL (B,0) 1 1] 66,xK #[xI 0,xI 0,xI 0,()] 66, .map #[] 0,xK #[.map (some [w,w])] 96] W3 by
   have h1:=(((eZ.o.set 0 0 (v:=xI id) rfl).set 0 1 (v:=xI cL) rfl).set 0 2 (v:=xI cQ) rfl).set 0 3 (v:=xL (B,0) 1 1) rfl;rw[hW3];simpa using h1);have bV:=ag (show W3.heap[B]? =some (xK #[k,n,s,xL a' 0 0] 44)by
   have hb:=HBH.o;rw[hW3,Qag _ _ _ _ (by simp;omega),Qag _ _ _ _ (by simp;omega),Qag _ _ _ _ (by simp;omega),Qag _ _ _ _ (by simp;omega)];exact hb.2.2.2);rw[<-hW3];clear hW3 c0 c1 c2 c3 f0 f1 f2 f3;have⟨c0,c1,c2,c3⟩:=af (ky.o.bO rfl);go_wp2_with fail;refine wp_loop_rounds 2 ?_;rw[rounds_succ];have⟨g0,g1,g2,g3⟩:=af bV.o;go_upto_region 12 with fail;have⟨W4,hW4⟩:=bY (W3.alloc (xK #[k,n,s,xL a' 0 0] 44));have ek:=ag (show aC W3 W4 by rw[hW4];exact bU);have Uq:=ag (show W4.heap[W3.heap.size]? =some (xK #[k,n,s,xL a' 0 0] 44)by rw[hW4];exact Qbh W3 _);rw[<-hW4];clear hW4 c0 c1 c2 c3 g0 g1 g2 g3;refine' lu 7 ?hl ?hm ?hB1 ?hB ?hh;case hl=>exact rfl
  case hm=>kernel_rfl
  case hB1=>kernel_rfl
  case hB=>kernel_rfl
  intro ι _ F jM yW;have hkl:=(Qaa.1 Uq.o).1;have HXF:Hd (∀j,Bx w _ (F j)):=λj=>ky.o.ae (ek.o.trans ((jM j).mono ek.o.size));have s0:=λj=>(af ((HXF.o j).bO rfl)).2.2.2;have s1:=λj=>(af (((jM j).block _ hkl).trans Uq.o)).1;have s2:=λj=>(af (((jM j).block _ hkl).trans Uq.o)).2.1;have s3:=λj=>(af (((jM j).block _ hkl).trans Uq.o)).2.2.1;have s4:=λj=>(af (((jM j).block _ hkl).trans Uq.o)).2.2.2;have jq:=ag jM;have yL:=ag yW;clear jM yW;simp only[List.take_succ_cons,List.take_zero,Act.put,List.setIfInBounds_toArray,List.set_cons_zero,List.set_cons_succ];repeat(go_big_quiet_step(first
   |(go_at_call 162;refine(VZ.o _ _ _ _ _).mono ?_;rintro e w3⟨rfl,hb3⟩;exact⟨rfl,yL.o _ ((jq.o _).trans (hb3.mono (jq.o _).size))⟩)))
  refine wpQuiet_nil ?_;rintro _⟨nq,rfl⟩;have HBn:Hd (aC W4 (F nq)):=jq.o nq;have HXn:=ag (HXF.o nq);have⟨wn,hwn⟩:=jN (F nq);rw[hwn]at HBn HXn⊢;clear s0 s1 s2 s3 s4 hwn HXF;have sX:wn.heap[B]? =some (xK #[k,n,s,xL a' 0 0] 44):=((ek.o.trans (HBn.o.mono ek.o.size)).block B (Qaa.1 bV.o).1).trans bV.o;have HKn:Hd (wn.heap[W3.heap.size]? =some (xK #[k,n,s,xL a' 0 0] 44)):=(HBn.o.block _ hkl).trans Uq.o;have ni:=ag sX;have⟨v0,v1,v2,v3⟩:=af sX;have⟨y0,y1,y2,y3⟩:=hZ sX;clear sX hkl;go_simp;go_upto_region 13 with fail;have⟨W5,hW5⟩:=bY ((((wn.setCell (B,0) k).setCell (B,1) n).setCell (B,2) s).setCell (B,3) (xL a' 0 0));have iU:=ag (show W5.heap[B]? =some (xK #[k,n,s,xL a' 0 0] 44)by
   have h1:=Qca wn B 0 _ _ k ni.o;have h2:=Qca _ B 1 _ _ n h1;have h3:=Qca _ B 2 _ _ s h2;have h4:=Qca _ B 3 _ _ (xL a' 0 0) h3;rw[hW5];simpa using h4);have Cm:=ag (show ao (λj=>j=B) wn W5 by
   rw[hW5];exact((((ao.refl (λj=>j=B) wn).setCell (.inl rfl) _).setCell (.inl rfl) _).setCell (.inl rfl) _).setCell (.inl rfl) _);have Cx:Hd (W5.heap[W3.heap.size]? =some (xK #[k,n,s,xL a' 0 0] 44)):=(Cm.o.block _ (Qaa.1 HKn.o).1 (λe=>by have h:=(Qaa.1 bV.o).1;have e:W3=B:=e;omega)).trans HKn.o;have lE:Hd (Bx w _ W5):=HXn.o.only Cm.o (λj hj=>by have hj:j=B:=hj;have h:=HBH.o.1;simp;omega);rw[<-hW5];clear hW5 v0 v1 v2 v3 y0 y1 y2 y3;have e0:=(af Cx.o).1;have⟨x0,x1,x2,x3⟩:=af (lE.o.bO rfl);have⟨r0,r1,r2,r3⟩:=af (lE.o.cg rfl);have⟨g0,g1,g2,g3⟩:=hZ (lE.o.cg rfl);go_wp2_with fail;rw[rounds_succ];go_wp2_with fail;refine Qae (v:= .agg #[id,cL,cQ,xL (B,0) 1 1]) (by simp[results,results96,go_sem,r0,r1,r2,r3]) rfl ⟨_,rfl,⟨_,rfl,?_⟩,?_⟩
  .have hBM:¬dX M w 4 B:=λh=>by have h2:=HBH.o.1;rcases h with h|h;have h1:=T9.o B h;omega;omega
   have h1:ab (dX M w 4) W5 (xL (B,0) 1 1) [aJ.mk k n s []]:=by
    refine lp (xs:=[aJ.mk k n s []]) (by simp) (by unfold maxLen;simp) hBM (Qaa.1 iU.o).1 λi x hx=> ?_;cases i with
    |succ i=>simp at hx
    |zero=>
     simp at hx;subst hx;refine⟨_,eU.iff.2 ⟨_,rfl,⟨[],⟨rfl,a',0,rfl,bT,by unfold maxLen;omega,λh=>by simp at h⟩,rfl,λi cs x h=>by simp at h⟩,HBH.o.2.2.1⟩,λj u hu=> ?_⟩;(try unfold bJ);simp only[World.cell?,iU.o];simpa using hu
   exact h1.ev (((((eK W5).setCell (.inl (.inr ⟨by simp,by simp⟩)) _).setCell (.inl (.inr ⟨by simp,by simp⟩)) _).setCell (.inl (.inr ⟨by simp,by simp⟩)) _).setCell (.inl (.inr ⟨by simp,by simp⟩)) _)
  .exact(((lE.o.1.setCell (by simp) _).setCell (by simp) _).setCell (by simp) _).setCell (by simp) _
def Ci(o:bF):Prop:=∃(k n:Int)(s:aY),o.aZ=[aJ.mk k n s []]/\k≠4/\k≠5
def P2(x:aW)(h:gx x)(i:Nat)(o0:bF)(h0:x.aP[i]? =some o0)(vN:∀o,il x i o->Ci o)(M:aV)(w:ax)(hM:Bd M w)(hT:Tb w)(lv:aA)(pm sb:Nat)(hg:Cz x M w lv pm):
 xG 39 #[.agg #[lv, .map (some pm)],o0.id, .map (some sb)] w λu w'=>∃(o:bF)(vv:aA),il x i o/\u= .agg #[o.id,o.cL,o.cQ,vv]/\ab M w' vv o.aZ:=by
 obtain⟨⟨ls,zJ,hlen,hall⟩,es,clk,MZ,hes⟩:=hg;have⟨o,ho⟩:=eG ls i (by rw[hlen];exact(Qad.1 h0).1);have ki:=hall i o ho;have⟨fs,hvo,h8⟩:=ki.aZ h;have⟨k,n,s,hvs1,hk⟩:=vN o ki;have hat:=Cz.at_ h hes h0;have h10:=h.len;obtain⟨b,off,cap,va,vc,rfl,hbl,hvs,hcells⟩:=iJ zJ ho;have vZ:i<ls.length:=(Qad.1 ho).1;have⟨W1,hW1⟩:=bY ((((w.alloc (xK #[xL (b,off) ls.length cap, .map (some pm)] 89)).alloc (xK #[.map (some sb)] 96)).alloc (xK #[xI 0,xI 0,xI 0,()] 66)));have bz:=ag (Bx.gj w (xK #[xL (b,off) ls.length cap, .map (some pm)] 89) (xK #[.map (some sb)] 96) (xK #[xI 0,xI 0,xI 0,()] 66));have hz1:W1.heap.size=[w,w,w]:=by rw[hW1];simp
 rw[<-hW1]at bz;rw[hvs1]at hvs hcells;have bg:Hd (Bx w [xK #[xL (b,off) ls.length cap, .map (some pm)] 89,xK #[.map (some sb)] 96,xK #[xI 0,xI 0,xI 0,()] 66,xK #[o.id,o.cL,o.cQ,xL va 1 vc] 66] (W1.alloc (xK #[o.id,o.cL,o.cQ,xL va 1 vc] 66))):=bz.o.snoc (by simpa using hz1) _;have hv4:o.aZ.flatMap (cr 4)=[]:=by
  rw[hvs1];have:(aJ.mk k n s []).an=k:=rfl;simp[cr,hk.1,aJ.an,aJ.list]
 have HWK:=gQ (w:=w) (λW hb=>Jv 4 94 (.inr ⟨rfl,rfl⟩) o 100000 (Int.le_refl _) fs hvo h8 M W (hM.ae hb) (xL va 1 vc) (by rw[hvs1];exact hvs.ae hb) (hT.ae hb));rw[hv4]at HWK;have HDL:Hd (∀W a c,ab (α:=Int) xF W (xL a 0 c) []->_):=λW a c hs=>IH a c 95 #[xP [w]] W (enters_of func95 (by kernel_rfl) rfl) hs;have lM:Hd (∀W aa ac,aC w W->w.heap.size+4<=W->_):=λW aa ac hb hz=>MA o.id o.cL o.cQ k n s hk (by rw[<-hvs1];exact hvo) (dX M w 4) W (xL va 1 vc) (dt hM hz) (hvs.ev (dj hb)) aa ac;have pM:=yz (w:=W1) ((bz.o.1.block _ (Qaa.1 MZ).1).trans MZ) o0.id _ hat;have⟨g0,g1,g2,g3⟩:=hcells W1 bz.o.1;have⟨k0,k1⟩:=ak (bz.o.bO rfl);have Cs:∀(fn:Fn)(au cap:Array aA)(w:ax),(Instr.makeFunc fn au cap).run prog w= .ok (.func fn au cap) w:=λ_ _ _ _=>rfl;have hi1:(0:Int)<=(i:Int):=by omega
 have VR:(i:Int)<(ls.length:Int):=by omega
 have nj:=ag (And.intro ki hvs1);have Cy:=ag hz1;clear hvo h h8 h10 hvs hcells zJ hM hT ki MZ hes hat h0 ho hz1 bz hbl vZ hall hlen vN hvs1 hv4 hk;dsimp only[List.length_cons,List.length_nil,Nat.zero_add]at*;generalize ls.length=nl at*;generalize o0.id=oid at*;go_enter func39,ntmps39;go_upto_region 1 with fail;rw[<-hW1];clear hW1;go_upto_region 2 with fail;have⟨W2,hW2⟩:=bY (W1.alloc (xK #[o.id,o.cL,o.cQ,xL va 1 vc] 66));rw[<-hW2]at bg⊢;rw[Cy.o];clear hW2 pM g0 g1 g2 g3 k0 k1;have⟨o0,o1,o2,o3⟩:=af (bg.o.Bv rfl);go_wp2_with fail;refine(HWK.o _ bg.o.1).mono ?_;rintro e w3⟨lv,rfl,⟨B,hB,hacc⟩,hb3⟩;have bV:=ag (bg.o.ae hb3);obtain⟨la,lc,rfl,_⟩:=hacc.aq;have HDX:=ag (HDL.o w3 la lc (hacc.slice λi hi=>hi.elim));clear o0 o1 o2 o3 hacc hb3 hB HDL HWK;dsimp only[List.length_nil];go_wp2_with fail;refine cC (HDX.o) λw4 eA=> ?_;have ek:=ag (bV.o.ae eA);have HCX:=ag (lM.o w4 la lc ek.o.1 ek.o.bQ);clear eA HDX lM;have⟨o0,o1,o2,o3⟩:=af (ek.o.Bv rfl);go_wp2_with fail;refine(HCX.o).mono ?_;rintro e w5⟨_,rfl,⟨vv,rfl,hvv⟩,iL⟩;obtain⟨za,zc,rfl,_⟩:=hvv.aq;have iU:=ag (ek.o.ae iL);have Ui:=ag hvv;clear o0 o1 o2 o3 iL hvv;dsimp only[List.length_cons,List.length_nil,Nat.zero_add]at*;have⟨r0,r1,r2,r3⟩:=af (iU.o.fB rfl);have⟨f0,f1,f2,f3⟩:=hZ (iU.o.fB rfl);go_wp2_with fail;refine Qae (v:= .agg #[o.id,o.cL,o.cQ,xL za 1 zc]) (by simp[results,results39,go_sem,r0,r1,r2,r3]) rfl ⟨_,rfl,⟨o,_,nj.o.1,rfl,?_⟩,?_⟩
 .rw[nj.o.2];exact Ui.o.ev (((((eK w5).setCell (.inl (.inr ⟨by simp;omega,by simp⟩)) _).setCell (.inl (.inr ⟨by simp;omega,by simp⟩)) _).setCell (.inl (.inr ⟨by simp;omega,by simp⟩)) _).setCell (.inl (.inr ⟨by simp;omega,by simp⟩)) _)
 .exact(((iU.o.1.setCell (by simp;omega) _).setCell (by simp;omega) _).setCell (by simp;omega) _).setCell (by simp;omega) _
def Sq(x:aW)(w:ax)(lv ov rv:aA)(h:gx x)(hG:Gd w)(js:ab xF w lv x.aK)(kM:ab xF w ov x.aP)(iM:ab xF w rv x.aF)(i:Nat)(o0:bF)(h0:x.aP[i]? =some o0)(vN:∀o,il x i o->Ci o)(hr:Mk.D9 (cE x) (de x) o0.id):
 xG 12 #[.agg #[lv,ov,rv,x.next],o0.id] w λu w'=>∃(o:bF)(vv:aA),il x i o/\u= .tuple #[.agg #[o.id,o.cL,o.cQ,vv],xI 0]/\ab xF w' vv o.aZ:=by
 have sU:∀W,Bd xF W:=λW i hi=>hi.elim;have hM:Bd (λ_:Nat=>False) w:=sU w;have Yl:Hd (∀W,aC w W->w.heap.size+2<=W->_):=λW hb hz=>qT x h (dX xF w 2) W (dt hM hz) (hG.ae hb) lv ov rv (js.ev (dj hb)) (kM.ev (dj hb)) (iM.ev (dj hb));have Cr:Hd (∀W lt pm,aC w W->w.heap.size+2<=W->Cz x (dX xF w 2) W lt pm->_):=λW lt pm hb hz hg=>AU x h (dX xF w 2) W (dt hM hz) (hG.tb.ae hb) lt rv pm hg (iM.ev (dj hb));have HTD:Hd (∀W lt pm sb,aC w W->w.heap.size+2<=W->Cz x (dX xF w 2) W lt pm->_):=λW lt pm sb hb hz hg=>P2 x h i o0 h0 vN (dX xF w 2) W (dt hM hz) (hG.tb.ae hb) lt pm sb hg;have FF:=ag hr;obtain⟨la,lc,rfl,_⟩:=js.aq;obtain⟨oa,oc,rfl,_⟩:=kM.aq;obtain⟨ra,rc,rfl,_⟩:=iM.aq;clear js kM iM h hG sU hr h0 vN hM;have iW:=ag (Bx.du w (cT (xL la x.aK.length lc) (xL oa x.aP.length oc) (xL ra x.aF.length rc) x.next) (xK #[xI 0,xI 0,xI 0,()] 66));have⟨c0,c1,c2,c3⟩:=af (iW.o.bO rfl);unfold cT at iW c0 c1 c2 c3;go_enter func12,ntmps12;go_wp2_with fail;refine(Yl.o _ iW.o.1 iW.o.bQ).mono ?_;rintro e w1⟨_,rfl,⟨lt,pm,rfl,hg⟩,hb1⟩;have bH:∃ta tc,lt=xL ta x.aP.length tc:=by
  obtain⟨⟨ls,zJ,hlen,_⟩,_⟩:=hg;have⟨ta,tc,e,_⟩:=zJ.aq;rw[hlen]at e;exact⟨ta,tc,e⟩
 obtain⟨ta,tc,rfl⟩:=bH;have bz:=ag (iW.o.ae hb1);have MM:=ag hg;clear hb1 hg c0 c1 c2 c3;go_upto_region 4 with fail;have⟨W2,hW2⟩:=bY (w1.alloc (xK #[xL ta x.aP.length tc, .map (some pm)] 89));have bg:=ag (bz.o.alloc (xK #[xL ta x.aP.length tc, .map (some pm)] 89));have qj:=ag (show aC w1 W2/\dk W2 w1 (xK #[xL ta x.aP.length tc, .map (some pm)] 89)by rw[hW2];exact⟨bU,Qbh w1 _⟩);rw[<-hW2]at bg⊢;clear hW2;have⟨c0,c1,c2,c3⟩:=af (bg.o.bO rfl);have⟨d0,d1⟩:=ak qj.o.2;go_wp2_with fail;refine(Cr.o _ _ _ bg.o.1 bg.o.bQ (MM.o.ae qj.o.1)).mono ?_;rintro e w3⟨S,sb,rfl,hset,jr,hb3⟩;have bV:=ag (bg.o.ae hb3);have um:Hd (aC w1 w3/\dk w3 w1 (xK #[xL ta x.aP.length tc, .map (some pm)] 89)):=⟨qj.o.1.trans (hb3.mono qj.o.1.size),(hb3.block _ (Qaa.1 qj.o.2).1).trans qj.o.2⟩;have pM:=hset.lookup o0.id;rw[show decide (o0.id∈S)=true by simpa using(jr o0.id).2 FF.o]at pM;clear hb3 hset jr c0 c1 c2 c3 d0 d1;have⟨d0,d1⟩:=ak um.o.2;go_wp2_with fail;refine(HTD.o _ _ _ sb bV.o.1 bV.o.bQ (MM.o.ae um.o.1)).mono ?_;rintro e w5⟨_,rfl,⟨o,vv,bH,rfl,hvv⟩,iL⟩;have iU:=ag (bV.o.ae iL);have HF:=ag (And.intro bH hvv);obtain⟨va,vc,rfl,_⟩:=hvv.aq;clear bH hvv iL pM d0 d1;have⟨r0,r1,r2,r3⟩:=af (iU.o.cg rfl);have⟨f0,f1,f2,f3⟩:=hZ (iU.o.cg rfl);go_wp2_with fail;refine Qae (v:= .tuple #[.agg #[o.id,o.cL,o.cQ,xL va o.aZ.length vc],xI 0]) (by simp[results,results12,go_sem,r0,r1,r2,r3]) rfl ⟨_,rfl,⟨o,_,HF.o.1,rfl,?_⟩,?_⟩
 .exact HF.o.2.ev (((((eK w5).setCell (.inl (.inr ⟨by simp,by simp⟩)) _).setCell (.inl (.inr ⟨by simp,by simp⟩)) _).setCell (.inl (.inr ⟨by simp,by simp⟩)) _).setCell (.inl (.inr ⟨by simp,by simp⟩)) _)
 .exact(((iU.o.1.setCell (by simp) _).setCell (by simp) _).setCell (by simp) _).setCell (by simp) _
end
end Go.Proofs.YtepaofffbkfodaaGreatDoor
