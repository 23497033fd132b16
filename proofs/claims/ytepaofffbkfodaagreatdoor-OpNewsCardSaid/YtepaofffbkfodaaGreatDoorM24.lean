/- A part; no condition. -/
import Derived.Test.YtepaofffbkfodaaGreatDoorM20
set_option linter.all false
set_option maxHeartbeats 8000000
set_option maxRecDepth 100000
namespace Go.Proofs.YtepaofffbkfodaaGreatDoor
open Go.Proofs.Tryz
open Go.RowKit Go.Shelf
def sI(s:ByteArray)(h:aM s=true)(hs:s.size<=maxLen)(w:World):xC 83 #[s] w (cu true w):=by
 have HR:=ag (show xC 45 #[.agg #[s,()]] w (cu true w)by
  have h1:=ff xF () w ⟨s,[]⟩ (ab.nil _ _) hs;have h2:aX ⟨s,[]⟩=true:=(dU _).2 ⟨h,by simp,λf hf=>by simp at hf,by simp⟩;rw[h2]at h1;exact h1);go_enter func83,ntmps83;go_wp2_with fail;refine(HR.o).mono ?_;rintro e w1⟨rfl,hb⟩;have HB:=ag hb;go_wp2;go_ret;exact⟨rfl,HB.o⟩
def EE(x:aW)(h:gx x)(M:Nat->Prop)(w:World)(lv ov rv:Value)(js:ab M w lv x.aK)(kM:ab M w ov x.aP)(iM:ab M w rv x.aF):
 xC 54 #[.agg #[lv,ov,rv,x.next]] w (cu true w):=by
 have HO:Hd (∀i o,x.aP[i]? =some o->_):=λi o ho=>iJ kM ho;have HOI:Hd (∀(i:Nat)o,x.aP[i]? =some o->1<=o.id/\o.id<x.next):=λi o ho=>⟨(h.aP i o ho).1,(h.aP i o ho).2.1⟩;have WO:Hd (∀(i:Nat)o p,x.aP[i]? =some o->x.aP[i+1]? =some p->o.id<p.id):=λi o p ho hp=>by
  have e1:(cA x.aP)[i]? =some o.id:=by unfold cA;rw[List.getElem?_map,ho];rfl
  have e2:(cA x.aP)[i+1]? =some p.id:=by unfold cA;rw[List.getElem?_map,hp];rfl
  have⟨l1,g1⟩:=Qad.1 e1;have⟨l2,g2⟩:=Qad.1 e2;have:=List.pairwise_iff_getElem.1 h.nI i (i+1) l1 l2 (by omega);rw[g1,g2]at this;exact this
 have HR:Hd (∀i r,x.aF[i]? =some r->_):=λi r hr=>gw iM hr;have FM:Hd (∀i r W,x.aF[i]? =some r->_):=λi r W hr=>sI r.ai (h.mL r (Qaf hr)).1 (cM (h.mL r (Qaf hr)).2) W;have Ue:Hd (∀i r s,x.aF[i]? =some r->x.aF[i+1]? =some s->_):=λi r s hr hs=>h.uK i r s hr hs;have h10:=h.len;have re:=h.next;have h5:=h.rlen;obtain⟨la,lc,rfl,_⟩:=js.aq;obtain⟨oa,oc,rfl,WK,hom,_⟩:=kM.aq;obtain⟨ra,rc,rfl,Qh,V0,_⟩:=iM.aq;clear js kM iM h;obtain⟨xl,xo,xr,xn⟩:=x;dsimp only at*;have⟨n,hn⟩:=jN (xo.length);have⟨m,hmr⟩:=jN (xr.length);rw[hn]at h10 WK;rw[hmr]at h5 Qh;obtain⟨Zu,hxb⟩:=re;simp only[hn,hmr];have HN:=ag hn;clear hn;have Bf:=ag hmr;clear hmr;go_enter func54,ntmps54;go_wp2;go_loopg [2,3,5,19]n(λg r2 r3 _ iv wr=>∃k:Nat,k<=n/\g=n-k/\iv=xI k/\(∃last:Int,r3=xI last/\Hd (∀o,xo[k]? =some o->last<o.id))/\r2=xB false/\Hd (Bx w [cT (xL la xl.length lc) (xL oa n oc) (xL ra m rc) xn] wr));case atStart=>exact⟨0,Qbf _,rfl,rfl,⟨0,rfl,(show∀o,_->_ fromλo ho=>by have:=(HOI.o 0 o ho).1;omega)⟩,rfl,(Bx.eI w _)⟩
 case round=>
  obtain⟨k,hk,rfl,rfl,⟨last,rfl,XT⟩,rfl,HX⟩:=hrel;have⟨c0,c1,c2,c3⟩:=af (HX.o.bO rfl);by_cases bH:k<n
  .have⟨o,ho⟩:=eG xo k (by rw[HN.o];exact bH);have⟨b,off,cap,a',c',hv,hbl,_,hcells⟩:=HO.o k o ho;obtain⟨rfl,rfl⟩:=iY hv;have⟨g0,g1,g2,g3⟩:=hcells wr HX.o.1;have⟨hid1,hid2⟩:=HOI.o k o ho;have zJ:=XT.o o ho;have d3:=λo=>(af ((HX.o.alloc o).bO rfl)).2.2.2;have tj:Hd (∀o',xo[k+1]? =some o'->o.id<o'.id):=λo' ho'=>WO.o k o o' ho ho';have hq1:¬o.id<=last:=by omega
   have TR:¬xn<=o.id:=by omega
   generalize o.id=oid at*;clear hv hcells ho;go_wp2;go_roundg(n-(k+1));case measure=>omega
   case rel=>exact⟨k+1,by omega,rfl,by go_num,⟨oid,rfl,tj⟩,rfl,(HX.o.alloc _)⟩
  .obtain rfl:k=n:=by omega
   go_wp2;go_loopg [2,6,7,40]m(λg r2 _ _ iv wr=>∃j:Nat,j<=m/\g=m-j/\iv=xI j/\r2=xB false/\Hd (Bx w [cT (xL la xl.length lc) (xL oa k oc) (xL ra m rc) xn] wr));case atStart=>exact⟨0,Qbf _,rfl,rfl,rfl,HX⟩
   case round=>
    obtain⟨j,hj,rfl,rfl,rfl,HY⟩:=hrel;clear HX c0 c1 c2 c3;have⟨c0,c1,c2,c3⟩:=af (HY.o.bO rfl);by_cases I3:j<m
    .have⟨r,hr⟩:=eG xr j (by rw[Bf.o];exact I3);have⟨b,off,cap,hv,hbl,_,hcells⟩:=HR.o j r hr;obtain⟨rfl,rfl⟩:=iY hv;have⟨g0,g1⟩:=hcells wr HY.o.1;have Cr:=ag (λW=>FM.o j r W hr);have FF:=ag hr;clear hv hcells hr;go_upto_region 14 with fail;have⟨W7,hW7⟩:=bY (wr.alloc (xK #[r.ai,r.id] 86));have mA:=ag (show Bx w [cT (xL la xl.length lc) (xL oa k oc) (xL (b,off) m rc) xn] W7 by rw[hW7];exact HY.o.alloc _);have FK:=ag (show W7.heap[wr.heap.size]? =some (xK #[r.ai,r.id] 86)by rw[hW7];exact Qbh wr _);rw[<-hW7];clear hW7 c0 c1 c2 c3 g0 g1;generalize wr.heap.size=Q at*;have HS:Hd (∀W,aC W7 W->W.cell? (Q,0)=some (xS r.ai)/\W.cell? (w,2)=some (xL (b,off) m rc)):=λW hb=>⟨(ak ((hb.block Q (Qaa.1 FK.o).1).trans FK.o)).1,(af ((mA.o.ae hb).bO rfl)).2.2.1⟩;have HJ:Hd (aC W7 W7):=dS;obtain _|i:=j
     .go_cut [64](λs64 wx=>s64=xB false/\Hd (Bx w [cT (xL la xl.length lc) (xL oa k oc) (xL (b,off) m rc) xn] wx));case first=>
       refine ir (by kernel_rfl) (by kernel_rfl) λι _ F jM yW=> ?_;have s0:=λi=>(HS.o (F i) (jM i)).1;have jq:=ag jM;have yL:=ag yW;clear jM yW;repeat(go_big_quiet_step((go_at_call 83;refine(Cr.o _).mono ?_;rintro e w3⟨rfl,hb3⟩;exact⟨rfl,yL.o _ ((jq.o _).trans (hb3.mono (jq.o _).size))⟩)))
       refine wpQuiet_nil ?_;rintro _⟨nq,rfl⟩;go_wp2;go_meet;exact⟨rfl,mA.o.ae (jq.o _)⟩
      case rest=>
       obtain⟨rfl,bV⟩:=hcut;go_wp2;go_roundg(m-1);case measure=>omega
       case rel=>exact⟨1,by omega,rfl,by go_num,rfl,bV⟩
     .have⟨q,hq⟩:=eG xr i (by rw[Bf.o];omega);have⟨b2,off2,cap2,hv2,_,_,hcells2⟩:=HR.o i q hq;obtain⟨⟨rfl,rfl⟩,rfl⟩:(b=b2/\off=off2)/\rc=cap2:=by rw[Bf.o]at hv2;simpa using hv2
      have qav:=Ue.o i q r hq FF.o;obtain⟨Qv,heq⟩:Op.bytesLess r.ai.toList q.ai.toList=false/\(r.ai.toList==q.ai.toList)=false:=by simpa [Bool.or_eq_false_iff]using qav
      have hi0:(0:Int)<=(i:Int):=Qba _;have him:(i:Int)<(m:Int):=by omega
      have hiw:IntKind.i64.wrap (((i+1:Nat):Int)-1)=(i:Int):=by rw[show((i+1:Nat):Int)-1=(i:Int)from by omega];exact Qbe _ (by omega)
      have ZY:decide ((0:Int)<((i+1:Nat):Int))=true:=by simp
      have J5:=ag hcells2;clear hv2 hcells2 hq qav;go_cut [64](λs64 wx=>s64=xB false/\Hd (Bx w [cT (xL la xl.length lc) (xL oa k oc) (xL (b,off) m rc) xn] wx));case first=>
       refine ir (by kernel_rfl) (by kernel_rfl) λι _ F jM yW=> ?_;have s0:=λi=>(HS.o (F i) (jM i)).1;have s1:=λi=>(HS.o (F i) (jM i)).2;have s2:=λj=>(J5.o (F j) (mA.o.ae (jM j)).1).1;have jq:=ag jM;have yL:=ag yW;clear jM yW;repeat(go_big_quiet_step((go_at_call 83;refine(Cr.o _).mono ?_;rintro e w3⟨rfl,hb3⟩;exact⟨rfl,yL.o _ ((jq.o _).trans (hb3.mono (jq.o _).size))⟩)))
       refine wpQuiet_nil ?_;rintro _⟨nq,rfl⟩;go_wp2;go_meet;exact⟨rfl,mA.o.ae (jq.o _)⟩
      case rest=>
       obtain⟨rfl,bV⟩:=hcut;go_wp2;go_roundg(m-(i+1+1));case measure=>omega
       case rel=>exact⟨i+1+1,by omega,rfl,by go_num,rfl,bV⟩
    .obtain rfl:j=m:=by omega
     go_wp2;go_ret;exact⟨rfl,HY.o.1⟩
end Go.Proofs.YtepaofffbkfodaaGreatDoor
