/- A part of OpReads's proof; no condition. -/
import Derived.Test.YtepaofffbkfodaaGreatDoorM43
set_option linter.all false
set_option maxHeartbeats 8000000
set_option maxRecDepth 100000
namespace Go.Proofs.YtepaofffbkfodaaGreatDoor
open Go.Proofs.Tryz
open Go.RowKit Go.Shelf
def sS(s:ByteArray)(h:aB s=true)(hs:s.size<=maxLen)(w:World):xC 83 #[xS s] w (cr (xB true) w):=by
 have HR:=af (show xC 45 #[.agg #[xS s,xL none 0 0]] w (cr (xB true) w)by
  have h1:=fX xF (xL none 0 0) w ⟨s,[]⟩ (ab.nil _ _) hs;have h2:aP ⟨s,[]⟩=true:=(dY _).2 ⟨h,by simp,λf hf=>by simp at hf,by simp⟩;rw[h2]at h1;exact h1);go_enter func83,ntmps83;go_wp2_with fail;refine(HR.o).mono ?_;rintro e w1⟨rfl,hb⟩;have HB:=af hb;go_wp2;go_ret;exact⟨rfl,HB.o⟩
def EU(x:aX)(h:gi x)(M:Nat->Prop)(w:World)(lv ov rv:Value)(ja:ab M w lv x.lines)(kq:ab M w ov x.objs)(iM:ab M w rv x.roots):
 xC 54 #[.agg #[lv,ov,rv,xI x.next]] w (cr (xB true) w):=by
 have HO:Hd (∀i o,x.objs[i]? =some o->_):=λi o ho=>jq kq ho;have HOI:Hd (∀(i:Nat)o,x.objs[i]? =some o->1<=o.id/\o.id<x.next):=λi o ho=>⟨(h.objs i o ho).1,(h.objs i o ho).2.1⟩;have XL:Hd (∀(i:Nat)o p,x.objs[i]? =some o->x.objs[i+1]? =some p->o.id<p.id):=λi o p ho hp=>by
  have e1:(cL x.objs)[i]? =some o.id:=by unfold cL;rw[List.getElem?_map,ho];rfl
  have e2:(cL x.objs)[i+1]? =some p.id:=by unfold cL;rw[List.getElem?_map,hp];rfl
  obtain⟨l1,g1⟩:=Qad.1 e1;obtain⟨l2,g2⟩:=Qad.1 e2;have:=List.pairwise_iff_getElem.1 h.rise i (i+1) l1 l2 (by omega);rw[g1,g2]at this;exact this
 have HR:Hd (∀i r,x.roots[i]? =some r->_):=λi r hr=>iF iM hr;have Gc:Hd (∀i r W,x.roots[i]? =some r->_):=λi r W hr=>sS r.name (h.oV r (Qaf hr)).1 (cF (h.oV r (Qaf hr)).2) W;have UZ:Hd (∀i r s,x.roots[i]? =some r->x.roots[i+1]? =some s->_):=λi r s hr hs=>h.xD i r s hr hs;have KQ:=h.len;have tJ:=h.next;have h5:=h.rlen;obtain⟨la,lc,rfl,_⟩:=ja.open_;obtain⟨oa,oc,rfl,YX,hom,_⟩:=kq.open_;obtain⟨ra,rc,rfl,Tj,hrm,_⟩:=iM.open_;clear ja kq iM h;obtain⟨xl,xo,xr,xn⟩:=x;dsimp only at*;obtain⟨n,hn⟩:=jO (xo.length);obtain⟨m,FE⟩:=jO (xr.length);rw[hn]at KQ YX;rw[FE]at h5 Tj;obtain⟨hxa,FY⟩:=tJ;simp only[hn,FE];have HN:=af hn;clear hn;have FH:=af FE;clear FE;go_enter func54,ntmps54;go_wp2;go_loopg [2,3,5,19]n(λg r2 r3 _ iv wr=>∃k:Nat,k<=n/\g=n-k/\iv=xI k/\(∃last:Int,r3=xI last/\Hd (∀o,xo[k]? =some o->last<o.id))/\r2=xB false/\Hd (Bx w [cw (xL la xl.length lc) (xL oa n oc) (xL ra m rc) xn] wr));case atStart=>exact⟨0,Qbf _,rfl,rfl,⟨0,rfl,(show∀o,_->_ fromλo ho=>by have:=(HOI.o 0 o ho).1;omega)⟩,rfl,(Bx.eD w _)⟩
 case round=>
  obtain⟨k,hk,rfl,rfl,⟨last,rfl,YC⟩,rfl,HX⟩:=hrel;obtain⟨c0,c1,c2,c3⟩:=ae (HX.o.bG rfl);by_cases bu:k<n
  .obtain⟨o,ho⟩:=eB xo k (by rw[HN.o];exact bu);obtain⟨b,off,cap,a',c',hv,cR,_,ay⟩:=HO.o k o ho;obtain⟨rfl,rfl⟩:=iB hv;obtain⟨g0,g1,g2,g3⟩:=ay wr HX.o.1;obtain⟨qhy,TW⟩:=HOI.o k o ho;have Gi:=YC.o o ho;have d3:=λo=>(ae ((HX.o.alloc o).bG rfl)).2.2.2;have uK:Hd (∀o',xo[k+1]? =some o'->o.id<o'.id):=λo' zT=>XL.o k o o' ho zT;have hq1:¬o.id<=last:=by omega
   have hq2:¬xn<=o.id:=by omega
   generalize o.id=oid at*;clear hv ay ho;go_wp2;go_roundg(n-(k+1));case measure=>omega
   case rel=>exact⟨k+1,by omega,rfl,by go_num,⟨oid,rfl,uK⟩,rfl,(HX.o.alloc _)⟩
  .obtain rfl:k=n:=by omega
   go_wp2;go_loopg [2,6,7,40]m(λg r2 _ _ iv wr=>∃j:Nat,j<=m/\g=m-j/\iv=xI j/\r2=xB false/\Hd (Bx w [cw (xL la xl.length lc) (xL oa k oc) (xL ra m rc) xn] wr));case atStart=>exact⟨0,Qbf _,rfl,rfl,rfl,HX⟩
   case round=>
    obtain⟨j,hj,rfl,rfl,rfl,HY⟩:=hrel;clear HX c0 c1 c2 c3;obtain⟨c0,c1,c2,c3⟩:=ae (HY.o.bG rfl);by_cases Q4:j<m
    .obtain⟨r,hr⟩:=eB xr j (by rw[FH.o];exact Q4);obtain⟨b,off,cap,hv,cR,_,ay⟩:=HR.o j r hr;obtain⟨rfl,rfl⟩:=iB hv;obtain⟨g0,g1⟩:=ay wr HY.o.1;have zf:=af (λW=>Gc.o j r W hr);have KC:=af hr;clear hv ay hr;go_upto_region 14 with fail;obtain⟨W7,vy⟩:=bS (wr.alloc (xK #[xS r.name,xI r.id] 86));have pJ:=af (show Bx w [cw (xL la xl.length lc) (xL oa k oc) (xL (some ⟨b,off,none⟩) m rc) xn] W7 by rw[vy];exact HY.o.alloc _);have QT:=af (show W7.heap[wr.heap.size]? =some (xK #[xS r.name,xI r.id] 86)by rw[vy];exact Qbh wr _);rw[<-vy];clear vy c0 c1 c2 c3 g0 g1;generalize wr.heap.size=Q at*;have HS:Hd (∀W,aq W7 W->W.cell? ⟨Q,0,none⟩=some (xS r.name)/\W.cell? ⟨w.heap.size,2,none⟩=some (xL (some ⟨b,off,none⟩) m rc)):=λW hb=>⟨(ah ((hb.block Q (Qaa.1 QT.o).1).trans QT.o)).1,(ae ((pJ.o.below hb).bG rfl)).2.2.1⟩;have HJ:Hd (aq W7 W7):=dQ;obtain _|i:=j
     .go_cut [64](λs64 wx=>s64=xB false/\Hd (Bx w [cw (xL la xl.length lc) (xL oa k oc) (xL (some ⟨b,off,none⟩) m rc) xn] wx));case first=>
       refine ib (by kernel_rfl) (by kernel_rfl) λι _ F lg C4=> ?_;have s0:=λi=>(HS.o (F i) (lg i)).1;have jy:=af lg;have zP:=af C4;clear lg C4;repeat(go_big_quiet_step((go_at_call 83;refine(zf.o _).mono ?_;rintro e w3⟨rfl,bP⟩;exact⟨rfl,zP.o _ ((jy.o _).trans (bP.mono (jy.o _).size))⟩)))
       refine wpQuiet_nil ?_;rintro _⟨nq,rfl⟩;go_wp2;go_meet;exact⟨rfl,pJ.o.below (jy.o _)⟩
      case rest=>
       obtain⟨rfl,bO⟩:=hcut;go_wp2;go_roundg(m-1);case measure=>omega
       case rel=>exact⟨1,by omega,rfl,by go_num,rfl,bO⟩
     .obtain⟨q,hq⟩:=eB xr i (by rw[FH.o];omega);obtain⟨b2,zY,rz,zW,_,_,qu⟩:=HR.o i q hq;obtain⟨⟨rfl,rfl⟩,rfl⟩:(b=b2/\off=zY)/\rc=rz:=by rw[FH.o]at zW;simpa using zW
      have qbv:=UZ.o i q r hq KC.o;obtain⟨Q1,heq⟩:Op.bytesLess r.name.toList q.name.toList=false/\(r.name.toList==q.name.toList)=false:=by simpa [Bool.or_eq_false_iff]using qbv
      have ed:(0:Int)<=(i:Int):=Qba _;have him:(i:Int)<(m:Int):=by omega
      have hiw:IntKind.i64.wrap (((i+1:Nat):Int)-1)=(i:Int):=by rw[show((i+1:Nat):Int)-1=(i:Int)from by omega];exact Qbe _ (by omega)
      have hgt:decide ((0:Int)<((i+1:Nat):Int))=true:=by simp
      have QS:=af qu;clear zW qu hq qbv;go_cut [64](λs64 wx=>s64=xB false/\Hd (Bx w [cw (xL la xl.length lc) (xL oa k oc) (xL (some ⟨b,off,none⟩) m rc) xn] wx));case first=>
       refine ib (by kernel_rfl) (by kernel_rfl) λι _ F lg C4=> ?_;have s0:=λi=>(HS.o (F i) (lg i)).1;have s1:=λi=>(HS.o (F i) (lg i)).2;have s2:=λj=>(QS.o (F j) (pJ.o.below (lg j)).1).1;have jy:=af lg;have zP:=af C4;clear lg C4;repeat(go_big_quiet_step((go_at_call 83;refine(zf.o _).mono ?_;rintro e w3⟨rfl,bP⟩;exact⟨rfl,zP.o _ ((jy.o _).trans (bP.mono (jy.o _).size))⟩)))
       refine wpQuiet_nil ?_;rintro _⟨nq,rfl⟩;go_wp2;go_meet;exact⟨rfl,pJ.o.below (jy.o _)⟩
      case rest=>
       obtain⟨rfl,bO⟩:=hcut;go_wp2;go_roundg(m-(i+1+1));case measure=>omega
       case rel=>exact⟨i+1+1,by omega,rfl,by go_num,rfl,bO⟩
    .obtain rfl:j=m:=by omega
     go_wp2;go_ret;exact⟨rfl,HY.o.1⟩
end Go.Proofs.YtepaofffbkfodaaGreatDoor
