/- A part of MarkAsks's proof; no condition. -/
import Derived.Test.YtccpcfcochffcaaGreatDoorM35
import Derived.Test.YtccpcfcochffcaaGreatDoorM36
set_option linter.all false
set_option maxHeartbeats 8000000
set_option maxRecDepth 100000
namespace Go.Proofs.YtccpcfcochffcaaGreatDoor
open Go.Proofs.Tryz
open Go.RowKit Go.Shelf
variable{many:Int}{vs l:List au}{al S:List Int}{i k:Nat}{y:au}{s:aT}{v v2 u:an}{t:TypeId}{cur:Array an}{W1 w3 w' w W:aj}{N M:aS}{o o1:Obj}{a:dC}
theorem Qj {fs:List ay}(x:bH)(h:aW fs many x.aJ)(hl:x.aJ.length<=12)(al:List Int)(GH:al.length<=1000)(M:Nat->Prop)(w:World)(v av:Value)(hM:Bd M w)(hs:ab M w v x.aJ)(ha:ab (α:=Int) M w av al):
 xG 100 #[.agg #[xI x.id,xI x.cls,xI x.ver,v],av] w λu w'=>∃v',u= .agg #[xI x.id,xI x.cls,xI x.ver,v']/\ab M w' v' (x.aJ.map (dx al)):=by
 have Yb:Hd (∀W,aq w W->w.heap.size+4<=W.heap.size->_):=λW hb hz=>FU h hl (dP M w 4) W v (dp hM hz) (hs.ev (cW hb));have VA:Hd (∀(i:Nat)(z:Int),al[i]? =some z->_):=λi z hz=>iF ha hz;have DK:∀(fn:Fn)(first cap:Array Value)(w:World),(Instr.makeFunc fn first cap).run prog w= .ok (.func fn first cap) w:=λ_ _ _ _=>rfl;have Cb:=λw=>lg 91 w;obtain⟨aa,ac,rfl,_⟩:=ha.open_;obtain⟨va,vc,rfl,_⟩:=hs.open_;have Ro:=af hM;obtain⟨m,hm⟩:=fx (x.aJ.length);have HM:=af hm;obtain⟨q,hq⟩:=fx (al.length);have HQ:=af hq;rw[hm]at Yb hl⊢;rw[hq]at GH VA⊢;clear hs ha h hM hm hq;have Y9:=af (show DE x [] w (xL va m vc) ((((w.alloc (xK #[xI x.id,xI x.cls,xI x.ver,xL va m vc] 65)).alloc (xK #[xI 0,xI 0,xI 0,xL none 0 0] 65)).alloc (.map #[] 0)).alloc (xK #[.map (some (w.heap.size+1+1))] 91))by
  have hb:=Bx.Oy w (xK #[xI x.id,xI x.cls,xI x.ver,xL va m vc] 65) (xK #[xI 0,xI 0,xI 0,xL none 0 0] 65) (.map #[] 0) (xK #[.map (some (w.heap.size+1+1))] 91);refine⟨hb.1,hb.2.1,hb.bJ rfl,hb.cE rfl,hb.Ay rfl,?_⟩;have h1:=Mk.cu.made ((w.alloc (xK #[xI x.id,xI x.cls,xI x.ver,xL va m vc] 65)).alloc (xK #[xI 0,xI 0,xI 0,xL none 0 0] 65));have h2:=h1.same (w':=((((w.alloc (xK #[xI x.id,xI x.cls,xI x.ver,xL va m vc] 65)).alloc (xK #[xI 0,xI 0,xI 0,xL none 0 0] 65)).alloc (.map #[] 0)).alloc (xK #[.map (some (w.heap.size+1+1))] 91))) (Qcb _ _ _ (by simp));simpa using h2);go_enter func100,ntmps100;go_wp2;go_loopg [7,16]q(λg _ iv wr=>∃(i:Nat)(S:List Int),i<=q/\g=q-i/\iv=xI i/\Hd (DE x S w (xL va m vc) wr/\∀n,n∈S↔n∈al.take i));case atStart=>exact⟨0,[],Qbf _,rfl,rfl,af ⟨Y9.o,λn=>by simp⟩⟩
 case round=>
  clear Y9;obtain⟨i,S,hi,rfl,rfl,HS⟩:=hrel;by_cases aX:i<q
  .obtain⟨z,hz⟩:=dQ al i (by rw[HQ.o];exact aX);obtain⟨b,off,cap,hv,_,hc⟩:=VA.o i z hz;obtain⟨rfl,rfl⟩:aa=some ⟨b,off,none⟩/\ac=cap:=by first|simpa using hv|simpa [HQ.o]using hv
   have g0:=hc wr HS.o.1.low;have c0:=one_cell HS.o.1.cel;obtain⟨W',S',oe,kF,fG,ho⟩:=Tz HS.o.1.set z;have HN:Hd (DE x S' w (xL va m vc) W'/\∀n,n∈S'↔n∈al.take (i+1)):=⟨HS.o.1.add kF ho,λn=>by
    rw[fG,HS.o.2,Qbb,hz];simp⟩;clear hv hc hz kF fG ho;go_wp2;go_roundg(q-(i+1));case measure=>omega
   case rel=>exact⟨i+1,S',by omega,rfl,by go_num,HN⟩
  .obtain rfl:i=q:=by omega
   obtain⟨c0,c1,c2,c3⟩:=ae HS.o.1.obj;have qfe:Hd (dx S=dx al/\cF S=cF al):=⟨FZ λn=>by rw[HS.o.2,Qah (by rw[HQ.o];exact bq)],wi λn=>by rw[HS.o.2,Qah (by rw[HQ.o];exact bq)]⟩;have VB:Hd (DE x S w (xL va m vc) wr):=HS.o.1;clear HS;go_wp2_with fail;refine(Yb.o _ VB.o.low VB.o.size).mono ?_;rintro e w2⟨_,rfl,⟨za,rfl,X7⟩,aY⟩;have kj:=af (VB.o.below aY);have Zo:=af (show KA wr x.aJ (xL za m m) w2 by have:=X7 wr (by omega);first|exact this|rwa [HM.o]at this);have hsz:=aY.size;clear X7 aY c0 c1 c2 c3;obtain⟨c0,c1,c2,c3⟩:=ae kj.o.obj;obtain⟨f0,f1,f2,f3⟩:=ic kj.o.obj;go_upto_region 9 with fail;obtain⟨W3,lK⟩:=cM ((((w2.setCell ⟨w.heap.size,0,none⟩ (xI x.id)).setCell ⟨w.heap.size,1,none⟩ (xI x.cls)).setCell ⟨w.heap.size,2,none⟩ (xI x.ver)).setCell ⟨w.heap.size,3,none⟩ (xL za m m));have Ld:=af (show DE x S w (xL za m m) W3 by rw[lK];exact kj.o.put (xL za m m));have Yc:=af (show KA wr x.aJ (xL za m m) W3 by
    have Gv:=VB.o.size;refine Zo.o.stay bq (by rw[lK];simp[World.setCell]) λk k1 _=> ?_;rw[lK,Qag _ _ _ _ (by simp;omega),Qag _ _ _ _ (by simp;omega),Qag _ _ _ _ (by simp;omega),Qag _ _ _ _ (by simp;omega)]);rw[<-lK];have HWS:Hd (w.heap.size+4<=wr.heap.size):=VB.o.size;clear lK c0 c1 c2 c3 f0 f1 f2 f3 kj Zo hsz VB;obtain⟨c0,c1,c2,c3⟩:=ae Ld.o.obj;rcases Nat.eq_zero_or_pos m with h0|h0
   .subst h0;go_wp2;go_loopg [9,10,11,12,29,47]0(λg _ _ _ _ iv _ wx=>g=0/\iv=xI 0/\W3=wx);case atStart=>exact⟨rfl,rfl,rfl⟩
    case round=>
     obtain⟨rfl,rfl,rfl⟩:=hrel;obtain⟨r0,r1,r2,r3⟩:=ae Ld.o.res;obtain⟨f0,f1,f2,f3⟩:=ic Ld.o.res;go_wp2_with fail;refine Qae (v:= .agg #[xI x.id,xI x.cls,xI x.ver,xL za 0 0]) (by simp[results,results100,go_sem,r0,r1,r2,r3]) rfl ⟨_,rfl,⟨_,rfl,?_⟩,?_⟩
     .have e:=Qdd HM.o;rcases Yc.o with⟨_,hv⟩|⟨_,hp,_⟩
      .rw[hv,e];exact ab.nil _ _
      .rw[e]at hp;exact absurd hp (by simp)
     .exact(((Ld.o.low.setCell (by simp) _).setCell (by simp) _).setCell (by simp) _).setCell (by simp) _
   have hB:∃B s,za=some ⟨B,0,none⟩/\C7 x S w B s m x.aJ W3:=by
    rcases Yc.o with⟨e,_⟩|⟨B,_,hBB,hv,s,hr⟩
    .have:=HM.o;rw[e]at this;simp at this;omega
    .obtain⟨rfl,_⟩:za=some ⟨B,0,none⟩/\True:=by simpa [HM.o]using hv
     have:=HWS.o;rw[HM.o]at hr;exact⟨B,s,rfl,Ld.o,by omega,hr⟩
   obtain⟨B,s,rfl,hB3⟩:=hB;have bI:=af (show C7 x S w B s m (tG (dx S) x.aJ 0) W3 by rw[FX];exact hB3);clear hB3 Ld Yc HWS;go_wp2;go_loopg [9,10,11,12,29,47]m(λg _ _ _ _ iv _ wx=>∃i:Nat,i<=m/\g=m-i/\iv=xI i/\Hd (C7 x S w B s m (tG (dx S) x.aJ i) wx));case atStart=>exact⟨0,Qbf _,rfl,rfl,bI⟩
   case round=>
    clear c0 c1 c2 c3 bI;obtain⟨i,hi,rfl,rfl,HX⟩:=hrel;rename World=>wx;by_cases aX:i<m
    .obtain⟨⟨k,n,t,l⟩,hx⟩:=dQ x.aJ i (by rw[HM.o];exact aX);have Vy:Hd ((tG (dx S) x.aJ i)[i]? =some (.mk k n t l)):=Qi hx;have tM:Hd ((tG (dx S) x.aJ i).set i (dx S (.mk k n t l))=tG (dx S) x.aJ (i+1)):=KU hx;have Lb:=af (show i<(tG (dx S) x.aJ i).length by rw[KS,HM.o];exact aX);generalize tG (dx S) x.aJ i=X at HX Vy tM Lb;obtain⟨ad,⟨p0,p1,p2,p3⟩,-,od⟩:=HX.o.row.own Vy.o;have Xg:l.length<=12:=by
      obtain⟨_,_,_,_,_,e0,_,_,Dv,_⟩:=od;cases e0;exact Dv
     have NP:Hd (B<wx.heap.size):=HX.o.row.lt;have JJ:=af p3;have Ag:Hd (0<l.length->∃b,ad=some ⟨b,0,none⟩/\b<wx.heap.size):=λh0=>by
      obtain⟨b,hb,_,cur,h1,_⟩:=HX.o.row.inner Vy.o JJ.o h0;exact⟨b,hb,(Qaa.1 h1).1⟩
     obtain⟨c0,c1,c2,c3⟩:=ae HX.o.a.obj;clear od hx;go_upto_region 12 with fail;obtain⟨W4,lR⟩:=cM (wx.alloc (xK #[xI k,xI n,xS t,xL ad l.length l.length] 30));have Nv:=af (show C7 x S w B s m X W4 by rw[lR];exact HX.o.below bO);have eH:=af (show aq wx W4 by rw[lR];exact bO);have NA:=af (show W4.heap[wx.heap.size]? =some (xK #[xI k,xI n,xS t,xL ad l.length l.length] 30)by rw[lR];exact Qbh wx _);rw[<-lR];clear lR p0 p1 p2 p3 c0 c1 c2 c3;obtain⟨k',n',s',a',m',c',AU,bA⟩:=FW k n t ad l.length l.length S;have DN:=fV (w:=W4) (λW hb=>bA _ _ W (Nv.o.below hb).a.cel (Nv.o.below hb).a.set);clear bA;refine' lC 7 ?hl ?hm ?hB1 ?hB ?hh;case hl=>exact rfl
     case hm=>kernel_rfl
     case hB1=>kernel_rfl
     case hB=>kernel_rfl
     intro ι _ F oq GC;have rz:=(Qaa.1 NA.o).1;have s0:=λj=>(ae (Nv.o.below (oq j)).a.obj).2.2.2;have s1:=λj=>(ae (((oq j).block _ rz).trans NA.o)).1;have s2:=λj=>(ae (((oq j).block _ rz).trans NA.o)).2.1;have s3:=λj=>(ae (((oq j).block _ rz).trans NA.o)).2.2.1;have s4:=λj=>(ae (((oq j).block _ rz).trans NA.o)).2.2.2;have cY:(0:Int)<=(i:Int):=by omega
     have dA:(i:Int)<(m:Int):=by omega
     have lI:=af oq;have xN:=af GC;clear oq GC;simp only[List.take_succ_cons,List.take_zero,Act.put,List.setIfInBounds_toArray,List.set_cons_zero,List.set_cons_succ];repeat(go_big_quiet_step(first
      |(go_at_call 150;refine(DN.o _ (lI.o _)).mono ?_;rintro e w3⟨rfl,bG⟩;exact⟨rfl,xN.o _ ((lI.o _).trans (bG.mono (lI.o _).size))⟩)))
     refine wpQuiet_nil ?_;rintro _⟨nq,rfl⟩;have Sv:Hd (aq W4 (F nq)):=lI.o nq;obtain⟨wn,WL⟩:=fx (F nq);rw[WL]at Sv⊢;clear s0 s1 s2 s3 s4 WL;have HXn:=af (Nv.o.below Sv.o);have HKn:Hd (wn.heap[wx.heap.size]? =some (xK #[xI k,xI n,xS t,xL ad l.length l.length] 30)):=(Sv.o.block _ rz).trans NA.o;obtain⟨ad2,jh,YR,iM⟩:=HXn.o.row.own Vy.o;obtain rfl:ad2=ad:=by
      have h1:=((eH.o.trans (Sv.o.mono eH.o.size)).cell (p:=⟨B,i*4+3,none⟩) NP.o).trans JJ.o;rw[jh.2.2.2]at h1;simpa using h1
     have HOV:=af (HXn.o.over Lb.o (M0 iM AU));have mC:=af (HXn.o.row.qc6 Lb.o (xI k') (xI n') (xS s') (xL a' m' c'));have JM:=af AU;obtain⟨v0,v1,v2,v3⟩:=jh;obtain⟨y0,y1,y2,y3⟩:=YR;clear iM AU rz DN;go_simp;go_upto_region 13 with fail;obtain⟨W5,mD⟩:=cM ((((wn.setCell ⟨B,i*4,none⟩ (xI k')).setCell ⟨B,i*4+1,none⟩ (xI n')).setCell ⟨B,i*4+2,none⟩ (xS s')).setCell ⟨B,i*4+3,none⟩ (xL a' m' c'));have Ab:=af (show C7 x S w B s m (X.set i (cF S (.mk k n t l))) W5 by rw[mD];exact HOV.o);have uh:=af (show W5.heap[wx.heap.size]? =some (xK #[xI k,xI n,xS t,xL ad2 l.length l.length] 30)by
      have hb:=NP.o;rw[mD,Qag _ _ _ _ (by simp;omega),Qag _ _ _ _ (by simp;omega),Qag _ _ _ _ (by simp;omega),Qag _ _ _ _ (by simp;omega)];exact HKn.o);have H35:=af (show W5.cell? ⟨B,i*4+3,none⟩=some (xL a' m' c')by rw[mD];exact mC.o);rw[<-mD];clear mD HOV mC v0 v1 v2 v3 y0 y1 y2 y3 HKn HXn Sv Nv eH NA lI xN;obtain⟨u0,u1,u2,u3⟩:=ae uh.o;by_cases hk:k=5;rotate_left
     .have HXT:=af (show C7 x S w B s m (tG (dx S) x.aJ (i+1)) W5 by rw[<-tM.o,nO (v:= .mk k n t l) hk];exact Ab.o);have Y3:(k !=5)=true:=by simpa using hk
      clear hk;go_wp2;go_roundg(m-(i+1));case measure=>omega
      case rel=>exact⟨i+1,by omega,rfl,by go_num,HXT⟩
     subst hk;have gw:cF S (.mk 5 n t l)= .mk 5 n t l:=if_neg λh=>absurd (show(5:Int)=4 from h.1) (by decide);obtain⟨rfl,rfl,rfl⟩:a'=ad2/\m'=l.length/\c'=l.length:=by
      rcases JM.o with⟨⟨h,_⟩,_⟩|⟨_,_,_,_,h1,h2,h3⟩
      .exact absurd h (by decide)
      .exact⟨h1,h2,h3⟩
     rw[gw]at Ab;obtain⟨q3,hq3⟩:=fx (l.length);have HL:=af hq3;have iq:=af (show C7 x S w B s m (X.set i (.mk 5 n t (tG (cF S) l 0))) W5 by rw[FX];exact Ab.o);rw[hq3]at uh H35 Ag Xg u3⊢;clear gw Ab JM hq3 JJ;go_wp2;go_loopg [11,12,47]q3(λg _ _ jv wy=>∃j:Nat,j<=q3/\g=q3-j/\jv=xI j/\Hd (C7 x S w B s m (X.set i (.mk 5 n t (tG (cF S) l j))) wy)/\Hd (wy.heap[wx.heap.size]? =some (xK #[xI 5,xI n,xS t,xL a' q3 q3] 30))/\Hd (wy.cell? ⟨B,i*4+3,none⟩=some (xL a' q3 q3)));case atStart=>exact⟨0,Qbf _,rfl,rfl,iq,uh,H35⟩
     case round=>
      clear u0 u1 u2 u3 iq uh H35;obtain⟨j,hj,rfl,rfl,HY,HK,H3⟩:=hrel;rename World=>wy;by_cases xE:j<q3
      .obtain⟨⟨k1,n1,t1,l1⟩,hy⟩:=dQ l j (by rw[HL.o];exact xE);obtain⟨b,hab,cw⟩:=Ag.o (by omega);subst hab;have Rl:Hd ((X.set i (.mk 5 n t (tG (cF S) l j)))[i]? =some (.mk 5 n t (tG (cF S) l j))):=List.getElem?_set_self Lb.o;have VC:Hd ((tG (cF S) l j).length=q3):=KS.trans HL.o;have HYA:Hd ((tG (cF S) l j)[j]? =some (.mk k1 n1 t1 l1)):=Qi hy;have HYS:Hd ((tG (cF S) l j).set j (cF S (.mk k1 n1 t1 l1))=tG (cF S) l (j+1)):=KU hy;generalize tG (cF S) l j=Y at HY Rl VC HYA HYS;have Sg:Hd (∀W,C7 x S w B s m (X.set i (.mk 5 n t Y)) W->W.cell? ⟨B,i*4+3,none⟩=some (xL (some ⟨b,0,none⟩) q3 q3)->B<b/\pJ b W Y):=λW h1 h2=>by
        obtain⟨b',iI,hBb,hr⟩:=h1.row.inner Rl.o (by rw[VC.o];exact h2) (by rw[VC.o];omega);obtain rfl:b=b':=by simpa using iI
        exact⟨hBb,hr⟩
       obtain⟨k0,n0,t0,e0,ht0,⟨p0,p1,p2,p3⟩,-⟩:=(Sg.o _ HY.o H3.o).2.at_ HYA.o;cases e0;obtain⟨u0,u1,u2,u3⟩:=ae HK.o;have HBY:Hd (B<wy.heap.size):=HY.o.row.lt;have HT0:=af ht0;clear hy ht0;go_upto_region 17 with fail;obtain⟨W6,tQ⟩:=cM (wy.alloc (xK #[xI k1,xI n1,xS t1,xL none 0 0] 30));have nt:=af (show aq wy W6 by rw[tQ];exact bO);have Vg:=af (show W6.heap[wy.heap.size]? =some (xK #[xI k1,xI n1,xS t1,xL none 0 0] 30)by rw[tQ];exact Qbh wy _);rw[<-tQ];clear tQ p0 p1 p2 p3 u0 u1 u2 u3;have HY6:=af (HY.o.below nt.o);have HKY:=(Qaa.1 HK.o).1;have N1:=af ((nt.o.block _ HKY).trans HK.o);obtain⟨k7,n7,s7,a7,m7,c7,AU,bA⟩:=FW k1 n1 t1 none 0 0 S;obtain⟨rfl,rfl,rfl⟩:a7=none/\m7=0/\c7=0:=by
        rcases AU with⟨_,_,_,_,h1,h2,h3⟩|⟨_,_,_,_,h1,h2,h3⟩<;>exact⟨h1,h2,h3⟩
       have DN:=fV (w:=W6) (λW hb=>bA _ _ W (HY6.o.below hb).a.cel (HY6.o.below hb).a.set);have tP:=af (show cF S (.mk k1 n1 t1 [])= .mk k7 n7 s7 []/\s7.size<=maxLen by
        have e:cF S (.mk k1 n1 t1 [])=if k1=4/\n1∉S then .mk 0 0 jN []else .mk k1 n1 t1 []:=rfl;rcases AU with⟨h,rfl,rfl,rfl,_⟩|⟨h,rfl,rfl,rfl,_⟩
        .exact⟨by rw[e,if_pos h],fR⟩
        .exact⟨by rw[e,if_neg h],HT0.o⟩);clear bA AU;refine' lC 7 ?kl ?km ?kB1 ?kB ?kh;case kl=>exact rfl
       case km=>kernel_rfl
       case kB1=>kernel_rfl
       case kB=>kernel_rfl
       intro ι _ F oq GC;have rz:=(Qaa.1 N1.o).1;have RN:=(Qaa.1 Vg.o).1;have s0:=λj=>(ae (((oq j).block _ rz).trans N1.o)).2.2.2;have s1:=λj=>(ae (((oq j).block _ RN).trans Vg.o)).1;have s2:=λj=>(ae (((oq j).block _ RN).trans Vg.o)).2.1;have s3:=λj=>(ae (((oq j).block _ RN).trans Vg.o)).2.2.1;have s4:=λj=>(ae (((oq j).block _ RN).trans Vg.o)).2.2.2;have xJ:(0:Int)<=(j:Int):=by omega
       have hz4:(j:Int)<(q3:Int):=by omega
       have lI:=af oq;have xN:=af GC;clear oq GC;simp only[List.take_succ_cons,List.take_zero,Act.put,List.setIfInBounds_toArray,List.set_cons_zero,List.set_cons_succ];repeat(go_big_quiet_step(first
        |(go_at_call 150;refine(DN.o _ (lI.o _)).mono ?_;rintro e w3⟨rfl,bG⟩;exact⟨rfl,xN.o _ ((lI.o _).trans (bG.mono (lI.o _).size))⟩)))
       refine wpQuiet_nil ?_;rintro _⟨nq,rfl⟩;have Sv:Hd (aq W6 (F nq)):=lI.o nq;obtain⟨wn,WL⟩:=fx (F nq);rw[WL]at Sv⊢;clear s0 s1 s2 s3 s4 WL lI xN DN;have HYn:=af (HY6.o.below Sv.o);have H3n:Hd (wn.cell? ⟨B,i*4+3,none⟩=some (xL (some ⟨b,0,none⟩) q3 q3)):=((nt.o.trans (Sv.o.mono nt.o.size)).cell (p:=⟨B,i*4+3,none⟩) HBY.o).trans H3.o;have HKn:=af ((Sv.o.block _ rz).trans N1.o);obtain⟨hBb,Y0⟩:=Sg.o _ HYn.o H3n.o;have YD:=HYn.o.nest Rl.o (by rw[VC.o];exact H3n.o) hBb Y0 (by rw[VC.o];exact xE) k7 n7 s7 tP.o.2;rw[List.set_set,<-tP.o.1,HYS.o]at YD;have DJ:=af YD;have YG:Hd ((gJ wn b (j*4) (xI k7) (xI n7) (xS s7) (xL none 0 0)).heap[wx.heap.size]? =_):=(gp (by omega)).trans HKn.o;have T3:Hd ((gJ wn b (j*4) (xI k7) (xI n7) (xS s7) (xL none 0 0)).cell? ⟨B,i*4+3,none⟩=_):=(World.cell?_of_block (w:=wn) (a:=⟨B,i*4+3,none⟩) (gp (B:=b) (k:=B) (by omega))).trans H3n.o;obtain⟨k2,n2,t2,e2,-,⟨v0,v1,v2,v3⟩,y0,y1,y2,y3⟩:=Y0.at_ HYA.o;clear YD Y0 rz RN e2 HKY;go_simp;go_wp2;go_roundg(q3-(j+1));case measure=>omega
       case rel=>exact⟨j+1,by omega,rfl,by go_num,DJ,YG,T3⟩
      .obtain rfl:j=q3:=by omega
       have HXT:=af (show C7 x S w B s m (tG (dx S) x.aJ (i+1)) wy by
        have h1:=HY.o;rw[KT (by rw[HL.o];exact bq)]at h1;rw[<-tM.o,pK];exact h1);go_wp2;go_roundg(m-(i+1));case measure=>omega
       case rel=>exact⟨i+1,by omega,rfl,by go_num,HXT⟩
    .obtain rfl:i=m:=by omega
     obtain⟨c0,c1,c2,c3⟩:=ae HX.o.a.obj;obtain⟨r0,r1,r2,r3⟩:=ae HX.o.a.res;obtain⟨f0,f1,f2,f3⟩:=ic HX.o.a.res;go_wp2_with fail;refine Qae (v:= .agg #[xI x.id,xI x.cls,xI x.ver,xL (some ⟨B,0,none⟩) i i]) (by simp[results,results100,go_sem,r0,r1,r2,r3]) rfl ⟨_,rfl,⟨_,rfl,?_⟩,?_⟩
     .have hb:=HX.o.base;have GG:=HX.o.row;rw[KT (by rw[HM.o];exact bq),qfe.o.1]at GG;have hlen:(x.aJ.map (dx al)).length=i:=by rw[Qdc];exact HM.o
      have hg:ld mS B wx (x.aJ.map (dx al)).length (x.aJ.map (dx al)):=by rw[hlen];exact⟨s,GG⟩
      have bo:=hg.slice (M:=dP M w 4) (by rw[hlen];unfold maxLen;omega) λj hj=>by
       rcases hj with hj|hj
       .have:=Ro.o j hj;omega
       .omega
      rw[hlen]at bo;exact bo.ev (((((ep wx).setCell (.inl (.inr ⟨by simp,by simp⟩)) _).setCell (.inl (.inr ⟨by simp,by simp⟩)) _).setCell (.inl (.inr ⟨by simp,by simp⟩)) _).setCell (.inl (.inr ⟨by simp,by simp⟩)) _)
     .exact(((HX.o.a.low.setCell (by simp) _).setCell (by simp) _).setCell (by simp) _).setCell (by simp) _
theorem TB {fs:List ay}(h:aW fs many vs):aW fs many (vs.map (dx al)):=by
 refine⟨by simpa using h.1,λi f v hf hv=> ?_⟩;rw[List.getElem?_map]at hv;cases hx:vs[i]? with
 |none=>rw[hx]at hv;simp at hv
 |some x=>
  rw[hx]at hv;simp at hv;subst hv;exact BF (h.2 i f x hf hx)
theorem TC {fs:List ay}(h:aW fs many vs)(hr:∀r∈vs.flatMap (bw 3),r∈S)(ha:∀n∈al,n∈S):∀v∈vs.map (dx al),Pj S v:=by
 intro v hv;obtain⟨x,hx,rfl⟩:=List.mem_map.1 hv;obtain⟨f,_,hf⟩:=dw h x hx;refine⟨λr GN=> ?_,λr GN=>ha r (sV hf r GN)⟩;rw[vQ hf]at GN;exact hr r (List.mem_flatMap.2 ⟨x,hx,GN⟩)
theorem jb.alive {x:bE}(h:fL x){o:bH}(hl:jb x i o)(hS:∀n,n∈S↔Mk.AG (bM x) (cZ x) n)(ho:o.id∈S)(ha:∀n∈al,n∈S):rJ x S {o with aJ:=o.aJ.map (dx al)}:=by
 have hr:=hl.refs h;obtain⟨o0,k,v,l,us,h1,h2,h3,rfl⟩:=hl;have hi:=(h.objs i o0 h1).1;have hv:=h3.1;rw[zp]at hv;refine⟨ho,⟨k,l,rfl,h2.line,TB hv⟩,TC hv (λr hrr=> ?_) ha⟩;rw[hr]at hrr;have Ch:o0.id∈S:=ho;rw[hi]at Ch;exact(hS r).2 (.step _ _ ((hS _).1 Ch) hrr)
theorem jb.num {x:bE}(h:fL x){o:bH}(hl:jb x i o):o.id=(i:Int)+1:=by
 obtain⟨o0,k,v,l,us,h1,_,_,rfl⟩:=hl;exact(h.objs i o0 h1).1
theorem zN {f:au->List Int}:∀{vs:List au},(∀v∈vs,(f v).length<=12)->(vs.flatMap f).length<=12*vs.length
 |[],_=>by simp
 |v::r,h=>by
  have h1:=h v (by simp);have h2:=zN (vs:=r) λy hy=>h y (by simp[hy]);simp only[List.flatMap_cons,Qda,Qcc];omega
theorem TD(x:bE)(h:fL x)(S:List Int)(hS:∀n,n∈S↔Mk.AG (bM x) (cZ x) n)(ls:List bH)(i:Nat)(o:bH)(ho:ls[i]? =some o)(je:jb x i o)(jn:o.id∈S)(M:aS)(w:aj)(hM:Bd M w)(hT:Tb w)(lv:an)(pm sb:Nat)(es:List (Int×an×Nat))(clk:Nat)
 (DA:ab M w lv ls)(DS:cg nU w pm es clk)(J7:bP es ((i:Int)+1)=some (xI (i:Int)))(kF:Mk.cu w sb S):
 xG 53 #[.agg #[lv, .map (some pm)],xI ((i:Int)+1), .map (some sb)] w λu w'=>∃(o':bH)(vv:an),u= .agg #[xI o'.id,xI o'.cls,xI o'.ver,vv]/\ab M w' vv o'.aJ/\rJ x S o':=by
 obtain⟨fs,DO,h8⟩:=je.aJ h;have GY:=h.len;obtain⟨b,off,cap,va,vc,rfl,cw,dt,aw⟩:=eD DA ho;have RO:(o.aJ.flatMap (bw 4)).length<=1000:=by
  have:=zN (f:=bw 4) (vs:=o.aJ) λv hv=>by
   obtain⟨f,_,hf⟩:=dw DO v hv;exact kI hf 4
  omega
 have zV:i<ls.length:=(Qad.1 ho).1;obtain⟨W1,dS⟩:=cM ((((w.alloc (xK #[xL (some ⟨b,off,none⟩) ls.length cap, .map (some pm)] 123)).alloc (xK #[.map (some sb)] 91)).alloc (xK #[xI 0,xI 0,xI 0,xL none 0 0] 65)));have aO:=af (Bx.gI w (xK #[xL (some ⟨b,off,none⟩) ls.length cap, .map (some pm)] 123) (xK #[.map (some sb)] 91) (xK #[xI 0,xI 0,xI 0,xL none 0 0] 65));have cY:W1.heap.size=w.heap.size+1+1+1:=by rw[dS];simp
 rw[<-dS]at aO;have aL:Hd (Bx w [xK #[xL (some ⟨b,off,none⟩) ls.length cap, .map (some pm)] 123,xK #[.map (some sb)] 91,xK #[xI 0,xI 0,xI 0,xL none 0 0] 65,xK #[xI o.id,xI o.cls,xI o.ver,xL va o.aJ.length vc] 65] (W1.alloc (xK #[xI o.id,xI o.cls,xI o.ver,xL va o.aJ.length vc] 65))):=aO.o.snoc (by simpa using cY) _;have HWK:=fV (w:=w) (λW hb=>Kx 4 98 (.inr ⟨rfl,rfl⟩) o x.objs.length (by omega) fs DO h8 M W (hM.below hb) (xL va o.aJ.length vc) (dt.below hb) (hT.below hb));have HDL:Hd (∀W B v,aq w W->w.heap.size+4<=B->cI W (w.heap.size+1) (xK #[.map (some sb)] 91)->aP (α:=Int) xF B 3 W v (o.aJ.flatMap (bw 4))->_):=λW B v hb hB hp hacc=>Jt S (w.heap.size+1) sb B _ RO v W hacc hp (kF.same (hb.block sb kF.lt)) (by omega) (by have:=kF.lt;omega) (dP M w 4) (λi hi=>by have:=pF hM i hi;omega);have pX:Hd (∀W(al:List Int)av,aq w W->w.heap.size+4<=W.heap.size->al.length<=1000->ab (α:=Int) (dP M w 4) W av al->_):=λW al av hb hz GH hav=>Qj o DO (by omega) al GH (dP M w 4) W (xL va o.aJ.length vc) av (dp hM hz) (dt.ev (cW hb)) hav;have GX:Hd (∀al:List Int,(∀n∈al,n∈S)->rJ x S {o with aJ:=o.aJ.map (dx al)}):=λal ha=>je.alive h hS jn ha;have oW:=zM (w:=W1) ((aO.o.1.block _ (Qaa.1 DS).1).trans DS) ((i:Int)+1) _ J7;obtain⟨g0,g1,g2,g3⟩:=aw W1 aO.o.1;obtain⟨k0,k1⟩:=ah (aO.o.bJ rfl);have DK:∀(fn:Fn)(first cap:Array an)(w:aj),(Instr.makeFunc fn first cap).run prog w= .ok (.func fn first cap) w:=λ_ _ _ _=>rfl;have TU:(0:Int)<=(i:Int):=by omega
 have U5:(i:Int)<(ls.length:Int):=by omega
 have Ar:=af RO;have RL:=af cY;clear DO h h8 GY dt aw DA hM hT je hS jn kF DS J7 RO ho cY aO cw zV;generalize ls.length=nl at*;generalize o.aJ.flatMap (bw 4)=L at*;generalize Y1:o.aJ.length=ol at*;have Yd:=af Y1;clear Y1;go_enter func53,ntmps53;go_upto_region 1 with fail;rw[<-dS];clear dS;go_upto_region 2 with fail;obtain⟨W2,fT⟩:=cM (W1.alloc (xK #[xI o.id,xI o.cls,xI o.ver,xL va ol vc] 65));rw[<-fT]at aL⊢;rw[RL.o];clear fT oW g0 g1 g2 g3 k0 k1;obtain⟨o0,o1,o2,o3⟩:=ae (aL.o.Ay rfl);go_wp2_with fail;refine(HWK.o _ aL.o.1).mono ?_;rintro e w3⟨lv,rfl,⟨B,hB,hacc⟩,bG⟩;have bI:=af (aL.o.below bG);have hsz:=aL.o.bY;have HDX:=af (HDL.o w3 B lv bI.o.1 (by have:w.heap.size+4<=W2.heap.size:=hsz;omega) (bI.o.cE rfl) hacc);obtain⟨la,lc,rfl,_⟩:=hacc.open_;have Gr:=af (show w.heap.size+4<=B by have:w.heap.size+4<=W2.heap.size:=hsz;omega);clear o0 o1 o2 o3 hacc bG hB hsz HDL HWK;go_wp2_with fail;refine(HDX.o).mono ?_;rintro e w4⟨_,al,rfl,bo,GH,hlen,ho⟩;obtain⟨ka,kc,rfl,_⟩:=bo.open_;have A0:Hd (Below (w.heap.size+4) w3 w4):=⟨ho.os,ho.tape,ho.output,ho.size,λk hk=>ho.block k (by have h1:w.heap.size+4<=w3.heap.size:=bI.o.bY;omega) (by have:=Gr.o;omega)⟩;have eH:=af (bI.o.cP A0.o bq);have HCX:=af (pX.o w4 al _ eH.o.1 eH.o.bY (by have:=Ar.o;omega) bo);have TX:=af (GX.o al GH);clear bo GH hlen ho HDX pX GX A0;obtain⟨o0,o1,o2,o3⟩:=ae (eH.o.Ay rfl);go_wp2_with fail;refine(HCX.o).mono ?_;rintro e w5⟨_,rfl,⟨vv,rfl,wX⟩,lL⟩;obtain⟨za,zc,rfl,_⟩:=wX.open_;have j7:=af (eH.o.below lL);have HVV:=af wX;rw[Qdc,Yd.o]at HVV⊢;clear o0 o1 o2 o3 lL wX;obtain⟨r0,r1,r2,r3⟩:=ae (j7.o.gy rfl);obtain⟨f0,f1,f2,f3⟩:=ic (j7.o.gy rfl);go_wp2_with fail;refine Qae (v:= .agg #[xI o.id,xI o.cls,xI o.ver,xL za ol zc]) (by simp[results,results53,go_sem,r0,r1,r2,r3]) rfl ⟨_,rfl,⟨{o with aJ:=o.aJ.map (dx al)},_,rfl,?_,TX.o⟩,?_⟩
 .exact HVV.o.ev (((((ep w5).setCell (.inl (.inr ⟨by simp;omega,by simp⟩)) _).setCell (.inl (.inr ⟨by simp;omega,by simp⟩)) _).setCell (.inl (.inr ⟨by simp;omega,by simp⟩)) _).setCell (.inl (.inr ⟨by simp;omega,by simp⟩)) _)
 .exact(((j7.o.1.setCell (by simp;omega) _).setCell (by simp;omega) _).setCell (by simp;omega) _).setCell (by simp;omega) _
theorem Ju:(Tryz.prog.info? 74).map (λi=>(i.zero,i.size,i.bytes))=some (some (.agg #[xS ⟨#[]⟩,xI 0]),2,24):=by kernel_rfl
theorem tK(M:aS)(w:aj)(v:an)(l:List cT)(h:ab M w v l)(hl:l.length<=40):
 xG 52 #[v] w λv w'=>aP M w.heap.size 74 w' v l:=by
 obtain⟨i0,dz,dX,cY,dA⟩:=info_parts Ju;have HS:=af h;obtain⟨a,c,rfl,cK,qE,ho⟩:=h.open_;have HE:Hd (aP (α:=cT) M w.heap.size 74 (w.alloc (xK #[] 74)) (xL (some ⟨w.heap.size,0,none⟩) 0 0) []):=aP.made M #[] 0 bq (by unfold maxLen;omega) rfl;have q89:∀(w:aj)(a:dC)(n c n' c':Nat),(binOp .eql 38 (.slice a n c) (.slice none n' c')).run prog w= .ok (.bool a.isNone) w:=λw a n c n' c'=>Lib.run_eql_slice_nil w _ _ a n c n' c' underlying38;obtain⟨n,hn⟩:=fx (l.length);have HO:Hd (a=none->l=[]):=λha=>by
  by_cases hp:0<l.length
  .obtain⟨b,off,h1,_⟩:=ho hp;rw[ha]at h1;cases h1
  .exact List.length_eq_zero_iff.1 (by omega)
 rw[hn]at hl cK⊢;have eB:=af (show ab M w (xL a n c) l by rw[<-hn];exact HS.o);have HN:=af hn;cases a with
 |none=>
  obtain rfl:=HO.o rfl;go_enter func52,ntmps52;go_wp2;go_ret;exact⟨_,rfl,aP.nil _ _ _ _,dK⟩
 |some adr=>
 go_enter func52,ntmps52;go_wp2_with(at_builtin;go_loud(refine cV (α:=cT) rfl _ _ _ rfl M w.heap.size 74 i0 _ 24 underlying38 dz dX cY dA rfl (by decide) (.slice (some ⟨w.heap.size,0,none⟩) 0 0) [] rfl HE.o (.slice (some adr) n c) l rfl (eB.o.ev (xw HE.o rfl bO)) (by rw[HN.o];simp;unfold maxLen;omega) (by rw[HN.o];simp;omega) (by simp) ?_);rw[HN.o];simp only[Qcd,Nat.zero_add,List.nil_append];intro a2 c2 w2 bu dr aY;have cL:=af bu;have bI:Hd (aq w w2):=bO.trans aY;clear bu dr aY);go_ret;exact⟨_,rfl,cL.o,bI.o⟩
theorem M7(x:bE)(M:aS)(w:aj)(lv ov rv:an)(ug:lv.oneCell'=true)(NZ:ov.oneCell'=true)(name:aT)(kN:ab M w rv x.roots):
 xC 29 #[.agg #[lv,ov,rv,xI x.next],xS name] w λe w'=>(∃(n:Int)(b:Bool),e=xR (.tuple #[xI n,xB b])/\(b=true->∃r∈x.roots,n=r.id))/\aq w w':=by
 have HR:Hd (∀i r,x.roots[i]? =some r->_):=λi r hr=>gj kN hr;obtain⟨ra,rc,rfl,QP,YS,_⟩:=kN.open_;obtain⟨m,JZ⟩:=fx (x.roots.length);have Ut:=af JZ;rw[JZ]at QP⊢;clear kN JZ;go_enter func29,ntmps29;go_wp2;go_loopg [4,5,7,11]m(λg r4 r5 _ iv wr=>∃j:Nat,j<=m/\g=m-j/\iv=xI j/\r4=xI 0/\r5=xB false/\Hd (Bx w [xK #[lv,ov,xL ra m rc,xI x.next] 40] wr));case atStart=>exact⟨0,Qbf _,rfl,rfl,rfl,rfl,(Bx.dR w _)⟩
 case round=>
  obtain⟨j,hj,rfl,rfl,rfl,rfl,HB⟩:=hrel;by_cases aX:j<m
  .obtain⟨r,hr⟩:=dQ x.roots j (by rw[Ut.o];exact aX);obtain⟨b,off,cap,hv,cw,_,aw⟩:=HR.o j r hr;obtain⟨rfl,rfl⟩:=gY hv;obtain⟨g0,g1⟩:=aw _ HB.o.1;have Uw:=af (Qaf hr);clear hv aw hr;by_cases hq:(r.name.toList==name.toList)=true
   .go_wp2;go_ret2;exact⟨⟨_,true,rfl,λ_=>⟨r,Uw.o,rfl⟩⟩,(HB.o.alloc _).1⟩
   .go_wp2;go_roundg(m-(j+1));case measure=>omega
    case rel=>exact⟨j+1,by omega,rfl,by go_num,rfl,rfl,af (HB.o.alloc _)⟩
  .go_wp2;go_ret2;exact⟨⟨0,false,rfl,λh=>by cases h⟩,HB.o.1⟩
structure lG(S:List Int)(many:Int)(v:au):Prop where
 ins:Pj S v
 ok:∃t,db t many v
theorem kU.now {k:Int}{v:au}(h:kU k many v):∃t,db t many v:=
 ⟨⟨k,0⟩, .inr ⟨by rcases h with⟨h,_⟩|⟨h,_⟩|⟨h,_⟩<;>(show k≠5;omega),h⟩⟩
theorem lG.item {S:List Int}{k n:Int}(h:lG S many (.mk k n s l))(hk:k=5)(hy:y∈l):lG S many y/\y.list=[]:=by
 obtain⟨t,ht⟩:=h.ok;rcases ht with⟨_,l',e,_,hx⟩|⟨_,h1⟩
 .cases e;exact⟨⟨h.ins.item hk hy (mP (hx y hy)),(hx y hy).now⟩,mP (hx y hy)⟩
 .exact absurd hk (by simpa [au.kind]using kH h1)
theorem lG.ref {S:List Int}{n:Int}(h:n∈S)(h1:1<=n)(h2:n<=many):lG S many (.mk 3 n jN []):=
 ⟨Pj.ref h,⟨3,0⟩, .inr ⟨by decide, .inr (.inr ⟨.inl rfl, .inr ⟨n,rfl,h1,h2⟩⟩)⟩⟩
def JE(lv ov rv:an)(nx k n:Int)(s:aT)(v:an):Obj:=xK #[lv,ov,rv,xI nx,xI k,xI n,xS s,v] 83
theorem jA {lv ov rv:an}{nx k n:Int}{W:aj}{p:Nat}(h:cI W p (JE lv ov rv nx k n s v)):
 (aU W p 0 lv/\aU W p 1 ov/\aU W p 2 rv/\aU W p 3 (xI nx))/\(aU W p 4 (xI k)/\aU W p 5 (xI n)/\aU W p 6 (xS s)/\aU W p 7 v)/\
   W.frozen? ⟨p,4,none⟩=false/\W.frozen? ⟨p,5,none⟩=false/\W.frozen? ⟨p,6,none⟩=false/\W.frozen? ⟨p,7,none⟩=false:=
 ⟨⟨cell_of_heap h rfl,cell_of_heap h rfl,cell_of_heap h rfl,cell_of_heap h rfl⟩,⟨cell_of_heap h rfl,cell_of_heap h rfl,cell_of_heap h rfl,cell_of_heap h rfl⟩,ag h 4,ag h 5,ag h 6,ag h 7⟩
theorem TI {lv ov rv:an}{nx k n:Int}{W:aj}{p:Nat}(h:cI W p (JE lv ov rv nx k n s v))(k' n':Int)(s':aT)(v':an):(gJ W p 4 (xI k') (xI n') (xS s') v').heap[p]? =some (JE lv ov rv nx k' n' s' v'):=
 dM (o:=4) h (xI k') (xI n') (xS s') v'
def rQ(x:bE)(S:List Int)(N:aS)(p:Nat)(lv ov rv:an)(w:aj):Prop:=
 ∃(k n:Int)(s:aT)(l:List au)(a:dC)(c:Nat),w.heap[p]? =some (JE lv ov rv x.next k n s (xL a l.length c))/\s.size<=maxLen/\ab N w (xL a l.length c) l/\lG S x.objs.length (.mk k n s l)
section
variable {x:bE}{S:List Int}{N:aS}{p:Nat}{lv ov rv:an}{w W:aj}
theorem rQ.below(h:rQ x S N p lv ov rv w)(hb:aq w W):rQ x S N p lv ov rv W:=by
 obtain⟨k,n,s,l,a,c,h1,h2,h3,h4⟩:=h;exact⟨k,n,s,l,a,c,(hb.block p (Qaa.1 h1).1).trans h1,h2,h3.below hb,h4⟩
theorem rQ.to(hp:N p){k n:Int}(h:cI W p (JE lv ov rv x.next k n s v)){k' n':Int}{s':aT}{l':List au}{a':dC}{c':Nat}(hs:s'.size<=maxLen)(hl:ab N W (xL a' l'.length c') l')(hn:lG S x.objs.length (.mk k' n' s' l')):
 rQ x S N p lv ov rv (gJ W p 4 (xI k') (xI n') (xS s') (xL a' l'.length c')):=
 ⟨k',n',s',l',a',c',TI h _ _ _ _,hs,hl.ev (((((Ev.refl N W).setCell (.inl hp) _).setCell (.inl hp) _).setCell (.inl hp) _).setCell (.inl hp) _),hn⟩
theorem Gc(hb:aq w W){a b c d:an}:ai (λk=>k=p) w (gJ W p 4 a b c d):=
 ((((ai.ao (S:=λk=>k=p) hb).setCell (p:=⟨p,4,none⟩) (.inl rfl) _).setCell (p:=⟨p,5,none⟩) (.inl rfl) _).setCell (p:=⟨p,6,none⟩) (.inl rfl) _).setCell (p:=⟨p,7,none⟩) (.inl rfl) _
end
theorem Dd(x:bE)(S:List Int)(N:aS)(p:Nat)(hp:N p)(w:aj)(lv ov rv:an)(f:aT)(at_:Int)(h:rQ x S N p lv ov rv w):
 xC 30 #[xP p, .agg #[xS f,xI at_]] w λe w'=>(∃n,e=xR (xI n))/\rQ x S N p lv ov rv w'/\ai (λk=>k=p) w w':=by
 have HW:=af h;obtain⟨k,n,s,l,a,c,hb,hs,hl,hn⟩:=h;have gO:=(Qaa.1 hb).1;have bN:=af (Bx.dR w (xK #[xS f,xI at_] 85));have Rf:Hd (∀W,aq w W->cI W p (JE lv ov rv x.next k n s (xL a l.length c))):=λW h=>(h.block p gO).trans hb;have Kb:Hd (∀W,aq w W->rQ x S N p lv ov rv W/\ai (λk=>k=p) w W):=λW iI=>⟨HW.o.below iI,ai.ao iI⟩;have HHP:Hd (N p):=hp;obtain⟨-,⟨p4,p5,p6,p7⟩,-⟩:=jA (Rf.o _ bN.o.1);by_cases hk:k=5;rotate_left
 .have Y3:(k !=5)=true:=by simpa using hk
  clear hb hl hn hp;go_enter func30,ntmps30;go_wp2;go_ret;exact⟨⟨_,rfl⟩,Kb.o _ bN.o.1⟩
 subst hk;by_cases h0:at_<0
 .have hd:decide (at_<0)=true:=by simpa using h0
  clear hb hl hn hp;go_enter func30,ntmps30;go_wp2_with fail;go_quiet(fail);go_wp2;go_ret;exact⟨⟨_,rfl⟩,Kb.o _ (bN.o.drewN _).1⟩
 obtain⟨j,rfl⟩:∃j:Nat,at_=(j:Int):=⟨at_.toNat,by omega⟩;have hd:decide ((j:Int)<0)=false:=by simp
 by_cases hj:j<l.length;rotate_left
 .have RU:decide ((l.length:Int)<=(j:Int))=true:=by simp;omega
  generalize l.length=m at*;clear hb hl hn hp;go_enter func30,ntmps30;go_wp2_with fail;go_quiet(fail);go_wp2;go_ret;exact⟨⟨_,rfl⟩,Kb.o _ (bN.o.drewN _).1⟩
 have RU:decide ((l.length:Int)<=(j:Int))=false:=by simp;omega
 obtain⟨⟨k1,n1,s1,ll⟩,hx⟩:=dQ l j hj;obtain⟨oS,JX⟩:=hn.item rfl (Qaf hx);obtain rfl:ll=[]:=JX;obtain⟨b2,J0,oY,a1,c1,vw,_,bo,dB,jh⟩:=dZ hl hx;obtain⟨rfl,rfl⟩:=gY vw;have HC:=af jh;have eE:=af (And.intro dB (And.intro bo oS));have cY:(0:Int)<=(j:Int):=by omega
 have dA:(j:Int)<(l.length:Int):=by omega
 generalize l.length=m at*;clear hb hl hn hp vw jh hx bo dB oS;go_enter func30,ntmps30;go_wp2_with fail;go_quiet(fail);obtain⟨W2,fT⟩:=cM ((w.alloc (xK #[xS f,xI j] 85)).drewN nq);have aL:=af (bN.o.drewN nq);rw[<-fT]at aL⊢;clear fT p4 p5 p6 p7 bN;have HE:=fV (w:=W2) (λW hb=>And.intro (jA (Rf.o W (aL.o.below hb).1)) (And.intro (ah ((aL.o.below hb).bJ rfl)) (HC.o W (aL.o.below hb).1).1));go_upto_region 5 with fail;refine' lC 12 ?hl ?hm ?hB1 ?hB ?hh;case hl=>exact rfl
 case hm=>kernel_rfl
 case hB1=>kernel_rfl
 case hB=>kernel_rfl
 intro ι _ F oq GC;have s0:=λi=>(HE.o _ (oq i)).1.2.1.2.2.2;have s1:=λi=>(HE.o _ (oq i)).2.1.2;have s2:=λi=>(HE.o _ (oq i)).2.2.1;have s3:=λi=>(HE.o _ (oq i)).2.2.2.1;have s4:=λi=>(HE.o _ (oq i)).2.2.2.2.1;have s5:=λi=>(HE.o _ (oq i)).2.2.2.2.2;dsimp only[List.length_nil]at s5;have lI:=af oq;clear oq GC;simp only[List.take_succ_cons,List.take_zero,Act.put,List.setIfInBounds_toArray,List.set_cons_zero,List.set_cons_succ];repeat(go_big_quiet_step(fail))
 refine wpQuiet_nil ?_;rintro _⟨nq,rfl⟩;have bI:Hd (aq w (F nq)):=(aL.o.below (lI.o nq)).1;obtain⟨-,⟨p4,p5,p6,p7⟩,f4,f5,f6,f7⟩:=(HE.o _ (lI.o nq)).1;clear s0 s1 s2 s3 s4 s5;go_simp;go_wp2;go_ret;have h1:=rQ.to (S:=S) HHP.o (Rf.o _ bI.o) eE.o.1 (eE.o.2.1.below bI.o) eE.o.2.2;have h2:=Gc (p:=p) (a:=xI k1) (b:=xI n1) (c:=xS s1) (d:=xL a1 0 c1) bI.o;unfold gJ at h1 h2;exact⟨⟨_,rfl⟩,h1,h2⟩
theorem JF {α:Type} [aA α]{a b c d:an}(hx:dY w3 W1 (.cells cur t (0,0)))(h4:cur.size=4)(hj:aq W1 w3):
 aq W1 (gJ w3 W1.heap.size 0 a b c d)/\(gJ w3 W1.heap.size 0 a b c d).heap[W1.heap.size]? =some (xK #[a,b,c,d] t)/\∀{v:an}{l:List α},ab (Ao N W1 (W1.heap.size+1)) w3 v l->ab N (gJ w3 W1.heap.size 0 a b c d) v l:=by
 have hv:Ao N W1 (W1.heap.size+1) W1.heap.size:= .inr ⟨bq,Nat.lt_succ_self _⟩;refine⟨(((hj.setCell bq _).setCell bq _).setCell bq _).setCell bq _,?_,λhs=>hs.ev (((((Ev.eG w3 λi hi=> .inl hi).setCell (.inl hv) _).setCell (.inl hv) _).setCell (.inl hv) _).setCell (.inl hv) _)⟩;obtain⟨l⟩:=cur;match l,h4 with
 |[_,_,_,_],_=>exact dM (o:=0) hx a b c d
theorem De {α:Type} [aA α]{a b:an}(hx:dY w3 W1 (.cells cur t (0,0)))(h4:cur.size=2)(hj:aq W1 w3):
 aq W1 ((w3.setCell ⟨W1.heap.size,0,none⟩ a).setCell ⟨W1.heap.size,1,none⟩ b)/\((w3.setCell ⟨W1.heap.size,0,none⟩ a).setCell ⟨W1.heap.size,1,none⟩ b).heap[W1.heap.size]? =some (xK #[a,b] t)/\∀{v:an}{l:List α},ab (Ao N W1 (W1.heap.size+1)) w3 v l->ab N ((w3.setCell ⟨W1.heap.size,0,none⟩ a).setCell ⟨W1.heap.size,1,none⟩ b) v l:=by
 have hv:Ao N W1 (W1.heap.size+1) W1.heap.size:= .inr ⟨bq,Nat.lt_succ_self _⟩;refine⟨(hj.setCell bq _).setCell bq _,?_,λhs=>hs.ev (((Ev.eG w3 λi hi=> .inl hi).setCell (.inl hv) _).setCell (.inl hv) _)⟩;obtain⟨l⟩:=cur;match l,h4 with
 |[_,_],_=>exact Qca _ _ 1 _ _ b (Qca _ _ 0 _ _ a hx)
theorem nh {α:Type} [aA α]{T:Nat}(hj:aq W1 w3):
 aq W1 (w3.alloc o)/\(w3.alloc o).heap[w3.heap.size]? =some o/\∀{v:an}{l:List α},ab (Ao N W1 T) w3 v l->ab N (w3.alloc o) v l:=
 ⟨hj.alloc hj.size _,Qbh w3 _,λhs=>(hs.below bO).ev (Ev.eG _ λi hi=> .inl hi)⟩
def Ge(M:aS)(l:List bH)(w':aj)(oi oc:Int)(ua:dC)(un uc:Nat)(b:Bool):Prop:=b=true->∃o∈l,oi=o.id/\oc=o.cls/\un=o.aJ.length/\ab M w' (xL ua un uc) o.aJ
theorem KZ.to {l:List bH}(h:KZ M l v w'):∃oi oc ov ua un uc b,v= .tuple #[.agg #[xI oi,xI oc,xI ov,xL ua un uc],xB b]/\Ge M l w' oi oc ua un uc b:=by
 rcases h with rfl|⟨o,a,c,ho,rfl,hs⟩
 .exact⟨_,_,_,_,_,_,_,rfl,λh=>by cases h⟩
 .exact⟨_,_,_,_,_,_,_,rfl,λ_=>⟨o,ho,rfl,rfl,rfl,hs⟩⟩
theorem Ge.to {l:List bH}{w'':aj}{oi oc:Int}{ua:dC}{un uc:Nat}{b:Bool}(h:Ge M l w' oi oc ua un uc b)(k:∀{v:an}{vs:List au},ab M w' v vs->ab N w'' v vs):Ge N l w'' oi oc ua un uc b:=λhb=>by
 obtain⟨o,h1,h2,h3,h4,h5⟩:=h hb;exact⟨o,h1,h2,h3,h4,k h5⟩
theorem Df(x:bE)(S:List Int)(ls:List bH)(hL:TH x S ls)(N:aS)(p:Nat)(hp:N p)(w:aj)(hM:Bd N w)(hT:Tb w)(lv ov rv:an)(j8:ab N w lv x.lines)(kn:ab N w ov ls)(kN:rv.oneCell'=true)(f:aT)(at_:Int)(h:rQ x S N p lv ov rv w):
 xC 31 #[xP p, .agg #[xS f,xI at_]] w λe w'=>(∃n,e=xR (xI n))/\rQ x S N p lv ov rv w'/\ai (λk=>k=p) w w':=by
 have HW:=af h;have ug:=ez j8;obtain⟨k,n,s,l,a,c,hb,hs,hl,hn⟩:=h;have gO:=(Qaa.1 hb).1;obtain⟨W1,dS⟩:=cM (w.alloc (xK #[xS f,xI at_] 85));have bN:=af (Bx.dR w (xK #[xS f,xI at_] 85));rw[<-dS]at bN;have Rf:Hd (∀W,aq w W->cI W p (JE lv ov rv x.next k n s (xL a l.length c))):=λW h=>(h.block p gO).trans hb;have Kb:Hd (∀W,aq w W->rQ x S N p lv ov rv W/\ai (λk=>k=p) w W):=λW iI=>⟨HW.o.below iI,ai.ao iI⟩;have HHP:Hd (N p):=hp;have Vx:Hd (∀T W,aq W1 W->T<=W.heap.size->_):=λT W iI hT'=>Nb ls (by have:=hL.len;omega) (Ao N W1 T) W lv ov rv x.next n ug kN (C5 (hM.below bN.o.1) iI hT') ((kn.below bN.o.1).ev (rO T iI));have pX:Hd (∀o∈ls,∃(kk:Nat)(ln:aK),o.cls=(kk:Int)/\x.lines[kk]? =some ln/\aW (aI ln ln.changes.length).fields x.objs.length o.aJ/\(∀v∈o.aJ,Pj S v)/\ln.first.name.size<=maxLen):=λo ho=>by
  obtain⟨kk,ln,h1,h2,h3⟩:=(hL.live o ho).cls;exact⟨kk,ln,h1,h2,h3,(hL.live o ho).aJ,by have:=(hL.ok.sch.lines ln (Qaf h2)).first.small;unfold maxLen;omega⟩
 have Q7:Hd (∀W0 T W(kk:Nat)ln,aq w W0->aq W0 W->T<=W.heap.size->x.lines[kk]? =some ln->_):=λW0 T W kk ln kD iI hT' hk=>zR x.lines hL.ok.sch kk ln hk (Ao N W0 T) W (C5 (hM.below kD) iI hT') (hT.below (kD.trans (iI.mono kD.size))) lv ((j8.below kD).ev (rO T iI));obtain⟨la,lc,rfl,_⟩:=j8.open_;clear hb hl hn hp j8 kn hL hT hM hs;obtain⟨⟨p0,p1,p2,p3⟩,⟨p4,p5,p6,p7⟩,-⟩:=jA (Rf.o _ bN.o.1);obtain⟨u0,u1⟩:=ah (bN.o.bJ rfl);generalize x.lines.length=nl at*;generalize l.length=m at*;go_enter func31,ntmps31;go_upto_region 1 with fail;rw[<-dS];clear dS;go_cut [23](λv wx=>lZ v/\W1=wx);case first=>
  rcases Decidable.em (k=3)with rfl|h3
  .go_wp2;go_meet;exact⟨⟨_,rfl⟩,rfl⟩
  rcases Decidable.em (k=4)with rfl|h4
  .go_wp2;go_meet;exact⟨⟨_,rfl⟩,rfl⟩
  have h3':(k !=3)=true:=by simpa using h3
  have WO:(k !=4)=true:=by simpa using h4
  go_wp2;go_meet;exact⟨⟨_,rfl⟩,rfl⟩
 case rest=>
 obtain⟨⟨b,rfl⟩,rfl⟩:=hcut;cases b;rotate_left
 .go_wp2;go_ret;exact⟨⟨_,rfl⟩,Kb.o _ bN.o.1⟩
 go_upto_region 3 with fail;clear p0 p1 p2 p3 p4 p5 p6 p7 u0 u1;have dn:Hd (∀W,aq W1 W->aU W p 0 (xL la nl lc)/\aU W p 1 ov/\aU W p 2 rv/\aU W p 3 (xI x.next)/\aU W p 5 (xI n)):=λW hb=>by
  obtain⟨⟨p0,p1,p2,p3⟩,⟨_,p5,_⟩,_⟩:=jA (Rf.o W (bN.o.below hb).1);exact⟨p0,p1,p2,p3,p5⟩
 have HJ:Hd (aq W1 W1):=dK;have rC:Hd (W1.heap.size<=W1.drew.heap.size):=bq;have eB:Hd (∀o,W1.heap.size+1<=(W1.alloc o).drew.heap.size):=λo=>by show W1.heap.size+1<=(W1.alloc o).heap.size;simp
 have iq:Hd (∀o,W1.heap.size+1<=(W1.drew.alloc o).heap.size):=λo=>by show W1.heap.size+1<=(W1.alloc o).heap.size;simp
 go_cut [5,6](λs5 s6 wx=>∃(K:Nat)(oi oc ov:Int)(ua:dC)(un uc:Nat)(b:Bool),s5=xP K/\s6=xB b/\Hd (aq W1 wx)/\Hd (cI wx K (xK #[xI oi,xI oc,xI ov,xL ua un uc] 65))/\Hd (Ge N ls wx oi oc ua un uc b));case first=>
  go_region_held3(λw'=>w'.cell? ⟨p,0,none⟩=some (xL la nl lc)/\w'.cell? ⟨p,1,none⟩=some ov/\w'.cell? ⟨p,2,none⟩=some rv/\w'.cell? ⟨p,3,none⟩=some (xI x.next)/\w'.cell? ⟨p,5,none⟩=some (xI n))
   (with_reducible first|exact dn.o _ HJ.o|exact dn.o _ HJ.o.drew|exact dn.o _ (HJ.o.alloc HJ.o.size _)|exact dn.o _ ((HJ.o.alloc HJ.o.size _).drew)|exact dn.o _ (HJ.o.drew.alloc HJ.o.size _)|exact dn.o _ cR.o|exact dn.o _ (cR.o.alloc cR.o.size _)|exact dn.o _ ((((cR.o.setCell bq _).setCell bq _).setCell bq _).setCell bq _))
   (first|(go_at_call 65;first
           |(with_reducible refine(Vx.o W1.heap.size _ HJ.o.drew rC.o).mono ?_)
           |(with_reducible refine(Vx.o (W1.heap.size+1) _ (HJ.o.alloc HJ.o.size _).drew (eB.o _)).mono ?_)
           |(with_reducible refine(Vx.o (W1.heap.size+1) _ (HJ.o.drew.alloc HJ.o.size _) (iq.o _)).mono ?_)
           |fail
           rintro e w3⟨_,rfl,jn,bG⟩;obtain⟨oi,oc,ov2,ua,un,uc,bb,rfl,hto⟩:=jn.to;have T2:=af hto;try(with_reducible(have HX:=af (Yq bG)))
           try(with_reducible(have HX:=af (Yr bG)))
           try(have g0:=ag HX.o 0)
           try(have g1:=ag HX.o 1)
           try(have g2:=ag HX.o 2)
           try(have g3:=ag HX.o 3)
           try(have hq:=ae HX.o)
           have cR:Hd (aq W1 w3):=(by with_reducible first|exact af (AK bG)|exact af (Tp bG)|exact af (Tq bG));clear jn hto bG));all_goals(go_wp2;go_meet)
  all_goals first
   |exact⟨_,oi,oc,ov2,ua,un,uc,bb,rfl,rfl,af (JF (α:=au) (N:=N) HX.o rfl cR.o).1,af (JF (α:=au) (N:=N) HX.o rfl cR.o).2.1,af (T2.o.to (JF HX.o rfl cR.o).2.2)⟩
   |exact⟨_,oi,oc,ov2,ua,un,uc,bb,rfl,rfl,af (nh (α:=au) (N:=N) (T:=0) cR.o).1,af (nh (α:=au) (N:=N) (T:=0) cR.o).2.1,af (T2.o.to (nh cR.o).2.2)⟩
 case rest=>
 obtain⟨K,oi,oc,ov2,ua,un,uc,b,rfl,rfl,nt,X8,HT6⟩:=hcut;rename World=>W6;cases b
 .go_wp2;go_ret;exact⟨⟨_,rfl⟩,Kb.o _ (bN.o.below nt.o).1⟩
 obtain⟨o,ho,rfl,rfl,rfl,dt⟩:=HT6.o rfl;obtain⟨kk,ln,gw,Sa,DO,jn,lH⟩:=pX.o o ho;have AZ:=af dt;have NT:=af (And.intro DO (And.intro jn lH));have Ce:Hd (aq w W6):=(bN.o.below nt.o).1;have vq:Hd (∀T W,aq W6 W->T<=W.heap.size->_):=λT W hb hT=>Q7.o W6 T W kk ln Ce.o hb hT Sa;rw[gw]at X8;obtain⟨fs,hfe⟩:=fx ((aI ln ln.changes.length).fields);rw[hfe]at NT vq;have Vt:=(Qaa.1 X8.o).1;have mj:Hd (∀W,aq W6 W->aU W p 0 (xL la nl lc)/\aU W K 1 (xI (kk:Int))):=λW hb=>by
  obtain⟨⟨p0,_⟩,_⟩:=jA (Rf.o W (Ce.o.trans (hb.mono Ce.o.size)));exact⟨p0,(ae ((hb.block _ Vt).trans X8.o)).2.1⟩
 have G0:Hd (aq W6 W6):=dK;have As:Hd (W6.heap.size<=W6.drew.heap.size):=bq;have K4:Hd (∀o,W6.heap.size+1<=(W6.alloc o).drew.heap.size):=λo=>by show W6.heap.size+1<=(W6.alloc o).heap.size;simp
 have HT3:Hd (∀o,W6.heap.size+1<=(W6.drew.alloc o).heap.size):=λo=>by show W6.heap.size+1<=(W6.alloc o).heap.size;simp
 clear gw Sa DO jn lH dt Q7 Vx pX dn HJ rC eB iq hfe;go_upto_region 6 with fail;go_cut [7,8](λs7 s8 wx=>∃(K2:Nat)(fa:dC)(fc:Nat),s7=xP K2/\s8=xI 0/\Hd (aq W6 wx)/\Hd (cI wx K2 (xK #[xS ln.first.name,xL fa fs.length fc] 101))/\Hd (ab N wx (xL fa fs.length fc) fs));case first=>
  go_region_held3(λw'=>w'.cell? ⟨p,0,none⟩=some (xL la nl lc)/\w'.cell? ⟨K,1,none⟩=some (xI (kk:Int)))
   (with_reducible first|exact mj.o _ G0.o|exact mj.o _ G0.o.drew|exact mj.o _ (G0.o.alloc G0.o.size _)|exact mj.o _ ((G0.o.alloc G0.o.size _).drew)|exact mj.o _ (G0.o.drew.alloc G0.o.size _)|exact mj.o _ cR.o|exact mj.o _ (cR.o.alloc cR.o.size _)|exact mj.o _ ((cR.o.setCell bq _).setCell bq _))
   (first|(go_at_call 59;first
           |(with_reducible refine(vq.o W6.heap.size _ G0.o.drew As.o).mono ?_)
           |(with_reducible refine(vq.o (W6.heap.size+1) _ (G0.o.alloc G0.o.size _).drew (K4.o _)).mono ?_)
           |(with_reducible refine(vq.o (W6.heap.size+1) _ (G0.o.drew.alloc G0.o.size _) (HT3.o _)).mono ?_)
           |fail
           rintro e w3⟨_,rfl,⟨fv,rfl,bR⟩,bG⟩;obtain⟨fa,fc,rfl,_⟩:=bR.open_;have im:=af bR;try(with_reducible(have HX:=af (Yq bG)))
           try(with_reducible(have HX:=af (Yr bG)))
           try(have g0:=ag HX.o 0)
           try(have g1:=ag HX.o 1)
           try(have hq:=ah HX.o)
           have cR:Hd (aq W6 w3):=(by with_reducible first|exact af (AK bG)|exact af (Tp bG)|exact af (Tq bG));clear bR bG));all_goals(go_wp2;go_meet)
  all_goals first
   |exact⟨_,fa,fc,rfl,rfl,af (De (α:=ay) (N:=N) HX.o rfl cR.o).1,af (De (α:=ay) (N:=N) HX.o rfl cR.o).2.1,af ((De HX.o rfl cR.o).2.2 im.o)⟩
   |exact⟨_,fa,fc,rfl,rfl,af (nh (α:=ay) (N:=N) (T:=0) cR.o).1,af (nh (α:=ay) (N:=N) (T:=0) cR.o).2.1,af ((nh cR.o).2.2 im.o)⟩
 case rest=>
 obtain⟨K2,fa,fc,rfl,rfl,rB,HC7,HF7⟩:=hcut;rename World=>W7;have HBV:Hd (aq w W7):=Ce.o.trans (rB.o.mono Ce.o.size);have HFF:=af (zS N _ W7 ln.first.name f fs HF7.o NT.o.2.2);have HBY:=af ((bN.o.below nt.o).below rB.o);have QA:Hd (W7.heap[K]? =_):=(rB.o.block _ Vt).trans X8.o;obtain⟨u0,u1⟩:=ah (HBY.o.bJ rfl);obtain⟨d0,d1⟩:=ah HC7.o;clear vq mj G0 As K4 HT3;go_wp2_with fail;refine(HFF.o).mono ?_;rintro e w8⟨⟨k4,b4,rfl,ni⟩,RE⟩;have N0:=af RE;have TQ:Hd (aq w w8):=HBV.o.trans (RE.mono HBV.o.size);clear RE u0 u1 d0 d1;cases b4
 .go_wp2;go_ret;exact⟨⟨_,rfl⟩,Kb.o _ TQ.o⟩
 have RT:k4<o.aJ.length:=by rw[NT.o.1.1];exact ni rfl
 obtain⟨-,-,-,k3⟩:=ae ((N0.o.block _ (Qaa.1 QA.o).1).trans QA.o);obtain⟨⟨k1,n1,s1,ll⟩,hx⟩:=dQ o.aJ k4 RT;obtain⟨fd,AX⟩:=dQ fs k4 (ni rfl);obtain⟨b2,J0,oY,a1,c1,vw,_,bo,dB,jh⟩:=dZ AZ.o hx;obtain⟨rfl,rfl⟩:=gY vw;have Yi:aq W6 w8:=rB.o.trans (N0.o.mono rB.o.size);obtain⟨e0,e1,e2,e3⟩:=(jh _ Yi).1;have Le:Hd (s1.size<=maxLen/\ab N w8 (xL a1 ll.length c1) ll/\lG S x.objs.length (.mk k1 n1 s1 ll)):=⟨dB,bo.below Yi,NT.o.2.1 _ (Qaf hx),fd.type,NT.o.1.2 k4 fd _ AX hx⟩;have cY:(0:Int)<=(k4:Int):=by omega
 have dA:(k4:Int)<(o.aJ.length:Int):=by omega
 have RU:decide ((o.aJ.length:Int)<=(k4:Int))=false:=by simp;omega
 obtain⟨-,⟨p4,p5,p6,p7⟩,f4,f5,f6,f7⟩:=jA (Rf.o _ TQ.o);clear vw jh hx AX bo dB ni AZ Yi;generalize o.aJ.length=ol at*;go_wp2;go_ret;have h1:=rQ.to (S:=S) HHP.o (Rf.o _ TQ.o) Le.o.1 Le.o.2.1 Le.o.2.2;have h2:=Gc (p:=p) (a:=xI k1) (b:=xI n1) (c:=xS s1) (d:=xL a1 ll.length c1) TQ.o;unfold gJ at h1 h2;exact⟨⟨_,rfl⟩,h1,h2⟩
def UQ(x:bE)(M:aS)(u:an)(w':aj):Prop:=∃(S:List Int)(ls:List bH)(lv ov rv:an),u= .tuple #[.agg #[lv,ov,rv,xI x.next],xI 0]/\(∀n,n∈S↔Mk.AG (bM x) (cZ x) n)/\TH x S ls/\ab M w' lv x.lines/\ab M w' ov ls/\ab M w' rv x.roots
structure ve(x:bE)(S:List Int)(N:aS)(W7:aj)(K:Nat)(lv rv:an)(i:Nat)(v:an)(os:List bH)(wr:aj):Prop where
 only:ai (λk=>k=K) W7 wr
 blk:wr.heap[K]? =some (xK #[lv,v,rv,xI x.next] 40)
 acc:aP (orM N K) W7.heap.size 65 wr v os
 live:∀o∈os,rJ x S o
 len:os.length<=i
section
variable {x:bE}{S:List Int}{N:aS}{W7 wr w':aj}{K i:Nat}{lv rv v:an}{os:List bH}
theorem ve.below(h:ve x S N W7 K lv rv i v os wr)(hb:aq wr w'):ve x S N W7 K lv rv i v os w':=
 ⟨h.only.trans (ai.ao hb),(hb.block _ (Qaa.1 h.blk).1).trans h.blk,h.acc.below hb,h.live,h.len⟩
theorem ve.more(h:ve x S N W7 K lv rv i v os wr):ve x S N W7 K lv rv (i+1) v os wr:=⟨h.only,h.blk,h.acc,h.live,Nat.le_succ_of_le h.len⟩
end
theorem ve.next {x:bE}{S:List Int}{N:aS}{W7 w5 w6:aj}{K i:Nat}{lv rv v:an}{os:List bH}{o':bH}(h:ve x S N W7 K lv rv i v os w5)(hK:K<W7.heap.size)(hb:Below W7.heap.size (w5.alloc o1) w6)(ha:aP (orM N K) W7.heap.size 65 w6 v2 (os++[o']))(hl:rJ x S o'):
 ve x S N W7 K lv rv (i+1) v2 (os++[o']) (w6.setCell ⟨K,1,none⟩ v2):=by
 have hz:=h.only.size;have h1:cI w6 K (xK #[lv,v,rv,xI x.next] 40):=(hb.block K (by omega)).trans ((Qcb w5 o1 K (by omega)).trans h.blk);refine⟨?_,Qca w6 K 1 _ _ v2 h1,ha.uz (p:=⟨K,1,none⟩) (.inr rfl) hK v2,λo ho=> ?_,by have:=h.len;simp;omega⟩
 .have h2:ai (λk=>k=K) W7 w6:=⟨hb.os.trans h.only.os,hb.tape.trans h.only.tape,hb.output.trans h.only.output,Qcg hz (Qcg (by simp) hb.size),λk hk hn=>(hb.block k hk).trans ((Qcb w5 o1 k (by omega)).trans (h.only.block k hk hn))⟩;exact h2.setCell (p:=⟨K,1,none⟩) (.inl rfl) v2
 .rcases Qch.1 ho with ho|ho
  .exact h.live o ho
  .rw[List.mem_singleton.1 ho];exact hl
structure LvC(x:bE)(N:aS)(W3:aj)(K:Nat)(lv rv:an)(wx:aj):Prop where
 low:aq W3 wx
 new:W3.heap.size<=K
 blk:wx.heap[K]? =some (xK #[lv,xL none 0 0,rv,xI x.next] 40)
 lines:ab (orM N K) wx lv x.lines
 roots:ab (orM N K) wx rv x.roots
section
variable {x:bE}{N:aS}{W3 w4 w5:aj}{K:Nat}{lv rv:an}{cur:Array an}{o:Obj}
theorem xD(w5:aj)(N:aS)(K:Nat)(a b c d:an):Ev (orM N K) w5 (orM N K) (gJ w5 K 0 a b c d):=
 ((((Ev.refl _ w5).setCell (p:=⟨K,0,none⟩) (.inl (.inr rfl)) a).setCell (p:=⟨K,0+1,none⟩) (.inl (.inr rfl)) b).setCell (p:=⟨K,0+2,none⟩) (.inl (.inr rfl)) c).setCell (p:=⟨K,0+3,none⟩) (.inl (.inr rfl)) d
theorem Gf {w':aj}(hb:aq w w')(hK:w.heap.size<=K):Ev N w (orM N K) w':=⟨ai.ao hb,λi hi=>hi.elim .inl λe=> .inr (by omega)⟩
theorem Gg(hx:cI w5 K (.cells cur 40 (0,0)))(h4:cur.size=4)(a b c d:an):(gJ w5 K 0 a b c d).heap[K]? =some (xK #[a,b,c,d] 40):=by
 obtain⟨l⟩:=cur;match l,h4 with
 |[_,_,_,_],_=>exact dM (o:=0) hx a b c d
theorem qc9(hx:cI w5 K (.cells cur 40 (0,0)))(h4:cur.size=4)(hj:aq W3 w4)(hK:W3.heap.size<=K)(hK4:K<w4.heap.size)(hb:aq w4 w5)(hs:ab (orM N K) w4 lv x.lines)(hN:∀i,N i->i<w4.heap.size)(ha:aP (orM N K) w4.heap.size 74 w5 rv x.roots):
 LvC x N W3 K lv rv (gJ w5 K 0 lv (xL none 0 0) rv (xI x.next)):=
 ⟨tH (hj.trans (hb.mono hj.size)) hK,hK,Gg hx h4 _ _ _ _,(hs.below hb).ev (xD ..),(ha.slice λi hi=>hi.elim (hN i) λe=>by omega).ev (xD ..)⟩
theorem qda(hx:dY w5 w4 (.cells cur 40 (0,0)))(h4:cur.size=4)(hj:aq W3 w4)(hb:Below (w4.alloc o).heap.size (w4.alloc o) w5)(hs:ab N w4 lv x.lines)(hN:∀i,N i->i<w4.heap.size)(ha:aP (orM N w4.heap.size) (w4.alloc o).heap.size 74 w5 rv x.roots):
 LvC x N W3 w4.heap.size lv rv (gJ w5 w4.heap.size 0 lv (xL none 0 0) rv (xI x.next)):=by
 have hz:(w4.alloc o).heap.size=w4.heap.size+1:=by simp
 have h1:aq w4 w5:=((Qbg _ w4).alloc bq o).trans (hb.mono (by omega));exact⟨tH (hj.trans (h1.mono hj.size)) hj.size,hj.size,Gg hx h4 _ _ _ _,(hs.ev (Gf h1 bq)).ev (xD ..),(ha.slice λi hi=>hi.elim (λh=>by have:=hN i h;omega) λe=>by omega).ev (xD ..)⟩
theorem lvL {p:Obj}(_:cI W k p):k<=k:=Qab _
theorem qdb {p:Obj}(hb:aq w4 w5)(hx:cI w4 k p):cI w5 k p:=(hb.block k (Qaa.1 hx).1).trans hx
theorem qdc(hb:Below (w4.alloc o).heap.size (w4.alloc o) w5):dY w5 w4 o:=(hb.block _ (by simp)).trans (Qbh w4 o)
theorem qdd(hj:aq W3 w4)(hb:aq w4 w5):aq W3 w5:=hj.trans (hb.mono hj.size)
theorem qde(hj:aq W3 w4)(hb:Below (w4.alloc o).heap.size (w4.alloc o) w5):aq W3 w5:=hj.trans (((Qbg _ w4).alloc bq o).mono hj.size|>.trans (hb.mono (by have:=hj.size;simp;omega)))
theorem qdf(hj:aq W3 w4)(hb:aq w4 w5)(hs:ab N w4 lv x.lines)(hN:∀i,N i->i<w4.heap.size)(ha:aP N w4.heap.size 74 w5 rv x.roots):
 LvC x N W3 w5.heap.size lv rv (w5.alloc (xK #[lv,xL none 0 0,rv,xI x.next] 40)):=by
 have h5:=hj.trans (hb.mono hj.size);have ha5:aq w5 (w5.alloc (xK #[lv,xL none 0 0,rv,xI x.next] 40)):=bO;exact⟨h5.trans (ha5.mono h5.size),h5.size,Qbh w5 _,(hs.below hb).ev (Gf ha5 bq),(ha.slice hN).ev (Gf ha5 bq)⟩
end
theorem Qy(x:bE)(h:fL x)(M:aS)(w:aj)(hM:Bd M w)(hG:Gd w)(lv ov rv:an)(j8:ab M w lv x.lines)(kn:ab M w ov x.objs)(kN:ab M w rv x.roots):
 xG 26 #[.agg #[lv,ov,rv,xI x.next]] w (UQ x M):=by
 obtain⟨i0,dz,dX,cY,dA⟩:=info_parts FT;have HM:=af hM;have HSV:Hd (∀W,aq w W->w.heap.size+2<=W.heap.size->_):=λW hb hz=>MY x h (dP M w 2) W (dp hM hz) (hG.below hb) lv ov rv (j8.ev (cW hb)) (kn.ev (cW hb)) (kN.ev (cW hb));have QQ:Hd (∀W lt pm,aq w W->w.heap.size+2<=W.heap.size->KK x (dP M w 2) W lt pm->_):=λW lt pm hb hz hg=>Ql x h (dP M w 2) W (dp hM hz) (hG.tb.below hb) lt rv pm hg (kN.ev (cW hb));have wY:=af h;have Vd:Hd (∀W,aq w W->Tb W):=λW hb=>hG.tb.below hb;have GY:=h.len;have HLR:Hd (∀W,aq w W->ab (dP M w 2) W lv x.lines/\ab (dP M w 2) W rv x.roots):=λW hb=>⟨j8.ev (cW hb),kN.ev (cW hb)⟩;obtain⟨la,lc,rfl,-⟩:=j8.open_;obtain⟨oa,oc,rfl,-⟩:=kn.open_;obtain⟨ra,rc,rfl,-⟩:=kN.open_;have iA:=af (Bx.dh w (rN (xL la x.lines.length lc) (xL oa x.objs.length oc) (xL ra x.roots.length rc) x.next) (rN (xL none 0 0) (xL none 0 0) (xL none 0 0) 0));clear j8 kn kN h hG hM;obtain⟨c0,c1,c2,c3⟩:=ae (iA.o.bJ rfl);unfold rN at iA c0 c1 c2 c3;go_enter func26,ntmps26;go_wp2_with fail;refine(HSV.o _ iA.o.1 iA.o.bY).mono ?_;rintro e w1⟨_,rfl,⟨lt,pm,rfl,hg⟩,aC⟩;have DJ:=af hg;have aO:=af (iA.o.below aC);obtain⟨⟨ls,DA,hlen,je⟩,es,clk,DS,J7⟩:=hg;obtain⟨ta,tc,rfl,-⟩:=DA.open_;rw[hlen]at DJ DA⊢;have N3:=af (And.intro DA (And.intro hlen (And.intro je (And.intro DS J7))));clear aC c0 c1 c2 c3 DA je DS J7;go_upto_region 4 with fail;obtain⟨W2,fT⟩:=cM (w1.alloc (xK #[xL ta x.objs.length tc, .map (some pm)] 123));have aL:=af (aO.o.alloc (xK #[xL ta x.objs.length tc, .map (some pm)] 123));have qB:=af (show aq w1 W2/\dY W2 w1 (xK #[xL ta x.objs.length tc, .map (some pm)] 123)by rw[fT];exact⟨bO,Qbh w1 _⟩);rw[<-fT]at aL⊢;clear fT;obtain⟨c0,c1,c2,c3⟩:=ae (aL.o.bJ rfl);obtain⟨d0,d1⟩:=ah qB.o.2;go_wp2_with fail;refine(QQ.o _ _ _ aL.o.1 aL.o.bY (DJ.o.below qB.o.1)).mono ?_;rintro e w3⟨S,sb,rfl,kF,fG,bG⟩;have bI:=af (aL.o.below bG);have RL:Hd (w.heap.size+2<=w1.heap.size):=aO.o.bY;have lO:Hd (aq w1 w3/\dY w3 w1 (xK #[xL ta x.objs.length tc, .map (some pm)] 123)):=⟨qB.o.1.trans (bG.mono qB.o.1.size),(bG.block _ (Qaa.1 qB.o.2).1).trans qB.o.2⟩;have fu:=af (And.intro kF fG);clear bG c0 c1 c2 c3 d0 d1 kF fG qB aL aO QQ HSV iA DJ;go_upto_region 5 with fail;have Yy:Hd (∀i,dP M w 2 i->i<w3.heap.size):=λi hi=>by have h1:w.heap.size+2<=w3.heap.size:=bI.o.bY;have h2:=pF HM.o i hi;omega
 have qcj:=fV (w:=w3) (λW hb=>pW x.lines (by have:=wY.o.sch.len;omega) (λy hy=>⟨by have:=((bc _).1 (wY.o.sch.lines y hy).first.right).2.1;omega,by have:=(wY.o.sch.lines y hy).len;omega⟩) (dP M w 2) W _ (λi hi=>Qde (Yy.o i hi) hb.size) ((HLR.o w3 bI.o.1).1.below hb));have Yj:Hd (∀W K,aq w3 W->w3.heap.size<=K->K<W.heap.size->_):=λW K hb hK hW=>pW x.lines (by have:=wY.o.sch.len;omega) (λy hy=>⟨by have:=((bc _).1 (wY.o.sch.lines y hy).first.right).2.1;omega,by have:=(wY.o.sch.lines y hy).len;omega⟩) (orM (dP M w 2) K) W _ (λi hi=>hi.elim (λh=>Qde (Yy.o i h) hb.size) λe=>by omega) ((HLR.o w3 bI.o.1).1.ev (Gf hb hK));have qck:=fV (w:=w3) (λW hb=>tK (dP M w 2) W _ x.roots ((HLR.o w3 bI.o.1).2.below hb) (by have:=wY.o.rlen;omega));have Re:Hd (∀W K,aq w3 W->w3.heap.size<=K->_):=λW K hb hK=>tK (orM (dP M w 2) K) W _ x.roots ((HLR.o w3 bI.o.1).2.ev (Gf hb hK)) (by have:=wY.o.rlen;omega);have dn:Hd (∀W,aq w3 W->pd W w 0 (xL la x.lines.length lc)/\pd W w 2 (xL ra x.roots.length rc)/\pd W w 3 (xI x.next)):=λW hb=>by
  obtain⟨p0,p1,p2,p3⟩:=ae ((bI.o.below hb).bJ rfl);exact⟨p0,p2,p3⟩
 have HJ:Hd (aq w3 w3):=dK;have eB:Hd (∀o,w3.heap.size<(w3.alloc o).drew.heap.size):=λo=>by show w3.heap.size<(w3.alloc o).heap.size;simp
 have iq:Hd (∀o,w3.heap.size<(w3.drew.alloc o).heap.size):=λo=>by show w3.heap.size<(w3.alloc o).heap.size;simp
 have QT:Hd (∀(W:aj),aq w3 W->∀i,dP M w 2 i->i<W.heap.size):=λW hb i hi=>Qde (Yy.o i hi) hb.size;go_cut [7](λs7 wx=>∃(K:Nat)(lv' rv':an),s7=xP K/\Hd (LvC x (dP M w 2) w3 K lv' rv' wx));case first=>
  go_region_held3(λw'=>w'.cell? ⟨w.heap.size,0,none⟩=some (xL la x.lines.length lc)/\w'.cell? ⟨w.heap.size,2,none⟩=some (xL ra x.roots.length rc)/\w'.cell? ⟨w.heap.size,3,none⟩=some (xI x.next))
   (with_reducible first|exact dn.o _ HJ.o|exact dn.o _ HJ.o.drew|exact dn.o _ (HJ.o.alloc HJ.o.size _)|exact dn.o _ ((HJ.o.alloc HJ.o.size _).drew)|exact dn.o _ (HJ.o.drew.alloc HJ.o.size _)|exact dn.o _ cR.o|exact dn.o _ (cR.o.alloc cR.o.size _)|exact dn.o _ qN.o|exact dn.o _ (qN.o.alloc qN.o.size _)|exact dn.o _ ((((qN.o.setCell bq _).setCell bq _).setCell bq _).setCell bq _)|exact dn.o _ ((((qN.o.setCell cR.o.size _).setCell cR.o.size _).setCell cR.o.size _).setCell cR.o.size _))
   (first
     |(go_at_call 51;first
       |(with_reducible refine(qcj.o _ HJ.o.drew).mono ?_)
       |(with_reducible refine(Yj.o _ w3.heap.size (HJ.o.alloc HJ.o.size _).drew bq (eB.o _)).mono ?_)
       |(with_reducible refine(Yj.o _ w3.heap.size (HJ.o.drew.alloc HJ.o.size _) bq (iq.o _)).mono ?_)
       |fail
       rintro e w4⟨_,rfl,⟨_,rfl,ui⟩,dT⟩;obtain⟨za,zc,rfl,-⟩:=ui.open_;have eE:=af ui;try(with_reducible(have HX:=af (Yq dT)))
       try(with_reducible(have HX:=af (Yr dT)))
       have cR:Hd (aq w3 w4):=(by with_reducible first|exact af (AK dT)|exact af (Tp dT)|exact af (Tq dT));clear ui dT)
     |(go_at_call 52;first
       |(with_reducible refine(Re.o _ w3.heap.size cR.o (lvL HX.o)).mono ?_)
       |(with_reducible refine(qck.o _ cR.o).mono ?_)
       |(with_reducible refine(Re.o _ w4.heap.size (cR.o.alloc cR.o.size _) cR.o.size).mono ?_)
       |fail
       rintro e w5⟨_,rfl,hacc,lL⟩;obtain⟨ya,yc,rfl,-⟩:=hacc.open_;have VA:=af hacc;have j7:=af lL;try(with_reducible(have HY:=af (qdb lL HX.o)))
       try(with_reducible(have HY:=af (qdc lL)))
       try(have g0:=ag HY.o 0)
       try(have g1:=ag HY.o 1)
       try(have g2:=ag HY.o 2)
       try(have g3:=ag HY.o 3)
       try(have hq:=ae HY.o)
       have qN:Hd (aq w3 w5):=(by with_reducible first|exact af (qdd cR.o lL)|exact af (qde cR.o lL));clear hacc lL)
     |fail);all_goals(go_wp2;go_meet)
  all_goals first
   |exact⟨_,_,_,rfl,af (qc9 HY.o rfl cR.o bq (Qaa.1 HX.o).1 j7.o eE.o (QT.o _ cR.o) VA.o)⟩
   |exact⟨_,_,_,rfl,af (qda HY.o rfl cR.o j7.o eE.o (QT.o _ cR.o) VA.o)⟩
   |exact⟨_,_,_,rfl,af (qdf cR.o j7.o eE.o (QT.o _ cR.o) VA.o)⟩
 case rest=>
 obtain⟨K,lv',rv',rfl,HC⟩:=hcut;rename World=>W7;obtain⟨l7,m7,rfl,-⟩:=HC.o.lines.open_;obtain⟨r7,s7,rfl,-⟩:=HC.o.roots.open_;have GA:=(Qaa.1 lO.o.2).1;have NQ:=af (show w.heap.size+2<=w1.heap.size/\w1.heap.size<K/\sb<K/\K<W7.heap.size/\w1.heap.size<W7.heap.size/\sb<W7.heap.size by
  have h1:=HC.o.new;have h2:=fu.o.1.lt;have h3:=(Qaa.1 HC.o.blk).1;have h4:=HC.o.low.size;have h5:w.heap.size+2<=w1.heap.size:=RL.o;exact⟨h5,by omega,by omega,h3,by omega,by omega⟩);have Sy:Hd (∀wr,ai (λk=>k=K) W7 wr->aq w1 wr/\dY wr w1 (xK #[xL ta x.objs.length tc, .map (some pm)] 123)/\Mk.cu wr sb S):=λwr ho=>by
  obtain⟨h1,h2,h3,h4,h5,h6⟩:=NQ.o;have iK:aq w1 W7:=lO.o.1.trans (HC.o.low.mono lO.o.1.size);exact⟨⟨ho.os.trans iK.os,ho.tape.trans iK.tape,ho.output.trans iK.output,Qcg iK.size ho.size,λi hi=>(ho.block i (by omega) (by omega)).trans (iK.block i hi)⟩,(ho.block _ h5 (by omega)).trans ((HC.o.low.block _ GA).trans lO.o.2),(fu.o.1.same (HC.o.low.block _ fu.o.1.lt)).same (ho.block _ h6 (by omega))⟩
 have Sz:Hd (∀wr,ai (λk=>k=K) W7 wr->aq w wr/\cI wr (w.heap.size+1) (xK #[xL none 0 0,xL none 0 0,xL none 0 0,xI 0] 40)):=λwr ho=>by
  obtain⟨h1,h2,h3,h4,h5,h6⟩:=NQ.o;have iK:=bI.o.below HC.o.low;exact⟨⟨ho.os.trans iK.1.os,ho.tape.trans iK.1.tape,ho.output.trans iK.1.output,Qcg iK.1.size ho.size,λi hi=>(ho.block i (by omega) (by omega)).trans (iK.1.block i hi)⟩,(ho.block _ (by omega) (by omega)).trans (iK.cE rfl)⟩
 have HOC:Hd (∀(i:Nat)(o:bH),ls[i]? =some o->_):=λi o ho=>eD N3.o.1 ho;have HTD:Hd (∀wr v os i,ve x S (dP M w 2) W7 K (xL l7 x.lines.length m7) (xL r7 x.roots.length s7) i v os wr->∀W,aq wr W->∀(j:Nat)(o:bH),ls[j]? =some o->o.id∈S->_):=λwr v os i hs W hb j o ho jn=>by
  obtain⟨h1,h2,h3,h4,h5,h6⟩:=NQ.o;have hg:=Sy.o wr hs.only;have DI:aq w1 W:=hg.1.trans (hb.mono hg.1.size);have xE:=(Qad.1 ho).1;have A5:Ev (dP M w 2) w1 (bB v (orM (dP M w 2) K)) W:=⟨ai.ao DI,λk hk=>by
   rcases hk with(hk|hk)|hk
   .exact .inl hk
   .right;omega
   .right;have:=(hs.acc.dU k hk).1;omega⟩;exact TD x wY.o S fu.o.2 ls j o ho (N3.o.2.2.1 j o ho) jn (bB v (orM (dP M w 2) K)) W (λk hk=>by
   have hzz:=hb.size;have dA:=hs.only.size;rcases hk with(hk|hk)|hk
   .have:=pF HM.o k hk;omega
   .omega
   .have:=(hs.acc.dU k hk).2;omega) (Vd.o W ((Sz.o wr hs.only).1.trans (hb.mono (Sz.o wr hs.only).1.size))) (xL ta x.objs.length tc) pm sb es clk (N3.o.1.ev A5) ((DI.block _ (Qaa.1 N3.o.2.2.2.1).1).trans N3.o.2.2.2.1) (N3.o.2.2.2.2 j (by rw[<-N3.o.2.1];exact xE)) (hg.2.2.same (hb.block _ hg.2.2.lt))
 have HS0:Hd (ve x S (dP M w 2) W7 K (xL l7 x.lines.length m7) (xL r7 x.roots.length s7) 0 (xL none 0 0) [] W7):=⟨ai.refl _ _,HC.o.blk,aP.nil _ _ _ _,λo ho=>(by cases ho),bq⟩;obtain⟨d0,d1⟩:=ah (Sy.o W7 (ai.refl _ _)).2.1;obtain⟨n,hn⟩:=fx (x.objs.length);have HN:=af hn;rw[hn]at Sy HTD GY d0 N3⊢;clear hn hlen GA dn qcj Yj qck Re HJ eB iq QT Yy;go_wp2;go_loopg [9,35]n(λg _ iv wr=>∃(i:Nat)(v:an)(os:List bH),i<=n/\g=n-i/\iv=xI i/\Hd (ve x S (dP M w 2) W7 K (xL l7 x.lines.length m7) (xL r7 x.roots.length s7) i v os wr));case atStart=>exact⟨0,_,[],Qbf _,rfl,rfl,HS0⟩
 case round=>
  clear d0 d1 HS0;obtain⟨i,v,os,hi,rfl,rfl,HS⟩:=hrel;rename World=>wr;obtain⟨a,c,rfl,-,-⟩:=HS.o.acc.open_;by_cases aX:i<n
  .obtain⟨o,ho⟩:=dQ ls i (by rw[N3.o.2.1];exact aX);obtain⟨b,off,cap,va,vc,hv,_,_,aw⟩:=HOC.o i o ho;obtain⟨rfl,rfl⟩:=gY hv;obtain⟨g0,g1,g2,g3⟩:=aw wr (Sy.o wr HS.o.only).1;have hid:o.id=(i:Int)+1:=(N3.o.2.2.1 i o ho).num wY.o;have HO:=af ho;rw[hid]at g0;have Zq:=af hid;clear hv aw ho hid;go_upto_region 9 with fail;obtain⟨W9,Ck⟩:=cM (wr.alloc (xK #[xI ((i:Int)+1),xI o.cls,xI o.ver,xL va o.aJ.length vc] 65));have DT:=af (show ve x S (dP M w 2) W7 K (xL l7 x.lines.length m7) (xL r7 x.roots.length s7) i (xL a os.length c) os W9 by rw[Ck];exact HS.o.below bO);have HZ9:=af (show dY W9 wr (xK #[xI ((i:Int)+1),xI o.cls,xI o.ver,xL va o.aJ.length vc] 65)by rw[Ck];exact Qbh wr _);rw[<-Ck];clear Ck g0 g1 g2 g3 HS;have z0:=(ae HZ9.o).1;have oW:=(Sy.o W9 DT.o.only).2.2.lookup ((i:Int)+1);by_cases jn:(i:Int)+1∈S;rotate_left
   .have hd:decide ((i:Int)+1∈S)=false:=by simpa using jn
    rw[hd]at oW;clear hd jn;go_wp2;go_roundg(n-(i+1));case measure=>omega
    case rel=>exact⟨i+1,_,os,by omega,rfl,by go_num,af DT.o.more⟩
   have hd:decide ((i:Int)+1∈S)=true:=by simpa using jn
   rw[hd]at oW;have HTX:=af (HTD.o W9 _ os i DT.o W9.drew ((Qbg _ W9).drew) i o HO.o (by rw[Zq.o];exact jn));clear hd jn;go_upto_region 10 with fail;clear oW;obtain⟨d0,d1⟩:=ah (Sy.o W9 DT.o.only).2.1;have p1:=(ae DT.o.blk).2.1;have Y1:=DT.o.len;have h48:(os.length+1)*48<=140737488355328:=by omega
   obtain⟨oi,oc,ov,ovs⟩:=o;dsimp only at*;go_region_law(first
    |(go_simp;go_at_call 53;refine HTX.o.mono ?_;rintro e w5⟨_,rfl,⟨o',vv,rfl,wX,j8⟩,lL⟩;obtain⟨ua,uc,rfl,-⟩:=wX.open_;have qO:=af (DT.o.below ((Qbg _ W9).drew.trans lL));have fH:Hd (∀o1,aA.rep (α:=bH) (bB (xL a os.length c) (orM (dP M w 2) K)) (w5.alloc o1) [xI o'.id,xI o'.cls,xI o'.ver,xL ua o'.aJ.length uc] o'):=λo1=>⟨_,rfl,wX.below (dK.alloc bq o1)⟩;have GX:=af j8;have q1:=(ae qO.o.blk).2.1;have q2:∀o1,(w5.alloc o1).cell? ⟨K,1,none⟩=some (xL a os.length c):=λo1=>(ae ((Qcb w5 o1 K (Qaa.1 qO.o.blk).1).trans qO.o.blk)).2.1;clear wX j8 lL p1 d0 d1 z0)
    |(refine cO (α:=bH) rfl _ _ _ rfl (orM (dP M w 2) K) W7.heap.size 65 i0 _ 48 underlying37 dz dX cY dA rfl (by decide) (.slice a os.length c) os rfl (qO.o.acc.alloc _) (λ_=>True) _ _ o' rfl (b9 _ _ _ _ rfl trivial) (fH.o _) (by unfold maxLen;omega) h48 (by have:=qO.o.only.size;simp;omega) ?_;intro a2 c2 w6 bu dr sj;have DU:=af (qO.o.next NQ.o.2.2.2.1 sj bu GX.o);have iK:=(sj.block K NQ.o.2.2.2.1).trans ((Qcb w5 _ K (by have:=qO.o.only.size;have:=NQ.o.2.2.2.1;omega)).trans qO.o.blk);have s6:=(ae iK).2.1;have f6:=ag iK 1;clear bu dr sj iK q1 q2)
    |fail);all_goals
    go_wp2;go_roundg(n-(i+1));case measure=>omega
    case rel=>exact⟨i+1,_,os++[o'],by omega,rfl,by go_num,DU⟩
  .obtain rfl:i=n:=by omega
   obtain⟨k0,k1,k2,k3⟩:=ae HS.o.blk;have Yk:=(Sz.o wr HS.o.only).2;obtain⟨r0,r1,r2,r3⟩:=ae Yk;obtain⟨f0,f1,f2,f3⟩:=ic Yk;have ug:=ez HC.o.lines;have hro:=ez HC.o.roots;have N2:Hd (Ev (orM (dP M w 2) K) W7 (orM (dP M w 2) K) wr):=⟨HS.o.only.mono λk hk=> .inr hk,λi hi=> .inl hi⟩;have VB:=af (HS.o.acc.slice λk hk=>by
    rcases hk with hk|hk
    .have:=pF HM.o k hk;have:=NQ.o;omega
    .have:=NQ.o;omega);have NP:=af (Sz.o wr HS.o.only).1;have Y1:=HS.o.len;have mA:Hd (∀W',W'=(((wr.setCell ⟨w.heap.size+1,0,none⟩ (xL l7 x.lines.length m7)).setCell ⟨w.heap.size+1,1,none⟩ (xL a os.length c)).setCell ⟨w.heap.size+1,2,none⟩ (xL r7 x.roots.length s7)).setCell ⟨w.heap.size+1,3,none⟩ (xI x.next)->UQ x M (.tuple #[.agg #[xL l7 x.lines.length m7,xL a os.length c,xL r7 x.roots.length s7,xI x.next],xI 0]) W'/\aq w W'):=λW' iL=>by
    rw[iL];have e1:Ev (orM (dP M w 2) K) wr M ((((wr.setCell ⟨w.heap.size+1,0,none⟩ (xL l7 x.lines.length m7)).setCell ⟨w.heap.size+1,1,none⟩ (xL a os.length c)).setCell ⟨w.heap.size+1,2,none⟩ (xL r7 x.roots.length s7)).setCell ⟨w.heap.size+1,3,none⟩ (xI x.next)):=((((Ev.eG wr λk hk=> .inl (.inl hk)).setCell (.inl (.inl (.inr ⟨by simp,by simp⟩))) _).setCell (.inl (.inl (.inr ⟨by simp,by simp⟩))) _).setCell (.inl (.inl (.inr ⟨by simp,by simp⟩))) _).setCell (.inl (.inl (.inr ⟨by simp,by simp⟩))) _;exact⟨⟨S,os,_,_,_,rfl,fu.o.2,⟨wY.o,by omega,HS.o.live⟩,(HC.o.lines.ev N2.o).ev e1,VB.o.ev e1,(HC.o.roots.ev N2.o).ev e1⟩,(((NP.o.setCell (by simp) _).setCell (by simp) _).setCell (by simp) _).setCell (by simp) _⟩
   clear Yk;go_wp2_with fail;exact Qae (v:= .tuple #[.agg #[xL l7 x.lines.length m7,xL a os.length c,xL r7 x.roots.length s7,xI x.next],xI 0]) (by simp[results,results26,go_sem,r0,r1,r2,r3,f0,f1,f2,f3]) rfl ⟨_,rfl,mA.o _ rfl⟩
def n9(x:bE)(M:aS)(u:an)(w':aj):Prop:=∃(e:Int)(wv:an)(vs:List au)(S:List Int),u= .tuple #[wv,xI e]/\(∀n,n∈S↔Mk.AG (bM x) (cZ x) n)/\ab M w' wv vs/\(∀v∈vs,lG S x.objs.length v)/\(e≠0->vs=[])
theorem n9.none {x:bE}(e:Int)(hS:∀n,n∈S↔Mk.AG (bM x) (cZ x) n):n9 x M (.tuple #[xL none 0 0,xI e]) w':=⟨e,_,[],S,rfl,hS,ab.nil _ _,(λv hv=>by cases hv),λ_=>rfl⟩
theorem Da.run {x:bE}{ls:List bH}(h:Da M ls u w')(hw:fL x)(hL:TH x S ls)(hS:∀n,n∈S↔Mk.AG (bM x) (cZ x) n):n9 x M u w':=by
 obtain⟨e,wv,vs,rfl,h1,h2,h3⟩:=h;refine⟨e,wv,vs,S,rfl,hS,h1,λv hv=> ?_,h3⟩;obtain⟨o,ho,rfl⟩:=h2 v hv;have hi:=(hL.live o ho).id;have hr:=hw.closed.range ((hS _).1 hi);exact lG.ref hi hr.1 hr.2
theorem AT {k n:Int}{c:Nat}(hM:Bd M W)(hs:s.size<=maxLen)(hl:ab M W (xL a l.length c) l):
 ab M (W.alloc (xK #[xI k,xI n,xS s,xL a l.length c] 30)) (xL (some ⟨W.heap.size,0,none⟩) 1 1) [au.mk k n s l]:=by
 have hc:=Qbh W (xK #[xI k,xI n,xS s,xL a l.length c] 30);refine gn (xs:=[au.mk k n s l]) (off:=0) bq (by unfold maxLen;omega) (λh=>Nat.lt_irrefl _ (hM _ h)) (by simp) λi x hx=> ?_;have hi:i=0:=by have:=(Qad.1 hx).1;simp at this;omega
 subst hi;have e:x= .mk k n s l:=by simpa using hx.symm
 subst e;refine⟨[xI k,xI n,xS s,xL a l.length c],eN.iff.2 ⟨_,rfl,hl.below bO,hs⟩,λj u hu=> ?_⟩;simp only[Nat.zero_mul,Nat.zero_add];exact cell_of_heap hc (by simpa using hu)
theorem TJ(x:bE)(h:fL x)(M:aS)(w:aj)(hM:Bd M w)(hG:Gd w)(lv ov rv sv:an)(j8:ab M w lv x.lines)(kn:ab M w ov x.objs)(kN:ab M w rv x.roots)(q:rK)(hq:pP q)(JU:ab M w sv q.steps):
 xG 7 #[.agg #[lv,ov,rv,xI x.next],rL q sv] w (n9 x M):=by
 have wY:=af h;have HM:=af hM;have Vd:Hd (∀W,aq w W->Tb W):=λW hb=>hG.tb.below hb;have HLI:=fV (w:=w) (λW hb=>Qy x h M W (hM.below hb) (hG.below hb) lv ov rv (j8.below hb) (kn.below hb) (kN.below hb));have Zm:=fV (w:=w) (λW hb=>JA q hq M W (hG.tb.below hb) sv (JU.below hb));have QX:Hd (∀S ls W lv ov rv,TH x S ls->aq w W->ab M W lv x.lines->ab M W ov ls->ab M W rv x.roots->_):=λS ls W lv ov rv hL hb h1 h2 h3=>Qx x S ls hL q hq M W (hM.below hb) (hG.tb.below hb) lv ov rv sv h1 h2 h3 (JU.below hb);have fu:Hd (∀(i:Nat)(s:lj),q.steps[i]? =some s->_):=λi s hx=>zq JU hx;obtain⟨la,lc,rfl,-⟩:=j8.open_;obtain⟨oa,oc,rfl,-⟩:=kn.open_;obtain⟨ra,rc,rfl,-⟩:=kN.open_;obtain⟨sa,sc,rfl,-⟩:=JU.open_;have hz:q.steps.length<=9223372036854775807:=by obtain⟨_,_,e,h1,h2,_⟩:=JU.open_;cases e;omega
 have iA:=af (Bx.dh w (xK #[xL la x.lines.length lc,xL oa x.objs.length oc,xL ra x.roots.length rc,xI x.next] 40) (pQ q (xL sa q.steps.length sc)));have N4:Hd (∀W,Bx w [xK #[xL la x.lines.length lc,xL oa x.objs.length oc,xL ra x.roots.length rc,xI x.next] 40,pQ q (xL sa q.steps.length sc)] W->_):=λW hb=>mY (hb.cE rfl);have DK:∀(fn:Fn)(first cap:Array an)(w:aj),(Instr.makeFunc fn first cap).run prog w= .ok (.func fn first cap) w:=λ_ _ _ _=>rfl;obtain⟨kd,root,steps,cls,field,op,k,n,s,a,c⟩:=q;unfold rL pQ at*;dsimp only at*;generalize hms:steps.length=ms at*;have HMS:=af hms;clear j8 kn kN JU h hG hM hq hms;go_enter func7,ntmps7;go_wp2_with fail;refine(HLI.o _ iA.o.1).mono ?_;rintro e w1⟨_,rfl,⟨S,ls,lv1,ov1,rv1,rfl,hS,hL,h1,h2,h3⟩,aC⟩;obtain⟨l1,m1,rfl,-⟩:=h1.open_;obtain⟨o1,p1,rfl,-⟩:=h2.open_;obtain⟨r1,s1,rfl,-⟩:=h3.open_;have aO:=af (iA.o.below aC);have HL:=af hL;have HS:=af hS;have eE:=af (And.intro h1 (And.intro h2 h3));clear aC hS hL h1 h2 h3 iA HLI;go_upto_region 2 with fail;obtain⟨W2,fT⟩:=cM (w1.alloc (xK #[xL l1 x.lines.length m1,xL o1 ls.length p1,xL r1 x.roots.length s1,xI x.next] 40));have aL:=af (aO.o.alloc (xK #[xL l1 x.lines.length m1,xL o1 ls.length p1,xL r1 x.roots.length s1,xI x.next] 40));have qB:=af (show aq w1 W2/\dY W2 w1 (xK #[xL l1 x.lines.length m1,xL o1 ls.length p1,xL r1 x.roots.length s1,xI x.next] 40)by rw[fT];exact⟨bO,Qbh w1 _⟩);rw[<-fT]at aL⊢;clear fT;obtain⟨c0,c1,c2,c3,c4,c5,c6,c7,c8,c9⟩:=N4.o _ aL.o;go_wp2_with fail;refine(Zm.o _ aL.o.1).mono ?_;rintro e w3⟨⟨b,rfl⟩,bG⟩;have bI:=af (aL.o.below bG);have lO:Hd (aq w1 w3/\w3.heap[w1.heap.size]? =_):=⟨qB.o.1.trans (bG.mono qB.o.1.size),(bG.block _ (Qaa.1 qB.o.2).1).trans qB.o.2⟩;clear bG c0 c1 c2 c3 c4 c5 c6 c7 c8 c9 qB aL Zm;cases b
 .go_wp2;go_ret2;exact⟨_,rfl,n9.none 160 HS.o,bI.o.1⟩
 obtain⟨c0,c1,c2,c3,c4,c5,c6,c7,c8,c9⟩:=N4.o _ bI.o;obtain⟨d0,d1,d2,d3⟩:=ae lO.o.2;by_cases si:kd=2
 .subst si;have Yh:=af (QX.o S ls w3 _ _ _ HL.o bI.o.1 (eE.o.1.below lO.o.1) (eE.o.2.1.below lO.o.1) (eE.o.2.2.below lO.o.1));go_wp2_with fail;refine(Yh.o).mono ?_;rintro e w4⟨_,rfl,hfo,dT⟩;have Yb:=af (hfo.run wY.o HL.o HS.o);have eH:=af (bI.o.below dT).1;obtain⟨e4,wv,vs,rfl,bo,-,-⟩:=hfo;obtain⟨wa,wc,rfl,-⟩:=bo.open_;clear dT bo;go_wp2;go_ret2;exact⟨_,rfl,Yb.o,eH.o⟩
 have qh6:(kd==2)=false:=by simpa using si
 have HRX:=af (M7 x M w3 (xL l1 x.lines.length m1) (xL o1 ls.length p1) (xL r1 x.roots.length s1) rfl rfl root (eE.o.2.2.below lO.o.1));clear si;go_wp2_with fail;refine(HRX.o).mono ?_;rintro e w5⟨⟨id,b,rfl,hid⟩,lL⟩;have j7:=af (bI.o.below lL);have uh:Hd (aq w1 w5/\w5.heap[w1.heap.size]? =_):=⟨lO.o.1.trans (lL.mono lO.o.1.size),(lL.block _ (Qaa.1 lO.o.2).1).trans lO.o.2⟩;clear lL c0 c1 c2 c3 c4 c5 c6 c7 c8 c9 d0 d1 d2 d3 HRX bI lO QX;cases b
 .go_wp2;go_ret2;exact⟨_,rfl,n9.none 161 HS.o,j7.o.1⟩
 obtain⟨r,hr,rfl⟩:=hid rfl;have Zq:=af (show lG S x.objs.length (.mk 3 r.id jN [])by
  have h1:=wY.o.roots r hr;exact lG.ref ((HS.o _).2 (.root _ (List.mem_map.2 ⟨r,hr,rfl⟩))) h1.1 h1.2);clear hid hr;generalize r.id=id at*;obtain⟨d0,d1,d2,d3⟩:=ae uh.o.2;go_upto_region 12 with fail;obtain⟨W6,tQ⟩:=cM (w5.alloc (xK #[xL l1 x.lines.length m1,xL o1 ls.length p1,xL r1 x.roots.length s1,xI x.next,xI 3,xI id,xS ⟨#[]⟩,xL none 0 0] 83));have oT:Hd (rQ x S (orM M w5.heap.size) w5.heap.size (xL l1 x.lines.length m1) (xL o1 ls.length p1) (xL r1 x.roots.length s1) W6):=⟨3,id,jN,[],none,0,by rw[tQ];exact Qbh w5 _,fR,ab.nil _ _,Zq.o⟩;have nt:=af (j7.o.alloc (xK #[xL l1 x.lines.length m1,xL o1 ls.length p1,xL r1 x.roots.length s1,xI x.next,xI 3,xI id,xS ⟨#[]⟩,xL none 0 0] 83));rw[<-tQ]at nt⊢;have hz6:W6.heap.size=w5.heap.size+1:=by rw[tQ];simp
 have RP:=af (show aq w5 W6 by rw[tQ];exact bO);have Sz:Hd (∀wr,ai (λk=>k=w5.heap.size) W6 wr->aq w wr/\aq w1 wr/\w5.heap.size<wr.heap.size):=λwr ho=>by
  have h1:aq w5 wr:=⟨ho.os.trans RP.o.os,ho.tape.trans RP.o.tape,ho.output.trans RP.o.output,Qcg RP.o.size ho.size,λi hi=>(ho.block i (by omega) (by omega)).trans (RP.o.block i hi)⟩;exact⟨j7.o.1.trans (h1.mono j7.o.1.size),uh.o.1.trans (h1.mono uh.o.1.size),by have:=ho.size;omega⟩
 have N2:Hd (∀W,aq w1 W->Ev M w1 (orM M w5.heap.size) W):=λW hb=>⟨ai.ao hb,λi hi=>hi.elim .inl λe=> .inr (by have:=uh.o.1.size;omega)⟩;obtain⟨c0,c1,c2,c3,c4,c5,c6,c7,c8,c9⟩:=N4.o _ nt.o;clear tQ d0 d1 d2 d3 hz6;go_wp2;go_loopg [4,5,12,13,14,51]ms(λg r4 r5 _ _ _ iv wr=>∃i:Nat,i<=ms/\g=ms-i/\iv=xI i/\r4=xL none 0 0/\r5=xI 0/\Hd (rQ x S (orM M w5.heap.size) w5.heap.size (xL l1 x.lines.length m1) (xL o1 ls.length p1) (xL r1 x.roots.length s1) wr)/\Hd (ai (λk=>k=w5.heap.size) W6 wr));case atStart=>exact⟨0,Qbf _,rfl,rfl,rfl,rfl,oT,af (ai.refl _ _)⟩
 case round=>
  clear c0 c1 c2 c3 c4 c5 c6 c7 c8 c9 oT;obtain⟨i,hi,rfl,rfl,rfl,rfl,HW,HO⟩:=hrel;rename World=>wr;by_cases aX:i<ms
  .obtain⟨⟨f,at_⟩,hx⟩:=dQ steps i (by rw[HMS.o];exact aX);obtain⟨b,off,cap,hv,_,aw⟩:=fu.o i _ hx;obtain⟨rfl,rfl⟩:=gY hv;obtain⟨g0,g1⟩:=aw wr (Sz.o wr HO.o).1;dsimp only at g0 g1;clear hv aw hx;go_upto_region 15 with fail;obtain⟨W8,Ll⟩:=cM (wr.alloc (xK #[xS f,xI at_] 85));have N0:=af (show aq wr W8 by rw[Ll];exact bO);have HC8:=af (show dY W8 wr (xK #[xS f,xI at_] 85)by rw[Ll];exact Qbh wr _);rw[<-Ll];have HO8:=af (HO.o.trans (ai.ao N0.o));have HG8:=af (Sz.o W8 HO8.o);have HPL:=af (Dd x S (orM M w5.heap.size) w5.heap.size (.inr rfl) W8 _ _ _ f at_ (HW.o.below N0.o));have Xh:=af (Df x S ls HL.o (orM M w5.heap.size) w5.heap.size (.inr rfl) W8 (λj hj=>hj.elim (λh=>by have h1:=HM.o j h;have h2:=HG8.o.1.size;omega) λe=>by have:=HG8.o.2.2;omega) (Vd.o W8 HG8.o.1) _ _ _ (eE.o.1.ev (N2.o W8 HG8.o.2.1)) (eE.o.2.1.ev (N2.o W8 HG8.o.2.1)) rfl f at_ (HW.o.below N0.o));obtain⟨u0,u1⟩:=ah HC8.o;clear Ll g0 g1 HW HO;by_cases hf:(f.toList==[])=true
   .clear Xh;go_wp2_with fail;refine(HPL.o).mono ?_;rintro e w9⟨⟨ne,rfl⟩,hw9,GF⟩;have HW9:=af hw9;have Vs:=af (HO8.o.trans GF);clear hw9 GF u0 u1;by_cases iG:ne=0
    .subst iG;go_wp2;go_roundg(ms-(i+1));case measure=>omega
     case rel=>exact⟨i+1,by omega,rfl,by go_num,rfl,rfl,HW9,Vs⟩
    .have qfr:(ne !=0)=true:=by simpa using iG
     clear iG;go_wp2;go_ret2;exact⟨_,rfl,n9.none ne HS.o,(Sz.o _ Vs.o).1⟩
   .clear HPL;go_wp2_with fail;refine(Xh.o).mono ?_;rintro e w9⟨⟨ne,rfl⟩,hw9,GF⟩;have HW9:=af hw9;have Vs:=af (HO8.o.trans GF);clear hw9 GF u0 u1;by_cases iG:ne=0
    .subst iG;go_wp2;go_roundg(ms-(i+1));case measure=>omega
     case rel=>exact⟨i+1,by omega,rfl,by go_num,rfl,rfl,HW9,Vs⟩
    .have qfr:(ne !=0)=true:=by simpa using iG
     clear iG;go_wp2;go_ret2;exact⟨_,rfl,n9.none ne HS.o,(Sz.o _ Vs.o).1⟩
  .obtain rfl:i=ms:=by omega
   obtain⟨k1,n1,t1,l9,a9,c9,hb,hs,hl,hn⟩:=HW.o;obtain⟨-,⟨p4,p5,p6,p7⟩,-⟩:=jA hb;have HG:=af (Sz.o wr HO.o);have Lf:Hd (bW w (n9 x M) (xR (.tuple #[xL (some ⟨wr.heap.size,0,none⟩) 1 1,xI 0])) (wr.alloc (xK #[xI k1,xI n1,xS t1,xL a9 l9.length c9] 30))):=⟨_,rfl,⟨0,_,[.mk k1 n1 t1 l9],S,rfl,HS.o,AT (HM.o.below HG.o.1) hs (hl.ev (Ev.eG wr λj hj=> .inl hj)),λv hv=>by rw[List.mem_singleton.1 hv];exact hn,λh=>absurd rfl h⟩,HG.o.1.alloc HG.o.1.size _⟩;clear hb hs hl hn;go_wp2;go_ret2;exact Lf.o
end Go.Proofs.YtccpcfcochffcaaGreatDoor
