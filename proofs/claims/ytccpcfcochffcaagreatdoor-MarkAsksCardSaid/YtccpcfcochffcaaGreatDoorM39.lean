/- A part of MarkAsks's proof; no condition. -/
import Derived.Test.YtccpcfcochffcaaGreatDoorM13
import Derived.Test.YtccpcfcochffcaaGreatDoorM36
set_option linter.all false
set_option maxHeartbeats 8000000
set_option maxRecDepth 100000
namespace Go.Proofs.YtccpcfcochffcaaGreatDoor
open Go.Proofs.Tryz
open Go.RowKit Go.Shelf
def JH(xs:List gZ)(ys:List jE)(zs:List jL)(M:aS)(w:aj)(hM:Bd M w)(xv yv zv:an)(hx:ab M w xv xs)(hy:ab M w yv ys)(hz:ab M w zv zs):
 xG 5 #[.agg #[xv,yv,zv]] w λu w'=>∃(x:bE)(lv ov rv:an),fL x/\u= .agg #[lv,ov,rv,xI x.next]/\ab M w' lv x.lines/\ab M w' ov x.objs/\ab M w' rv x.roots:=by
 obtain⟨i0,dz,dX,cY,dA⟩:=info_parts L7;have np:=af hM;have HY:Hd (∀k r,ys[k]? =some r->_):=λk r h=>ED hy h;have HZ:Hd (∀k r,zs[k]? =some r->_):=λk r h=>EE hz h;have tM:Hd (∀W,Bx w [vJ xv yv zv,NH (xL none 0 0) (xL none 0 0) (xL none 0 0) 0] W->_):=λW hB=>Ew xs (dP M w 2) W (dp hM hB.bY) xv (hx.ev (cW hB.1));obtain⟨xa,xc,rfl,_⟩:=hx.open_;obtain⟨ya,yc,rfl,hyc,hym,_⟩:=hy.open_;obtain⟨za,zc,rfl,hzc,hzm,_⟩:=hz.open_;clear hx hy hz hM;generalize Ad:xs.length=xl at*;generalize hyl:ys.length=yl at*;generalize RN:zs.length=zl at*;have VC:=af hyl;clear hyl;have HZL:=af RN;clear RN;clear Ad;obtain⟨n,hn⟩:=cM (min yl 10);have qe7:n<=10:=by omega
 have hny:n<=yl:=by omega
 have qib:min (yl:Int) 10=(n:Int):=by omega
 have qf6:(if(yl:Int)<=10 then(yl:Int)else 10)=(n:Int):=by split<;>omega
 have qf7:(if(yl:Int)<10 then(yl:Int)else 10)=(n:Int):=by split<;>omega
 have qf8:(if(10:Int)<(yl:Int)then(10:Int)else(yl:Int))=(n:Int):=by split<;>omega
 clear hn;go_enter func5,ntmps5;go_wp2_with fail;refine(tM.o _ (Bx.dh w _ _)).mono ?_;rintro e w1⟨_,rfl,⟨ls,qct,wC,lv,rfl,DA⟩,aC⟩;have qfx:=DA;obtain⟨la,lc,rfl,_⟩:=qfx.open_;have aO:=af ((Bx.dh w (vJ (xL xa xl xc) (xL ya yl yc) (xL za zl zc)) (NH (xL none 0 0) (xL none 0 0) (xL none 0 0) 0)).below aC);have HLS:=af DA;have Gz:Hd (eI ls/\ls≠[]):=⟨qct,List.length_pos_iff.1 wC⟩;have s1:=aO.o.bY;simp only[Qcc,Qcd]at s1;clear aC DA qct wC;generalize JX:ls.length=ll at*;clear JX;obtain⟨o1,fJ⟩:=cM (NH (xL none 0 0) (xL none 0 0) (xL none 0 0) 0);rw[<-fJ]at aO;have oP:=af fJ;clear fJ;have x0:=λo=>aD ((aO.o.alloc o).bJ rfl);go_upto_region 3 with fail;obtain⟨K,hK⟩:=cM (w1.heap.size);obtain⟨W1,dS⟩:=cM (w1.alloc (NH (xL la ll lc) (xL none 0 0) (xL none 0 0) 1));have jX:=af (show kY M w w1 (vJ (xL xa xl xc) (xL ya yl yc) (xL za zl zc)) o1 K (xL la ll lc) ls (n:Int) 0 0 none [] (((0:Nat):Int)+1) W1 by
  rw[dS];exact⟨rfl,λj o h=>by simp at h,by rw[hK];exact Qbh w1 _,aP.nil _ _ _ _,HLS.o,dK.alloc (Nat.le_of_eq hK) _,hK,aO.o.alloc _,by omega⟩);unfold NH at dS;rw[<-dS,<-hK];clear dS hK aO HLS x0;go_wp2;go_loopg [5]n(λg iv wr=>∃(i cap:Nat)(a:dC)(os:List bH),i<=n/\g=n-i/\iv=xI i/\Hd (kY M w w1 (vJ (xL xa xl xc) (xL ya yl yc) (xL za zl zc)) o1 K (xL la ll lc) ls (n:Int) i cap a os ((i:Int)+1) wr));case atStart=>exact⟨0,0,none,[],Qbf _,rfl,rfl,jX⟩
 case round=>
  obtain⟨i,cap,a,os,hi,rfl,rfl,HS⟩:=hrel;obtain⟨x0,x1,x2⟩:=aD (HS.o.bx.bJ rfl);by_cases aX:i<n
  .obtain⟨y,hy⟩:=dQ ys i (by rw[VC.o];omega);obtain⟨b,off,fq,vv,hv,cw,wX,hI,aw⟩:=HY.o i y hy;obtain⟨rfl,rfl⟩:=gY hv;obtain⟨q0,q1,q2,q3⟩:=aw wr HS.o.bx.1;obtain⟨k0,k1,k2,k3⟩:=ae HS.o.blk;have f1:=ag HS.o.blk 1;have hKr:=HS.o.lt;have Vb:=HS.o.hK;have wY:=af (λ(W:aj)(hb:aq wr W)=>EB ls Gz.o.1 (List.length_pos_iff.2 Gz.o.2) y ⟨hI.1,hI.2.1,hI.2.2.2⟩ ((i:Int)+1) (n:Int) (by omega) (bB (xL a i cap) (rX M w K)) W ((HS.o.below hb).bd np.o) (xL la ll lc) vv (HS.o.ls0.ev (HS.o.below hb).ev1) (wX.ev (HS.o.below hb).ev0));have qfy:=wX;obtain⟨va,vc,rfl,_⟩:=qfy.open_;obtain⟨yy,yv,yw,yk⟩:=y;dsimp only at*;have z1:IntKind.i64.wrap ((i:Int)+1)=(i:Int)+1:=Qbe _ (by omega);have z2:IntKind.i64.wrap ((i:Int)+2)=(i:Int)+2:=Qbe _ (by omega);have z3:(0:Int)<=(i:Int):=Qba _;have z4:(i:Int)<(yl:Int):=by omega
   have iJ:=af HS.o.len;clear hv cw wX hI aw hy;go_upto_region 6 with fail;go_cut [](λwx=>∃(oY:Nat)(a2:dC)(o:bH),Hd (kY M w w1 (vJ (xL xa xl xc) (xL (some ⟨b,off,none⟩) yl yc) (xL za zl zc)) o1 K (xL la ll lc) ls (n:Int) (i+1) oY a2 (os++[o]) ((i:Int)+1) wx));case first=>
    go_region_law(first
     |(go_simp;go_at_call 20;refine(wY.o _ (Qbg _ wr).drew).mono ?_;rintro e w2⟨_,rfl,⟨k,v,l,vs,uv,rfl,oS,bo⟩,aY⟩;have Dt:=bo;obtain⟨ua,uc,rfl,_⟩:=Dt.open_;have fQ:Hd (aq wr w2):=((Qbg _ wr).drew.trans aY);have Wv:Hd (∃k' v' l',pH ls (n:Int) ⟨(i:Int)+1,(k:Int),(v:Int),vs⟩ k' v' l'):=⟨k,v,l,oS⟩;have fH:Hd (∀o',aA.rep (α:=bH) (bB (xL a i cap) (rX M w K)) (w2.alloc o') [xI ((i:Int)+1),xI (k:Int),xI (v:Int),xL ua vs.length uc] ⟨(i:Int)+1,(k:Int),(v:Int),vs⟩):=λo'=>⟨_,rfl,bo.below (dK.alloc bq o')⟩;have s1:=aY.size;simp at s1;have j1:aU w2 K 1 (xL a i cap):=(fQ.o.cell (p:=⟨K,1,none⟩) (by simp;omega)).trans k1;have n1:∀o,(w2.alloc o).cell? ⟨K,1,none⟩=some (xL a i cap):=λo=>bF _ _ _ j1;clear aY oS bo)
     |(refine cO (α:=bH) rfl _ _ _ rfl (rX M w K) (K+1) 65 i0 _ 48 underlying37 dz dX cY dA rfl (by decide) (.slice a i cap) os rfl ((HS.o.acc.below fQ.o).alloc _) (λ_=>True) _ _ ⟨(i:Int)+1,(k:Int),(v:Int),vs⟩ rfl (b9 _ _ _ _ rfl trivial) (fH.o _) (by rw[iJ.o];unfold maxLen;omega) (by rw[iJ.o];omega) (by simp;omega) ?_;rw[iJ.o];intro a2 c2 w3 gx rV bG;have lM:=af gx;have l1:aU w3 K 1 (xL a i cap):=(bG.cell (p:=⟨K,1,none⟩) (by simp)).trans (bF _ _ _ j1);have l4:w3.frozen? ⟨K,1,none⟩=false:=(bG.frozen (p:=⟨K,1,none⟩) (by simp)).trans ((bO.frozen (p:=⟨K,1,none⟩) (by simp;omega)).trans ((fQ.o.frozen (p:=⟨K,1,none⟩) (by simp;omega)).trans f1));have bI:=af bG;clear gx rV bG));all_goals(go_wp2;go_meet)
    all_goals exact⟨c2,a2,_,(HS.o.put np.o fQ.o rfl Wv.o lM.o bI.o)⟩
   case rest=>
    obtain⟨oY,a2,o,eB⟩:=hcut;obtain⟨wx,Gt⟩:=cM (wc);subst Gt;clear q0 q1 q2 q3 k0 k1 k2 k3 f1 x0 x1 x2;obtain⟨k0,k1,k2,k3⟩:=ae eB.o.blk;have f3:=ag eB.o.blk 3;go_wp2;go_roundg(n-(i+1));case measure=>omega
    case rel=>
     refine⟨i+1,oY,a2,os++[o],by omega,rfl,by go_num,(show kY _ _ _ _ _ _ _ _ _ _ _ _ _ _ _ from ?_)⟩;rw[show(((i+1:Nat):Int)+1)=(i:Int)+2 from by omega];exact eB.o.num _
  .obtain rfl:i=n:=by omega
   have Zq:Hd (∀(j:Nat)(o:bH),os[j]? =some o->o.id=(j:Int)+1/\∃k v l,pH ls (os.length:Int) o k v l):=λj o ho=>by
    have:=HS.o.ids j o ho;rw[HS.o.len];exact this
   have Yd:=af HS.o.len;have HG0:=af (HS.o.roots np.o);clear x0 x1 x2 HS;go_wp2;go_loopg [6]5(λg jv wr=>∃(j:Nat)(rv:an)(rs:List cT),j<=zl/\j<=5/\g=5-j/\jv=xI j/\Hd (mu M w (vJ (xL xa xl xc) (xL ya yl yc) (xL za zl zc)) o1 K (xL la ll lc) (xL a i cap) rv ls os rs ((i:Int)+1) j wr));case atStart=>exact⟨0,_,[],Qbf _,by omega,rfl,rfl,HG0⟩
   case round=>
    obtain⟨j,rv,rs,hj,hj5,rfl,rfl,HG⟩:=hrel;clear HG0;have kN:∃ra rc,rv=xL ra rs.length rc:=by
     have h:=HG.o.sr;obtain⟨ra,rc,e,_⟩:=h.open_;exact⟨ra,rc,e⟩
    obtain⟨ra,rc,rfl⟩:=kN;generalize Vo:rs.length=rl at*;have HRL:=af Vo;clear Vo;have hwK:=HG.o.hK;obtain⟨x0,x1,x2⟩:=aD (HG.o.bx.bJ rfl);by_cases hgo:j<zl/\j<5/\0<i
    .obtain⟨hjz,qic,dz⟩:=hgo;obtain⟨z,hz⟩:=dQ zs j (by rw[HZL.o];exact hjz);obtain⟨b,off,fq,hv,cw,hI,aw⟩:=HZ.o j z hz;obtain⟨rfl,rfl⟩:=gY hv;obtain⟨q0,q1⟩:=aw wr HG.o.bx.1;obtain⟨k0,k1,k2,k3⟩:=ae HG.o.blk;obtain⟨zn,zi⟩:=z;dsimp only at*;have HNA:=af (λW=>Il zn hI.1 W);have Lg:Hd (∀W,xC 23 #[xI zi,xI (i:Int)] W (gE (xI (aH zi i:Int)) W)):=λW=>by
      have h:=kT zi (i:Int) W hI.2 (by omega) (by omega);simpa using h
     have YP:=cq zi i dz;have hq5:RR (aH zn 5)<5:=VV (cq zn 5 (by omega));obtain⟨ks,u1,u2,u3⟩:=HG.o.nms;obtain⟨j',d,p1,p2,p3,p4,p5⟩:=L8 u1 u2 u3 (RR (aH zn 5)) hq5;have hl5:rs.length<=5:=Qcg HG.o.len hj5;obtain⟨Li,NC⟩:=cM (rs.take j'++[(⟨wK (RR (aH zn 5)),1+(aH zi i:Int)⟩:cT)]++rs.drop (j'+d));have oZ:Hd (∀W,aq wr W->xC 21 #[xL ra rl rc, .agg #[xS (wK (RR (aH zn 5))),xI (1+(aH zi i:Int))]] W (bW W λu w'=>ab (rX M w K) w' u Li)):=λW hb=>by
      rw[NC];exact SX rs ⟨wK (RR (aH zn 5)),1+(aH zi i:Int)⟩ (by show(0:Int)<1+_;omega) (Qcg (Bs _ hq5).2 (by unfold maxLen;omega)) hl5 j' d p1 p3 p4 p2 (rX M w K) W ((HG.o.below hb).bd np.o) _ (HG.o.sr.below hb) HG.o.nil
     have hp5:=p5 (1+(aH zi i:Int));rw[<-NC]at hp5;have zY:=af (show Li≠[]/\(∀r∈Li,1<=r.id/\r.id<=os.length)/\Li.length<=j+1/\∃ks:List Nat,ks.Pairwise (·< ·)/\(∀k∈ks,k<5)/\Li.map cT.name=ks.map wK by
      refine⟨by rw[NC];simp,λr hr=> ?_,?_,hp5⟩
      .rw[NC]at hr;simp only[Qch,List.mem_singleton]at hr;rcases hr with(hr|rfl)|hr
       .exact HG.o.rng r (List.mem_of_mem_take hr)
       .have:=Yd.o;show(1:Int)<=1+_/\1+_<=_;omega
       .exact HG.o.rng r (List.mem_of_mem_drop hr)
      .have:=HG.o.len;rw[NC];simp only[Qda,Qdb,List.length_drop,Qcc,Qcd];omega);have NP:=af cw;clear p1 p2 p3 p4 p5 u1 u2 u3 NC hp5 hl5 hv aw hz hI cw hq5;generalize wK (RR (aH zn 5))=nmv at*;generalize aH zi i=pk at*;have z1:IntKind.i64.wrap (1+(pk:Int))=1+(pk:Int):=Qbe _ (by omega);have z3:(0:Int)<=(j:Int):=Qba _;have z4:(j:Int)<(zl:Int):=by omega
     have z5:(j:Int)<5:=by omega
     have z6:(0:Int)<(i:Int):=by omega
     have f2:=ag HG.o.blk 2;have hKr:=HG.o.lt;go_upto_region 11 with fail;refine' zL 19 ?hl ?hm ?hB1 ?hB2 ?hB3 ?hB ?hh;case hl=>exact rfl
     case hm=>kernel_rfl
     case hB1=>kernel_rfl
     case hB2=>kernel_rfl
     case hB3=>kernel_rfl
     case hB=>kernel_rfl
     intro ι _ F oq GC;have s0:=λi=>(aD ((HG.o.below (oq i)).bx.bJ rfl)).2.2;have s1:=λi=>(ae (HG.o.below (oq i)).blk).2.2.1;have s2:∀i,(F i).cell? ⟨b,off+j*2,none⟩=some (xI zn):=λi=>((oq i).cell (p:=⟨b,off+j*2,none⟩) (mJ q0)).trans q0;have s3:∀i,(F i).cell? ⟨b,off+j*2+1,none⟩=some (xI zi):=λi=>((oq i).cell (p:=⟨b,off+j*2+1,none⟩) (mJ q1)).trans q1;have lI:=af oq;have xN:=af GC;clear oq GC;simp only[List.take_succ_cons,List.take_zero,Act.put,List.setIfInBounds_toArray,List.set_cons_zero,List.set_cons_succ];repeat(go_big_quiet_step(first
      |(go_at_call 22;refine cG (HNA.o _) λw3 bG=> ?_;exact⟨rfl,xN.o _ ((lI.o _).trans (bG.mono (lI.o _).size))⟩)
      |(go_at_call 23;refine dJ (Lg.o _) ?_;exact⟨rfl,_,rfl⟩)))
     refine wpQuiet_nil ?_;rintro _⟨nq,rfl⟩;go_simp;go_at_call 21;refine(oZ.o _ (lI.o _)).mono ?_;rintro e wn⟨un,rfl,bo,GM⟩;have hun:∃na nc,un=xL na Li.length nc:=by
      obtain⟨na,nc,e,_⟩:=bo.open_;exact⟨na,nc,e⟩
     obtain⟨na,nc,rfl⟩:=hun;have HJn:Hd (aq wr wn):=(lI.o _).trans (GM.mono (lI.o _).size);have HSn:=af bo;have kn2:=(ae (HG.o.below HJn.o).blk).2.2.1;have fn2:=ag (HG.o.below HJn.o).blk 2;clear bo GM;go_simp;go_wp2;go_roundg(5-(j+1));case measure=>omega
     case rel=>exact⟨j+1,_,Li,by omega,by omega,rfl,by go_num,(HG.o.root HJn.o HSn.o zY.o.1 zY.o.2.1 zY.o.2.2.1 zY.o.2.2.2)⟩
    .obtain⟨k0,k1,k2,k3⟩:=ae HG.o.blk;rcases Nat.eq_zero_or_pos i with dz|dz
     .subst dz;have DJ:Hd (mu M w (vJ (xL xa xl xc) (xL ya yl yc) (xL za zl zc)) o1 K (xL la ll lc) (xL a 0 cap) (xL ra rl rc) ls os rs 1 j wr):=HG.o;have hex:zl<=j\/(j<zl/\5<=j)\/(j<zl/\j<5):=by omega
      clear hgo HG k0 k1 k2 k3;have aC:=DJ.o.bx.cE rfl;rw[oP.o]at aC;obtain⟨r0,r1,r2,r3⟩:=ae aC;obtain⟨g0,g1,g2,g3⟩:=ic aC;clear aC;obtain⟨k0,k1,k2,k3⟩:=ae DJ.o.blk;have mA:Hd (∀W',W'=(((wr.setCell ⟨w.heap.size+1,0,none⟩ (xL la ll lc)).setCell ⟨w.heap.size+1,1,none⟩ (xL a 0 cap)).setCell ⟨w.heap.size+1,2,none⟩ (xL ra rl rc)).setCell ⟨w.heap.size+1,3,none⟩ (xI (1))->_):=λW' iL=>DJ.o.fin Gz.o.1 (by have:=Yd.o;omega) Zq.o hj5 (by have:=Yd.o;omega) W' iL;rcases hex with hex|⟨hex,Uy⟩|⟨hex,Uy⟩
      .go_wp2_with fail;exact Qae (v:= .agg #[xL la ll lc,xL a 0 cap,xL ra rl rc,xI (1)]) (by simp[results,results5,go_sem,r0,r1,r2,r3,g0,g1,g2,g3]) rfl (by obtain⟨⟨x',l',o',r',e1,e2,e3,e4,e5⟩,e6⟩:=mA.o _ rfl;first|exact⟨_,rfl,⟨x',l',o',r',e1,e2,e3,e4,e5⟩,e6⟩|exact⟨_,rfl,⟨x',e1,l',o',r',e2,e3,e4,e5⟩,e6⟩)
      .have z8:¬(j:Int)<5:=by omega
       go_wp2_with fail;exact Qae (v:= .agg #[xL la ll lc,xL a 0 cap,xL ra rl rc,xI (1)]) (by simp[results,results5,go_sem,r0,r1,r2,r3,g0,g1,g2,g3]) rfl (by obtain⟨⟨x',l',o',r',e1,e2,e3,e4,e5⟩,e6⟩:=mA.o _ rfl;first|exact⟨_,rfl,⟨x',l',o',r',e1,e2,e3,e4,e5⟩,e6⟩|exact⟨_,rfl,⟨x',e1,l',o',r',e2,e3,e4,e5⟩,e6⟩)
      .have z8:(j:Int)<5:=by omega
       go_wp2_with fail;exact Qae (v:= .agg #[xL la ll lc,xL a 0 cap,xL ra rl rc,xI (1)]) (by simp[results,results5,go_sem,r0,r1,r2,r3,g0,g1,g2,g3]) rfl (by obtain⟨⟨x',l',o',r',e1,e2,e3,e4,e5⟩,e6⟩:=mA.o _ rfl;first|exact⟨_,rfl,⟨x',l',o',r',e1,e2,e3,e4,e5⟩,e6⟩|exact⟨_,rfl,⟨x',e1,l',o',r',e2,e3,e4,e5⟩,e6⟩)
     .have hex:zl<=j\/(j<zl/\¬(j:Int)<5):=by omega
      have z6:(0:Int)<(i:Int):=by omega
      obtain⟨y,hy⟩:=dQ ys 0 (by rw[VC.o];omega);obtain⟨b,off,fq,vv,hv,cw,wX,hI,aw⟩:=HY.o 0 y hy;obtain⟨rfl,rfl⟩:=gY hv;obtain⟨q0,q1,q2,q3⟩:=aw wr HG.o.bx.1;simp only[Nat.zero_mul,Nat.add_zero]at q0 q1 q2 q3;have tZ:Hd (∀W,xC 23 #[xI y.skip,xI 3] W (gE (xI (aH y.skip 3:Int)) W)):=λW=>kT y.skip 3 W hI.2.2.1 (by omega) (by omega);have ki:=cq y.skip 3 (by omega);obtain⟨yy,yv,yw,yk⟩:=y;dsimp only at*;generalize aH yk 3=sk at*;have z1:IntKind.i64.wrap ((i:Int)+1+(sk:Int))=(i:Int)+1+(sk:Int):=Qbe _ (by omega);have z9:(0:Int)<(yl:Int):=by omega
      have z10:0<yl:=by omega
      have f3:=ag HG.o.blk 3;clear hv cw wX hI aw hy hgo;rcases hex with hex|⟨hex,Uy⟩;all_goals
       go_upto_region 13 with fail;go_cut [](λwx=>Hd (mu M w (vJ (xL xa xl xc) (xL (some ⟨b,off,none⟩) yl yc) (xL za zl zc)) o1 K (xL la ll lc) (xL a i cap) (xL ra rl rc) ls os rs ((i:Int)+1+(sk:Int)) j wx));case first=>
        go_region_law(first
         |(go_simp;go_at_call 23;refine dJ (tZ.o _) ?_));all_goals(go_wp2;go_meet)
        all_goals first
         |exact((HG.o.below dK.drew).num _)
         |exact((HG.o.num _).below dK.drew)
       case rest=>
        have T3:=hcut;obtain⟨wx,Gt⟩:=cM (wc);subst Gt;clear q0 q1 q2 q3 x0 x1 x2 f3 k0 k1 k2 k3;have aC:=T3.o.bx.cE rfl;rw[oP.o]at aC;obtain⟨r0,r1,r2,r3⟩:=ae aC;obtain⟨g0,g1,g2,g3⟩:=ic aC;clear aC;obtain⟨k0,k1,k2,k3⟩:=ae T3.o.blk;have mA:Hd (∀W',W'=(((wx.setCell ⟨w.heap.size+1,0,none⟩ (xL la ll lc)).setCell ⟨w.heap.size+1,1,none⟩ (xL a i cap)).setCell ⟨w.heap.size+1,2,none⟩ (xL ra rl rc)).setCell ⟨w.heap.size+1,3,none⟩ (xI ((i:Int)+1+(sk:Int)))->_):=λW' iL=>T3.o.fin Gz.o.1 (by have:=Yd.o;omega) Zq.o hj5 (by have:=Yd.o;omega) W' iL;go_wp2_with fail;exact Qae (v:= .agg #[xL la ll lc,xL a i cap,xL ra rl rc,xI ((i:Int)+1+(sk:Int))]) (by simp[results,results5,go_sem,r0,r1,r2,r3,g0,g1,g2,g3]) rfl (by obtain⟨⟨x',l',o',r',e1,e2,e3,e4,e5⟩,e6⟩:=mA.o _ rfl;first|exact⟨_,rfl,⟨x',l',o',r',e1,e2,e3,e4,e5⟩,e6⟩|exact⟨_,rfl,⟨x',e1,l',o',r',e2,e3,e4,e5⟩,e6⟩)
end Go.Proofs.YtccpcfcochffcaaGreatDoor
