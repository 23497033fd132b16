/- A part of OpReads's proof; no condition. -/
import Derived.Test.YtepaofffbkfodaaGreatDoorM16
import Derived.Test.YtepaofffbkfodaaGreatDoorM17
set_option linter.all false
set_option maxHeartbeats 8000000
set_option maxRecDepth 100000
namespace Go.Proofs.YtepaofffbkfodaaGreatDoor
open Go.Proofs.Tryz
open Go.RowKit Go.Shelf
def Jh(xs:List gW)(ys:List jF)(zs:List jQ)(M:aN)(w:aj)(hM:Bd M w)(xv yv zv:an)(hx:ab M w xv xs)(hy:ab M w yv ys)(hz:ab M w zv zs):
 xG 6 #[.agg #[xv,yv,zv]] w λu w'=>∃(x:aX)(lv ov rv:an),BP x/\u= .agg #[lv,ov,rv,xI x.next]/\ab M w' lv x.lines/\ab M w' ov x.objs/\ab M w' rv x.roots:=by
 obtain⟨i0,ed,ej,dO,er⟩:=info_parts LJ;have lM:=af hM;have HY:Hd (∀k r,ys[k]? =some r->_):=λk r h=>DJ hy h;have HZ:Hd (∀k r,zs[k]? =some r->_):=λk r h=>DK hz h;have CK:Hd (∀W,Bx w [uW xv yv zv,NI (xL none 0 0) (xL none 0 0) (xL none 0 0) 0] W->_):=λW hB=>DB xs (ew M w 2) W (dN hM hB.bF) xv (hx.ev (dF hB.1));obtain⟨xa,xc,rfl,_⟩:=hx.open_;obtain⟨ya,yc,rfl,hyc,hym,_⟩:=hy.open_;obtain⟨za,zc,rfl,hzc,hzm,_⟩:=hz.open_;clear hx hy hz hM;generalize KI:xs.length=xl at*;generalize hyl:ys.length=yl at*;generalize hzl:zs.length=zl at*;have HYL:=af hyl;clear hyl;have HZL:=af hzl;clear hzl;clear KI;obtain⟨n,hn⟩:=bS (min yl 10);have qew:n<=10:=by omega
 have hny:n<=yl:=by omega
 have qh9:min (yl:Int) 10=(n:Int):=by omega
 have qgg:(if(yl:Int)<=10 then(yl:Int)else 10)=(n:Int):=by split<;>omega
 have qgh:(if(yl:Int)<10 then(yl:Int)else 10)=(n:Int):=by split<;>omega
 have qgi:(if(10:Int)<(yl:Int)then(10:Int)else(yl:Int))=(n:Int):=by split<;>omega
 clear hn;go_enter func6,ntmps6;go_wp2_with fail;refine(CK.o _ (Bx.dq w _ _)).mono ?_;rintro e w1⟨_,rfl,⟨ls,FP,uD,lv,rfl,Gi⟩,aF⟩;have qga:=Gi;obtain⟨la,lc,rfl,_⟩:=qga.open_;have aY:=af ((Bx.dq w (uW (xL xa xl xc) (xL ya yl yc) (xL za zl zc)) (NI (xL none 0 0) (xL none 0 0) (xL none 0 0) 0)).below aF);have YC:=af Gi;have CZ:Hd (dK ls/\ls≠[]):=⟨FP,List.length_pos_iff.1 uD.1⟩;have HSF:=af uD.2;have s1:=aY.o.bF;simp only[Qcc,Qcd]at s1;clear aF Gi FP uD;generalize Xl:ls.length=ll at*;clear Xl;obtain⟨o1,kg⟩:=bS (NI (xL none 0 0) (xL none 0 0) (xL none 0 0) 0);rw[<-kg]at aY;have rE:=af kg;clear kg;have x0:=λo=>aD ((aY.o.alloc o).bG rfl);go_upto_region 3 with fail;obtain⟨K,hK⟩:=bS (w1.heap.size);obtain⟨W1,bT⟩:=bS (w1.alloc (NI (xL la ll lc) (xL none 0 0) (xL none 0 0) 1));have FL:=af (show kQ M w w1 (uW (xL xa xl xc) (xL ya yl yc) (xL za zl zc)) o1 K (xL la ll lc) ls (n:Int) 0 0 none [] (((0:Nat):Int)+1) W1 by
  rw[bT];exact⟨rfl,λj o h=>by simp at h,by rw[hK];exact Qbh w1 _,aK.nil _ _ _ _,YC.o,dQ.alloc (Nat.le_of_eq hK) _,hK,aY.o.alloc _,by omega⟩);unfold NI at bT;rw[<-bT,<-hK];clear bT hK aY YC x0;go_wp2;go_loopg [5]n(λg iv wr=>∃(i cap:Nat)(a:fA)(os:List bE),i<=n/\g=n-i/\iv=xI i/\Hd (kQ M w w1 (uW (xL xa xl xc) (xL ya yl yc) (xL za zl zc)) o1 K (xL la ll lc) ls (n:Int) i cap a os ((i:Int)+1) wr));case atStart=>exact⟨0,0,none,[],Qbf _,rfl,rfl,FL⟩
 case round=>
  obtain⟨i,cap,a,os,hi,rfl,rfl,HS⟩:=hrel;obtain⟨x0,x1,x2⟩:=aD (HS.o.bx.bG rfl);by_cases bu:i<n
  .obtain⟨y,hy⟩:=eB ys i (by rw[HYL.o];omega);obtain⟨b,off,ig,vv,hv,cR,kZ,hI,ay⟩:=HY.o i y hy;obtain⟨rfl,rfl⟩:=iB hv;obtain⟨q0,q1,q2,q3⟩:=ay wr HS.o.bx.1;obtain⟨k0,k1,k2,k3⟩:=ae HS.o.blk;have f1:=ag HS.o.blk 1;have Tr:=HS.o.lt;have WT:=HS.o.hK;have TK:=af (λ(W:aj)(hb:aq wr W)=>DH ls CZ.o.1 (List.length_pos_iff.2 CZ.o.2) y ⟨hI.1,hI.2.1,hI.2.2.2⟩ ((i:Int)+1) (n:Int) (by omega) (bg (xL a i cap) (rA M w K)) W ((HS.o.below hb).bd lM.o) (xL la ll lc) vv (HS.o.ls0.ev (HS.o.below hb).ev1) (kZ.ev (HS.o.below hb).ev0));have qgb:=kZ;obtain⟨va,vc,rfl,_⟩:=qgb.open_;obtain⟨yy,yv,yw,yk⟩:=y;dsimp only at*;have z1:IntKind.i64.wrap ((i:Int)+1)=(i:Int)+1:=Qbe _ (by omega);have z2:IntKind.i64.wrap ((i:Int)+2)=(i:Int)+2:=Qbe _ (by omega);have z3:(0:Int)<=(i:Int):=Qba _;have z4:(i:Int)<(yl:Int):=by omega
   have j7:=af HS.o.len;clear hv cR kZ hI ay hy;go_upto_region 6 with fail;go_cut [](λwx=>∃(rz:Nat)(a2:fA)(o:bE),Hd (kQ M w w1 (uW (xL xa xl xc) (xL (some ⟨b,off,none⟩) yl yc) (xL za zl zc)) o1 K (xL la ll lc) ls (n:Int) (i+1) rz a2 (os++[o]) ((i:Int)+1) wx));case first=>
    go_region_law(first
     |(go_simp;go_at_call 17;refine(TK.o _ (Qbg _ wr).drew).mono ?_;rintro e w2⟨_,rfl,⟨k,v,l,vs,uv,rfl,zd,bI⟩,bC⟩;have Cx:=bI;obtain⟨ua,uc,rfl,_⟩:=Cx.open_;have fO:Hd (aq wr w2):=((Qbg _ wr).drew.trans bC);have Wf:Hd (∃k' v' l',iS ls (n:Int) ⟨(i:Int)+1,(k:Int),(v:Int),vs⟩ k' v' l'):=⟨k,v,l,zd⟩;have eX:Hd (∀o',au.rep (α:=bE) (bg (xL a i cap) (rA M w K)) (w2.alloc o') [xI ((i:Int)+1),xI (k:Int),xI (v:Int),xL ua vs.length uc] ⟨(i:Int)+1,(k:Int),(v:Int),vs⟩):=λo'=>⟨_,rfl,bI.below (dQ.alloc bN o')⟩;have s1:=bC.size;simp at s1;have j1:bt w2 K 1 (xL a i cap):=(fO.o.cell (p:=⟨K,1,none⟩) (by simp;omega)).trans k1;have n1:∀o,(w2.alloc o).cell? ⟨K,1,none⟩=some (xL a i cap):=λo=>cu _ _ _ j1;clear bC zd bI)
     |(refine dJ (α:=bE) rfl _ _ _ rfl (rA M w K) (K+1) 66 i0 _ 48 underlying32 ed ej dO er rfl (by decide) (.slice a i cap) os rfl ((HS.o.acc.below fO.o).alloc _) (λ_=>True) _ _ ⟨(i:Int)+1,(k:Int),(v:Int),vs⟩ rfl (cD _ _ _ _ rfl trivial) (eX.o _) (by rw[j7.o];unfold maxLen;omega) (by rw[j7.o];omega) (by simp;omega) ?_;rw[j7.o];intro a2 c2 w3 j9 yS bP;have pK:=af j9;have l1:bt w3 K 1 (xL a i cap):=(bP.cell (p:=⟨K,1,none⟩) (by simp)).trans (cu _ _ _ j1);have l4:w3.frozen? ⟨K,1,none⟩=false:=(bP.frozen (p:=⟨K,1,none⟩) (by simp)).trans ((bM.frozen (p:=⟨K,1,none⟩) (by simp;omega)).trans ((fO.o.frozen (p:=⟨K,1,none⟩) (by simp;omega)).trans f1));have bO:=af bP;clear j9 yS bP));all_goals(go_wp2;go_meet)
    all_goals exact⟨c2,a2,_,(HS.o.put lM.o fO.o rfl Wf.o pK.o bO.o)⟩
   case rest=>
    obtain⟨rz,a2,o,gE⟩:=hcut;obtain⟨wx,FB⟩:=bS (wc);subst FB;clear q0 q1 q2 q3 k0 k1 k2 k3 f1 x0 x1 x2;obtain⟨k0,k1,k2,k3⟩:=ae gE.o.blk;have f3:=ag gE.o.blk 3;go_wp2;go_roundg(n-(i+1));case measure=>omega
    case rel=>
     refine⟨i+1,rz,a2,os++[o],by omega,rfl,by go_num,(show kQ _ _ _ _ _ _ _ _ _ _ _ _ _ _ _ from ?_)⟩;rw[show(((i+1:Nat):Int)+1)=(i:Int)+2 from by omega];exact gE.o.num _
  .obtain rfl:i=n:=by omega
   have HID:Hd (∀(j:Nat)(o:bE),os[j]? =some o->o.id=(j:Int)+1/\∃k v l,iS ls (os.length:Int) o k v l):=λj o ho=>by
    have:=HS.o.ids j o ho;rw[HS.o.len];exact this
   have TX:=af HS.o.len;have HG0:=af (HS.o.roots lM.o);clear x0 x1 x2 HS;go_wp2;go_loopg [6]5(λg jv wr=>∃(j:Nat)(rv:an)(rs:List aV),j<=zl/\j<=5/\g=5-j/\jv=xI j/\Hd (lR M w (uW (xL xa xl xc) (xL ya yl yc) (xL za zl zc)) o1 K (xL la ll lc) (xL a i cap) rv ls os rs ((i:Int)+1) j wr));case atStart=>exact⟨0,_,[],Qbf _,by omega,rfl,rfl,HG0⟩
   case round=>
    obtain⟨j,rv,rs,hj,hj5,rfl,rfl,HG⟩:=hrel;clear HG0;have iM:∃ra rc,rv=xL ra rs.length rc:=by
     have h:=HG.o.sr;obtain⟨ra,rc,e,_⟩:=h.open_;exact⟨ra,rc,e⟩
    obtain⟨ra,rc,rfl⟩:=iM;generalize Nv:rs.length=rl at*;have UZ:=af Nv;clear Nv;have hwK:=HG.o.hK;obtain⟨x0,x1,x2⟩:=aD (HG.o.bx.bG rfl);by_cases hgo:j<zl/\j<5/\0<i
    .obtain⟨hjz,qia,ed⟩:=hgo;obtain⟨z,hz⟩:=eB zs j (by rw[HZL.o];exact hjz);obtain⟨b,off,ig,hv,cR,hI,ay⟩:=HZ.o j z hz;obtain⟨rfl,rfl⟩:=iB hv;obtain⟨q0,q1⟩:=ay wr HG.o.bx.1;obtain⟨k0,k1,k2,k3⟩:=ae HG.o.blk;obtain⟨zn,zi⟩:=z;dsimp only at*;have HNA:=af (λW=>Hc zn hI.1 W);have NP:Hd (∀W,xC 20 #[xI zi,xI (i:Int)] W (ji (xI (aJ zi i:Int)) W)):=λW=>by
      have h:=kO zi (i:Int) W hI.2 (by omega) (by omega);simpa using h
     have Yq:=cM zi i ed;have hq5:Rv (aJ zn 5)<5:=Vp (cM zn 5 (by omega));obtain⟨ks,u1,u2,u3⟩:=HG.o.nms;obtain⟨j',d,p1,p2,p3,p4,p5⟩:=LK u1 u2 u3 (Rv (aJ zn 5)) hq5;have Wo:rs.length<=5:=Qcg HG.o.len hj5;obtain⟨KO,NF⟩:=bS (rs.take j'++[(⟨vD (Rv (aJ zn 5)),1+(aJ zi i:Int)⟩:aV)]++rs.drop (j'+d));have tl:Hd (∀W,aq wr W->xC 18 #[xL ra rl rc, .agg #[xS (vD (Rv (aJ zn 5))),xI (1+(aJ zi i:Int))]] W (cg W λu w'=>ab (rA M w K) w' u KO)):=λW hb=>by
      rw[NF];exact Ss rs ⟨vD (Rv (aJ zn 5)),1+(aJ zi i:Int)⟩ (by show(0:Int)<1+_;omega) (Qcg (As _ hq5).2 (by unfold maxLen;omega)) Wo j' d p1 p3 p4 p2 (rA M w K) W ((HG.o.below hb).bd lM.o) _ (HG.o.sr.below hb) HG.o.nil
     have hp5:=p5 (1+(aJ zi i:Int));rw[<-NF]at hp5;have vL:=af (show KO≠[]/\(∀r∈KO,1<=r.id/\r.id<=os.length)/\KO.length<=j+1/\∃ks:List Nat,ks.Pairwise (·< ·)/\(∀k∈ks,k<5)/\KO.map aV.name=ks.map vD by
      refine⟨by rw[NF];simp,λr hr=> ?_,?_,hp5⟩
      .rw[NF]at hr;simp only[Qch,List.mem_singleton]at hr;rcases hr with(hr|rfl)|hr
       .exact HG.o.rng r (List.mem_of_mem_take hr)
       .have:=TX.o;show(1:Int)<=1+_/\1+_<=_;omega
       .exact HG.o.rng r (List.mem_of_mem_drop hr)
      .have:=HG.o.len;rw[NF];simp only[Qda,Qdb,List.length_drop,Qcc,Qcd];omega);have Cz:=af cR;clear p1 p2 p3 p4 p5 u1 u2 u3 NF hp5 Wo hv ay hz hI cR hq5;generalize vD (Rv (aJ zn 5))=nmv at*;generalize aJ zi i=pk at*;have z1:IntKind.i64.wrap (1+(pk:Int))=1+(pk:Int):=Qbe _ (by omega);have z3:(0:Int)<=(j:Int):=Qba _;have z4:(j:Int)<(zl:Int):=by omega
     have z5:(j:Int)<5:=by omega
     have z6:(0:Int)<(i:Int):=by omega
     have f2:=ag HG.o.blk 2;have Tr:=HG.o.lt;go_upto_region 11 with fail;refine' yp 19 ?hl ?hm ?hB1 ?hB2 ?hB3 ?hB ?hh;case hl=>exact rfl
     case hm=>kernel_rfl
     case hB1=>kernel_rfl
     case hB2=>kernel_rfl
     case hB3=>kernel_rfl
     case hB=>kernel_rfl
     intro ι _ F lg C4;have s0:=λi=>(aD ((HG.o.below (lg i)).bx.bG rfl)).2.2;have s1:=λi=>(ae (HG.o.below (lg i)).blk).2.2.1;have s2:∀i,(F i).cell? ⟨b,off+j*2,none⟩=some (xI zn):=λi=>((lg i).cell (p:=⟨b,off+j*2,none⟩) (oL q0)).trans q0;have s3:∀i,(F i).cell? ⟨b,off+j*2+1,none⟩=some (xI zi):=λi=>((lg i).cell (p:=⟨b,off+j*2+1,none⟩) (oL q1)).trans q1;have jy:=af lg;have zP:=af C4;clear lg C4;simp only[List.take_succ_cons,List.take_zero,Act.put,List.setIfInBounds_toArray,List.set_cons_zero,List.set_cons_succ];repeat(go_big_quiet_step(first
      |(go_at_call 19;refine bY (HNA.o _) λw3 bP=> ?_;exact⟨rfl,zP.o _ ((jy.o _).trans (bP.mono (jy.o _).size))⟩)
      |(go_at_call 20;refine cT (NP.o _) ?_;exact⟨rfl,_,rfl⟩)))
     refine wpQuiet_nil ?_;rintro _⟨nq,rfl⟩;go_simp;go_at_call 18;refine(tl.o _ (jy.o _)).mono ?_;rintro e wn⟨un,rfl,bI,y9⟩;have hun:∃na nc,un=xL na KO.length nc:=by
      obtain⟨na,nc,e,_⟩:=bI.open_;exact⟨na,nc,e⟩
     obtain⟨na,nc,rfl⟩:=hun;have HJn:Hd (aq wr wn):=(jy.o _).trans (y9.mono (jy.o _).size);have HSn:=af bI;have kn2:=(ae (HG.o.below HJn.o).blk).2.2.1;have fn2:=ag (HG.o.below HJn.o).blk 2;clear bI y9;go_simp;go_wp2;go_roundg(5-(j+1));case measure=>omega
     case rel=>exact⟨j+1,_,KO,by omega,by omega,rfl,by go_num,(HG.o.root HJn.o HSn.o vL.o.1 vL.o.2.1 vL.o.2.2.1 vL.o.2.2.2)⟩
    .obtain⟨k0,k1,k2,k3⟩:=ae HG.o.blk;rcases Nat.eq_zero_or_pos i with ed|ed
     .subst ed;have RL:Hd (lR M w (uW (xL xa xl xc) (xL ya yl yc) (xL za zl zc)) o1 K (xL la ll lc) (xL a 0 cap) (xL ra rl rc) ls os rs 1 j wr):=HG.o;have hex:zl<=j\/(j<zl/\5<=j)\/(j<zl/\j<5):=by omega
      clear hgo HG k0 k1 k2 k3;have aF:=RL.o.bx.bU rfl;rw[rE.o]at aF;obtain⟨r0,r1,r2,r3⟩:=ae aF;obtain⟨g0,g1,g2,g3⟩:=iK aF;clear aF;obtain⟨k0,k1,k2,k3⟩:=ae RL.o.blk;have pH:Hd (∀W',W'=(((wr.setCell ⟨w.heap.size+1,0,none⟩ (xL la ll lc)).setCell ⟨w.heap.size+1,1,none⟩ (xL a 0 cap)).setCell ⟨w.heap.size+1,2,none⟩ (xL ra rl rc)).setCell ⟨w.heap.size+1,3,none⟩ (xI (1))->_):=λW' gU=>RL.o.fin CZ.o.1 HSF.o (by have:=TX.o;omega) HID.o hj5 (by have:=TX.o;omega) W' gU;rcases hex with hex|⟨hex,qco⟩|⟨hex,qco⟩
      .go_wp2_with fail;exact Qae (v:= .agg #[xL la ll lc,xL a 0 cap,xL ra rl rc,xI (1)]) (by simp[results,results6,go_sem,r0,r1,r2,r3,g0,g1,g2,g3]) rfl (by obtain⟨⟨x',l',o',r',e1,e2,e3,e4,e5⟩,e6⟩:=pH.o _ rfl;first|exact⟨_,rfl,⟨x',l',o',r',e1,e2,e3,e4,e5⟩,e6⟩|exact⟨_,rfl,⟨x',e1,l',o',r',e2,e3,e4,e5⟩,e6⟩)
      .have z8:¬(j:Int)<5:=by omega
       go_wp2_with fail;exact Qae (v:= .agg #[xL la ll lc,xL a 0 cap,xL ra rl rc,xI (1)]) (by simp[results,results6,go_sem,r0,r1,r2,r3,g0,g1,g2,g3]) rfl (by obtain⟨⟨x',l',o',r',e1,e2,e3,e4,e5⟩,e6⟩:=pH.o _ rfl;first|exact⟨_,rfl,⟨x',l',o',r',e1,e2,e3,e4,e5⟩,e6⟩|exact⟨_,rfl,⟨x',e1,l',o',r',e2,e3,e4,e5⟩,e6⟩)
      .have z8:(j:Int)<5:=by omega
       go_wp2_with fail;exact Qae (v:= .agg #[xL la ll lc,xL a 0 cap,xL ra rl rc,xI (1)]) (by simp[results,results6,go_sem,r0,r1,r2,r3,g0,g1,g2,g3]) rfl (by obtain⟨⟨x',l',o',r',e1,e2,e3,e4,e5⟩,e6⟩:=pH.o _ rfl;first|exact⟨_,rfl,⟨x',l',o',r',e1,e2,e3,e4,e5⟩,e6⟩|exact⟨_,rfl,⟨x',e1,l',o',r',e2,e3,e4,e5⟩,e6⟩)
     .have hex:zl<=j\/(j<zl/\¬(j:Int)<5):=by omega
      have z6:(0:Int)<(i:Int):=by omega
      obtain⟨y,hy⟩:=eB ys 0 (by rw[HYL.o];omega);obtain⟨b,off,ig,vv,hv,cR,kZ,hI,ay⟩:=HY.o 0 y hy;obtain⟨rfl,rfl⟩:=iB hv;obtain⟨q0,q1,q2,q3⟩:=ay wr HG.o.bx.1;simp only[Nat.zero_mul,Nat.add_zero]at q0 q1 q2 q3;have tF:Hd (∀W,xC 20 #[xI y.skip,xI 3] W (ji (xI (aJ y.skip 3:Int)) W)):=λW=>kO y.skip 3 W hI.2.2.1 (by omega) (by omega);have j5:=cM y.skip 3 (by omega);obtain⟨yy,yv,yw,yk⟩:=y;dsimp only at*;generalize aJ yk 3=sk at*;have z1:IntKind.i64.wrap ((i:Int)+1+(sk:Int))=(i:Int)+1+(sk:Int):=Qbe _ (by omega);have z9:(0:Int)<(yl:Int):=by omega
      have z10:0<yl:=by omega
      have f3:=ag HG.o.blk 3;clear hv cR kZ hI ay hy hgo;rcases hex with hex|⟨hex,qco⟩;all_goals
       go_upto_region 13 with fail;go_cut [](λwx=>Hd (lR M w (uW (xL xa xl xc) (xL (some ⟨b,off,none⟩) yl yc) (xL za zl zc)) o1 K (xL la ll lc) (xL a i cap) (xL ra rl rc) ls os rs ((i:Int)+1+(sk:Int)) j wx));case first=>
        go_region_law(first
         |(go_simp;go_at_call 20;refine cT (tF.o _) ?_));all_goals(go_wp2;go_meet)
        all_goals first
         |exact((HG.o.below dQ.drew).num _)
         |exact((HG.o.num _).below dQ.drew)
       case rest=>
        have WO:=hcut;obtain⟨wx,FB⟩:=bS (wc);subst FB;clear q0 q1 q2 q3 x0 x1 x2 f3 k0 k1 k2 k3;have aF:=WO.o.bx.bU rfl;rw[rE.o]at aF;obtain⟨r0,r1,r2,r3⟩:=ae aF;obtain⟨g0,g1,g2,g3⟩:=iK aF;clear aF;obtain⟨k0,k1,k2,k3⟩:=ae WO.o.blk;have pH:Hd (∀W',W'=(((wx.setCell ⟨w.heap.size+1,0,none⟩ (xL la ll lc)).setCell ⟨w.heap.size+1,1,none⟩ (xL a i cap)).setCell ⟨w.heap.size+1,2,none⟩ (xL ra rl rc)).setCell ⟨w.heap.size+1,3,none⟩ (xI ((i:Int)+1+(sk:Int)))->_):=λW' gU=>WO.o.fin CZ.o.1 HSF.o (by have:=TX.o;omega) HID.o hj5 (by have:=TX.o;omega) W' gU;go_wp2_with fail;exact Qae (v:= .agg #[xL la ll lc,xL a i cap,xL ra rl rc,xI ((i:Int)+1+(sk:Int))]) (by simp[results,results6,go_sem,r0,r1,r2,r3,g0,g1,g2,g3]) rfl (by obtain⟨⟨x',l',o',r',e1,e2,e3,e4,e5⟩,e6⟩:=pH.o _ rfl;first|exact⟨_,rfl,⟨x',l',o',r',e1,e2,e3,e4,e5⟩,e6⟩|exact⟨_,rfl,⟨x',e1,l',o',r',e2,e3,e4,e5⟩,e6⟩)
end Go.Proofs.YtepaofffbkfodaaGreatDoor
