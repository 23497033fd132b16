/- What WorldOf answers; no condition beyond each theorem's own. -/
import Derived.Test.YtlkjnefenialbaaGreatDoorM18
import Derived.Test.YtlkjnefenialbaaGreatDoorM48
set_option linter.unusedVariables false
set_option linter.unusedSimpArgs false
set_option maxHeartbeats 8000000
set_option maxRecDepth 100000
namespace Go.Proofs.YtlkjnefenialbaaGreatDoor
open Go.RowKit Go.Shelf
theorem Ex(xs:List fL)(ys:List iE)(zs:List iL)(M:Nat→Prop)(w:World)(hM:Bd M w)(xv yv zv:Value)(hx:ae M w xv xs)(hy:ae M w yv ys)(hz:ae M w zv zs):
 Calls Tryz.prog 5 #[.agg #[xv,yv,zv]] w (aF w fun u w'=>∃(x:cG)(lv ov rv:Value),fm x∧u= .agg #[lv,ov,rv, .int .i64 x.next]∧ae M w' lv x.lines∧ae M w' ov x.objs∧ae M w' rv x.roots):=by
 obtain⟨i0,dF,dM,db,dL⟩:=info_parts GQ
 have kU:=hD hM
 have HY:Hid (∀k r,ys[k]? =some r→_):=(show∀k r,_→_ from fun k r h=>AN hy h)
 have HZ:Hid (∀k r,zs[k]? =some r→_):=(show∀k r,_→_ from fun k r h=>AO hz h)
 have CA:Hid (∀W,Bx w [rT xv yv zv,II (.slice none 0 0) (.slice none 0 0) (.slice none 0 0) 0] W→_):=(show∀W,_→_ from fun W hB=>AH xs (eP M w 2) W (dS hM hB.b8) xv (hx.ev (dR hB.1)))
 obtain⟨xa,xc,rfl,_⟩:=hx.open_
 obtain⟨ya,yc,rfl,hyc,hym,_⟩:=hy.open_
 obtain⟨za,zc,rfl,hzc,hzm,_⟩:=hz.open_
 clear hx hy hz hM
 generalize qx:xs.length=xl at*
 generalize Y8:ys.length=yl at*
 generalize hzl:zs.length=zl at*
 have XO:=hD Y8;clear Y8;have Uf:=hD hzl;clear hzl
 clear qx
 obtain⟨n,hn⟩:∃n:Nat,n=min yl 10:=⟨_,rfl⟩
 have qbc:n≤10:=by omega
 have hny:n≤yl:=by omega
 have qdn:min (yl:Int) 10=(n:Int):=by omega
 have qbx:(if(yl:Int)≤10 then(yl:Int)else 10)=(n:Int):=by split<;>omega
 have qby:(if(yl:Int)<10 then(yl:Int)else 10)=(n:Int):=by split<;>omega
 have qbz:(if(10:Int)<(yl:Int)then(10:Int)else(yl:Int))=(n:Int):=by split<;>omega
 clear hn
 go_enter Tryz.func5,Tryz.ntmps5
 go_wp2_with fail
 refine(CA.out _ (Bx.eO w _ _)).mono ?_
 rintro e w1⟨_,rfl,⟨ls,VU,mz,lv,rfl,IF⟩,aw⟩
 have qbd:=IF
 obtain⟨la,lc,rfl,_⟩:=qbd.open_
 have aO:=hD ((Bx.eO w (rT (.slice xa xl xc) (.slice ya yl yc) (.slice za zl zc)) (II (.slice none 0 0) (.slice none 0 0) (.slice none 0 0) 0)).below aw)
 have WX:=hD IF
 have pr:Hid (dV ls∧ls≠[]):=(show _∧_ from⟨VU,List.length_pos_iff.1 mz⟩)
 have s1:=aO.out.b8
 simp only[List.length_cons,List.length_nil]at s1
 clear aw IF VU mz
 generalize hll:ls.length=ll at*
 clear hll
 obtain⟨o1,ei⟩:∃o1,o1=II (.slice none 0 0) (.slice none 0 0) (.slice none 0 0) 0:=⟨_,rfl⟩
 rw[←ei]at aO
 have nh:=hD ei
 clear ei
 have x0:=fun o=>ay ((aO.out.alloc o).bJ rfl)
 go_upto_region 3 with fail
 obtain⟨K,hK⟩:∃K,K=w1.heap.size:=⟨_,rfl⟩
 obtain⟨W1,ib⟩:∃W1:World,W1=w1.alloc (II (.slice la ll lc) (.slice none 0 0) (.slice none 0 0) 1):=⟨_,rfl⟩
 have jL:Hid (iS M w w1 (rT (.slice xa xl xc) (.slice ya yl yc) (.slice za zl zc)) o1 K (.slice la ll lc) ls (n:Int) 0 0 none [] (((0:Nat):Int)+1) W1):=(show iS _ _ _ _ _ _ _ _ _ _ _ _ _ _ _ from by
  rw[ib]
  exact⟨rfl,fun j o h=>by simp at h,by rw[hK];exact heap_alloc_new w1 _,aK.nil _ _ _ _,WX.out,(Below.refl _ _).alloc (Nat.le_of_eq hK) _,hK,aO.out.alloc _,by omega⟩)
 unfold II at ib
 rw[←ib,←hK]
 clear ib hK aO WX x0
 go_wp2_with fail
 go_loopg [5]n(fun g iv wr=>∃(i cap:Nat)(a:Option Addr)(os:List dz),i≤n∧g=n-i∧iv= .int .i64 i∧Hid (iS M w w1 (rT (.slice xa xl xc) (.slice ya yl yc) (.slice za zl zc)) o1 K (.slice la ll lc) ls (n:Int) i cap a os ((i:Int)+1) wr))
 case atStart=>exact⟨0,0,none,[],Nat.zero_le _,rfl,rfl,jL⟩
 case round=>
  obtain⟨i,cap,a,os,hi,rfl,rfl,HS⟩:=hrel
  obtain⟨x0,x1,x2⟩:=ay (HS.out.bx.bJ rfl)
  by_cases aT:i<n
  ·obtain⟨y,hy⟩:∃y,ys[i]? =some y:=⟨_,List.getElem?_eq_getElem (by rw[XO.out];omega)⟩
   obtain⟨b,off,dE,vv,hv,bZ,zY,hI,ao⟩:=HY.out i y hy
   obtain⟨rfl,rfl⟩:ya=some ⟨b,off,none⟩∧yc=dE:=by first|simpa using hv|(rw[XO.out]at hv;simpa using hv)
   obtain⟨q0,q1,q2,q3⟩:=ao wr HS.out.bx.1
   obtain⟨k0,k1,k2,k3⟩:=ab HS.out.blk
   have f1:=aa HS.out.blk 1
   have YQ:=HS.out.lt
   have QV:=HS.out.hK
   have Ot:=hD (fun(W:World)(hb:Below wr.heap.size wr W)=>AL ls pr.out.1 (List.length_pos_iff.2 pr.out.2) y ⟨hI.1,hI.2.1,hI.2.2.2⟩ ((i:Int)+1) (n:Int) (by omega) (bc (.slice a i cap) (ph M w K)) W ((HS.out.below hb).bd kU.out) (.slice la ll lc) vv (HS.out.ls0.ev (HS.out.below hb).ev1) (zY.ev (HS.out.below hb).ev0))
   have qbe:=zY
   obtain⟨va,vc,rfl,_⟩:=qbe.open_
   obtain⟨yy,yv,yw,yk⟩:=y
   dsimp only at*
   have z1:IntKind.i64.wrap ((i:Int)+1)=(i:Int)+1:=IntWalk.i64_in _ (by omega)
   have z2:IntKind.i64.wrap ((i:Int)+2)=(i:Int)+2:=IntWalk.i64_in _ (by omega)
   have z3:(0:Int)≤(i:Int):=Int.natCast_nonneg _
   have z4:(i:Int)<(yl:Int):=by omega
   have jJ:=hD HS.out.len
   clear hv bZ zY hI ao hy
   go_upto_region 6 with fail
   go_cut [](fun wx=>∃(rI:Nat)(a2:Option Addr)(o:dz),Hid (iS M w w1 (rT (.slice xa xl xc) (.slice (some ⟨b,off,none⟩) yl yc) (.slice za zl zc)) o1 K (.slice la ll lc) ls (n:Int) (i+1) rI a2 (os++[o]) ((i:Int)+1) wx))
   case first=>
    go_region_law(first
     |(go_simp;go_at_call 18
       refine(Ot.out _ (Below.refl _ wr).drew).mono ?_
       rintro e w2⟨_,rfl,⟨k,v,l,vs,uv,rfl,ng,aU⟩,aM⟩
       have wq:=aU
       obtain⟨ua,uc,rfl,_⟩:=wq.open_
       have fI:Hid (Below wr.heap.size wr w2):=((Below.refl _ wr).drew.trans aM)
       have Qn:Hid (∃k' v' l',mN ls (n:Int) ⟨(i:Int)+1,(k:Int),(v:Int),vs⟩ k' v' l'):=(show∃k' v' l',_ from⟨k,v,l,ng⟩)
       have eR:Hid (∀o',az.rep (α:=dz) (bc (.slice a i cap) (ph M w K)) (w2.alloc o') [.int .i64 ((i:Int)+1), .int .i64 (k:Int), .int .i64 (v:Int), .slice ua vs.length uc] ⟨(i:Int)+1,(k:Int),(v:Int),vs⟩):=(show∀o',_ from fun o'=>⟨_,rfl,aU.below ((Below.refl _ _).alloc (Nat.le_refl _) o')⟩)
       have s1:=aM.size
       simp at s1
       have j1:w2.cell? ⟨K,1,none⟩=some (.slice a i cap):=(fI.out.cell (p:=⟨K,1,none⟩) (by simp;omega)).trans k1
       have n1:∀o,(w2.alloc o).cell? ⟨K,1,none⟩=some (.slice a i cap):=fun o=>bF _ _ _ j1
       clear aM ng aU)
     |(refine dr (α:=dz) rfl _ _ _ rfl (ph M w K) (K+1) 56 i0 _ 48 Tryz.underlying32 dF dM db dL rfl (by decide) (.slice a i cap) os rfl ((HS.out.acc.below fI.out).alloc _) (fun _=>True) _ _ ⟨(i:Int)+1,(k:Int),(v:Int),vs⟩ rfl (ct _ _ _ _ rfl trivial) (eR.out _) (by rw[jJ.out];unfold maxLen;omega) (by rw[jJ.out];omega) (by simp;omega) ?_
       rw[jJ.out]
       intro a2 c2 w3 iR vx bP
       have nk:=hD iR
       have l1:w3.cell? ⟨K,1,none⟩=some (.slice a i cap):=(bP.cell (p:=⟨K,1,none⟩) (by simp)).trans (bF _ _ _ j1)
       have l4:w3.frozen? ⟨K,1,none⟩=false:=(bP.frozen (p:=⟨K,1,none⟩) (by simp)).trans ((((Below.refl _ _).alloc (Nat.le_refl _) _).frozen (p:=⟨K,1,none⟩) (by simp;omega)).trans ((fI.out.frozen (p:=⟨K,1,none⟩) (by simp;omega)).trans f1))
       have bO:=hD bP
       clear iR vx bP))
    all_goals(go_wp2_with fail;go_meet)
    all_goals exact⟨c2,a2,_,(show iS _ _ _ _ _ _ _ _ _ _ _ _ _ _ _ from HS.out.put kU.out fI.out rfl Qn.out nk.out bO.out)⟩
   case rest=>
    obtain⟨rI,a2,o,eB⟩:=hcut
    obtain⟨wx,Cj⟩:∃wx:World,wx=wc:=⟨_,rfl⟩
    subst Cj
    clear q0 q1 q2 q3 k0 k1 k2 k3 f1 x0 x1 x2
    obtain⟨k0,k1,k2,k3⟩:=ab eB.out.blk
    have f3:=aa eB.out.blk 3
    go_wp2_with fail
    go_roundg(n-(i+1))
    case measure=>omega
    case rel=>
     refine⟨i+1,rI,a2,os++[o],by omega,rfl,by go_num,(show iS _ _ _ _ _ _ _ _ _ _ _ _ _ _ _ from ?_)⟩
     rw[show(((i+1:Nat):Int)+1)=(i:Int)+2 from by omega]
     exact eB.out.num _
  ·obtain rfl:i=n:=by omega
   have HID:Hid (∀(j:Nat)(o:dz),os[j]? =some o→o.id=(j:Int)+1∧∃k v l,mN ls (os.length:Int) o k v l):=(show∀(j:Nat)(o:dz),_→_ from fun j o ho=>by
    have:=HS.out.ids j o ho
    rw[HS.out.len]
    exact this)
   have VV:=hD HS.out.len
   have WK:=hD (HS.out.roots kU.out)
   clear x0 x1 x2 HS
   go_wp2_with fail
   go_loopg [6]5(fun g jv wr=>∃(j:Nat)(rv:Value)(rs:List cC),j≤zl∧j≤5∧g=5-j∧jv= .int .i64 j∧Hid (iT M w (rT (.slice xa xl xc) (.slice ya yl yc) (.slice za zl zc)) o1 K (.slice la ll lc) (.slice a i cap) rv ls os rs ((i:Int)+1) j wr))
   case atStart=>exact⟨0,_,[],Nat.zero_le _,by omega,rfl,rfl,WK⟩
   case round=>
    obtain⟨j,rv,rs,hj,hj5,rfl,rfl,HG⟩:=hrel
    clear WK
    have rJ:∃ra rc,rv= .slice ra rs.length rc:=by
     have h:=HG.out.sr
     obtain⟨ra,rc,e,_⟩:=h.open_
     exact⟨ra,rc,e⟩
    obtain⟨ra,rc,rfl⟩:=rJ
    generalize Oh:rs.length=rl at*
    have XP:=hD Oh
    clear Oh
    have hwK:=HG.out.hK
    obtain⟨x0,x1,x2⟩:=ay (HG.out.bx.bJ rfl)
    by_cases Un:j<zl∧j<5∧0<i
    ·obtain⟨Yn,qdo,dF⟩:=Un
     obtain⟨z,hz⟩:∃z,zs[j]? =some z:=⟨_,List.getElem?_eq_getElem (by rw[Uf.out];exact Yn)⟩
     obtain⟨b,off,dE,hv,bZ,hI,ao⟩:=HZ.out j z hz
     obtain⟨rfl,rfl⟩:za=some ⟨b,off,none⟩∧zc=dE:=by first|simpa using hv|(rw[Uf.out]at hv;simpa using hv)
     obtain⟨q0,q1⟩:=ao wr HG.out.bx.1
     obtain⟨k0,k1,k2,k3⟩:=ab HG.out.blk
     obtain⟨zn,zi⟩:=z
     dsimp only at*
     have HNA:=hD (fun W=>Du zn hI.1 W)
     have EM:Hid (∀W,Calls Tryz.prog 21 #[.int .i64 zi, .int .i64 (i:Int)] W fun e w'=>e= .returned (.int .i64 (aD zi i:Int))∧W=w'):=(show∀W,_ from fun W=>by
      have h:=jx zi (i:Int) W hI.2 (by omega) (by omega)
      simpa using h)
     have Lu:=bU zi i dF
     have hq5:Mm (aD zn 5)<5:=PT (bU zn 5 (by omega))
     obtain⟨ks,u1,u2,u3⟩:=HG.out.nms
     obtain⟨j',d,p1,p2,p3,p4,p5⟩:=GR u1 u2 u3 (Mm (aD zn 5)) hq5
     have TI:rs.length≤5:=Nat.le_trans HG.out.len hj5
     obtain⟨CE,IG⟩:∃CE,CE=rs.take j'++[(⟨sG (Mm (aD zn 5)),1+(aD zi i:Int)⟩:cC)]++rs.drop (j'+d):=⟨_,rfl⟩
     have su:Hid (∀W,Below wr.heap.size wr W→Calls Tryz.prog 19 #[.slice ra rl rc, .agg #[.string (sG (Mm (aD zn 5))), .int .i64 (1+(aD zi i:Int))]] W (aF W fun u w'=>ae (ph M w K) w' u CE)):=(show∀W,_→_ from fun W hb=>by
      rw[IG]
      exact M5 rs ⟨sG (Mm (aD zn 5)),1+(aD zi i:Int)⟩ (by show(0:Int)<1+_;omega) (Nat.le_trans (wX _ hq5).2 (by unfold maxLen;omega)) TI j' d p1 p3 p4 p2 (ph M w K) W ((HG.out.below hb).bd kU.out) _ (HG.out.sr.below hb) HG.out.nil)
     have hp5:=p5 (1+(aD zi i:Int))
     rw[←IG]at hp5
     have vH:Hid (CE≠[]∧(∀r∈CE,1≤r.id∧r.id≤os.length)∧CE.length≤j+1∧∃ks:List Nat,ks.Pairwise (·< ·)∧(∀k∈ks,k<5)∧CE.map cC.name=ks.map sG):=(show _∧_ from by
      refine⟨by rw[IG];simp,fun r hr=> ?_,?_,hp5⟩
      ·rw[IG]at hr
       simp only[List.mem_append,List.mem_singleton]at hr
       rcases hr with(hr|rfl)|hr
       ·exact HG.out.rng r (List.mem_of_mem_take hr)
       ·have:=VV.out
        show(1:Int)≤1+_∧1+_≤_
        omega
       ·exact HG.out.rng r (List.mem_of_mem_drop hr)
      ·have:=HG.out.len
       rw[IG]
       simp only[List.length_append,List.length_take,List.length_drop,List.length_cons,List.length_nil]
       omega)
     have NZ:=hD bZ
     clear p1 p2 p3 p4 p5 u1 u2 u3 IG hp5 TI hv ao hz hI bZ hq5
     generalize sG (Mm (aD zn 5))=nmv at*
     generalize aD zi i=pk at*
     have z1:IntKind.i64.wrap (1+(pk:Int))=1+(pk:Int):=IntWalk.i64_in _ (by omega)
     have z3:(0:Int)≤(j:Int):=Int.natCast_nonneg _
     have z4:(j:Int)<(zl:Int):=by omega
     have z5:(j:Int)<5:=by omega
     have z6:(0:Int)<(i:Int):=by omega
     have f2:=aa HG.out.blk 2
     have YQ:=HG.out.lt
     go_upto_region 11 with fail
     refine' uZ 19 ?hl ?hm ?hB1 ?hB2 ?hB3 ?hB ?hh
     case hl=>exact rfl
     case hm=>kernel_rfl
     case hB1=>kernel_rfl
     case hB2=>kernel_rfl
     case hB3=>kernel_rfl
     case hB=>kernel_rfl
     intro ι _ F CJ F0
     have s0:=fun i=>(ay ((HG.out.below (CJ i)).bx.bJ rfl)).2.2
     have s1:=fun i=>(ab (HG.out.below (CJ i)).blk).2.2.1
     have s2:∀i,(F i).cell? ⟨b,off+j*2,none⟩=some (.int .i64 zn):=fun i=>((CJ i).cell (p:=⟨b,off+j*2,none⟩) (mE q0)).trans q0
     have s3:∀i,(F i).cell? ⟨b,off+j*2+1,none⟩=some (.int .i64 zi):=fun i=>((CJ i).cell (p:=⟨b,off+j*2+1,none⟩) (mE q1)).trans q1
     have oO:=hD CJ
     have EL:=hD F0
     clear CJ F0
     simp only[List.take_succ_cons,List.take_zero,Act.put,List.setIfInBounds_toArray,List.set_cons_zero,List.set_cons_succ]
     repeat(go_big_quiet_step(first
      |(go_at_call 20;refine(HNA.out _).mono ?_;rintro e w3⟨rfl,bP⟩;exact⟨rfl,EL.out _ ((oO.out _).trans (bP.mono (oO.out _).size))⟩)
      |(go_at_call 21;refine(EM.out _).mono ?_;rintro e w3⟨rfl,rfl⟩;exact⟨rfl,_,rfl⟩)))
     refine wpQuiet_nil ?_
     rintro _⟨nq,rfl⟩
     go_simp
     go_at_call 19
     refine(su.out _ (oO.out _)).mono ?_
     rintro e wn⟨un,rfl,aU,zP⟩
     have hun:∃na nc,un= .slice na CE.length nc:=by
      obtain⟨na,nc,e,_⟩:=aU.open_
      exact⟨na,nc,e⟩
     obtain⟨na,nc,rfl⟩:=hun
     have HJn:Hid (Below wr.heap.size wr wn):=(show Below _ _ _ from(oO.out _).trans (zP.mono (oO.out _).size))
     have HSn:=hD aU
     have kn2:=(ab (HG.out.below HJn.out).blk).2.2.1
     have fn2:=aa (HG.out.below HJn.out).blk 2
     clear aU zP
     go_simp
     go_wp2_with fail
     go_roundg(5-(j+1))
     case measure=>omega
     case rel=>exact⟨j+1,_,CE,by omega,by omega,rfl,by go_num,(show iT _ _ _ _ _ _ _ _ _ _ _ _ _ _ from HG.out.root HJn.out HSn.out vH.out.1 vH.out.2.1 vH.out.2.2.1 vH.out.2.2.2)⟩
    ·obtain⟨k0,k1,k2,k3⟩:=ab HG.out.blk
     rcases Nat.eq_zero_or_pos i with dF|dF
     ·subst dF
      have IT:Hid (iT M w (rT (.slice xa xl xc) (.slice ya yl yc) (.slice za zl zc)) o1 K (.slice la ll lc) (.slice a 0 cap) (.slice ra rl rc) ls os rs 1 j wr):=(show iT _ _ _ _ _ _ _ _ _ _ _ _ _ _ from HG.out)
      have hex:zl≤j∨(j<zl∧5≤j)∨(j<zl∧j<5):=by omega
      clear Un HG k0 k1 k2 k3
      have aw:=IT.out.bx.bh rfl
      rw[nh.out]at aw
      obtain⟨r0,r1,r2,r3⟩:=ab aw
      have g0:=aa aw 0
      have g1:=aa aw 1
      have g2:=aa aw 2
      have g3:=aa aw 3
      clear aw
      obtain⟨k0,k1,k2,k3⟩:=ab IT.out.blk
      have kR:Hid (∀W',W'=(((wr.setCell ⟨w.heap.size+1,0,none⟩ (.slice la ll lc)).setCell ⟨w.heap.size+1,1,none⟩ (.slice a 0 cap)).setCell ⟨w.heap.size+1,2,none⟩ (.slice ra rl rc)).setCell ⟨w.heap.size+1,3,none⟩ (.int .i64 (1))→_):=(show∀W',_→_ from fun W' gX=>IT.out.fin pr.out.1 (by have:=VV.out;omega) HID.out hj5 (by have:=VV.out;omega) W' gX)
      rcases hex with hex|⟨hex,VW⟩|⟨hex,VW⟩
      ·go_wp2_with fail
       exact bodyPost_ret (v:= .agg #[.slice la ll lc, .slice a 0 cap, .slice ra rl rc, .int .i64 (1)]) (by simp[results,Tryz.results5,go_sem,r0,r1,r2,r3,g0,g1,g2,g3]) rfl (by obtain⟨⟨x',l',o',r',e1,e2,e3,e4,e5⟩,e6⟩:=kR.out _ rfl;first|exact⟨_,rfl,⟨x',l',o',r',e1,e2,e3,e4,e5⟩,e6⟩|exact⟨_,rfl,⟨x',e1,l',o',r',e2,e3,e4,e5⟩,e6⟩)
      ·have z8:¬(j:Int)<5:=by omega
       go_wp2_with fail
       exact bodyPost_ret (v:= .agg #[.slice la ll lc, .slice a 0 cap, .slice ra rl rc, .int .i64 (1)]) (by simp[results,Tryz.results5,go_sem,r0,r1,r2,r3,g0,g1,g2,g3]) rfl (by obtain⟨⟨x',l',o',r',e1,e2,e3,e4,e5⟩,e6⟩:=kR.out _ rfl;first|exact⟨_,rfl,⟨x',l',o',r',e1,e2,e3,e4,e5⟩,e6⟩|exact⟨_,rfl,⟨x',e1,l',o',r',e2,e3,e4,e5⟩,e6⟩)
      ·have z8:(j:Int)<5:=by omega
       go_wp2_with fail
       exact bodyPost_ret (v:= .agg #[.slice la ll lc, .slice a 0 cap, .slice ra rl rc, .int .i64 (1)]) (by simp[results,Tryz.results5,go_sem,r0,r1,r2,r3,g0,g1,g2,g3]) rfl (by obtain⟨⟨x',l',o',r',e1,e2,e3,e4,e5⟩,e6⟩:=kR.out _ rfl;first|exact⟨_,rfl,⟨x',l',o',r',e1,e2,e3,e4,e5⟩,e6⟩|exact⟨_,rfl,⟨x',e1,l',o',r',e2,e3,e4,e5⟩,e6⟩)
     ·have hex:zl≤j∨(j<zl∧¬(j:Int)<5):=by omega
      have z6:(0:Int)<(i:Int):=by omega
      obtain⟨y,hy⟩:∃y,ys[0]? =some y:=⟨_,List.getElem?_eq_getElem (by rw[XO.out];omega)⟩
      obtain⟨b,off,dE,vv,hv,bZ,zY,hI,ao⟩:=HY.out 0 y hy
      obtain⟨rfl,rfl⟩:ya=some ⟨b,off,none⟩∧yc=dE:=by first|simpa using hv|(rw[XO.out]at hv;simpa using hv)
      obtain⟨q0,q1,q2,q3⟩:=ao wr HG.out.bx.1
      simp only[Nat.zero_mul,Nat.add_zero]at q0 q1 q2 q3
      have my:Hid (∀W,Calls Tryz.prog 21 #[.int .i64 y.skip, .int .i64 3] W fun e w'=>e= .returned (.int .i64 (aD y.skip 3:Int))∧W=w'):=(show∀W,_ from fun W=>jx y.skip 3 W hI.2.2.1 (by omega) (by omega))
      have ia:=bU y.skip 3 (by omega)
      obtain⟨yy,yv,yw,yk⟩:=y
      dsimp only at*
      generalize aD yk 3=sk at*
      have z1:IntKind.i64.wrap ((i:Int)+1+(sk:Int))=(i:Int)+1+(sk:Int):=IntWalk.i64_in _ (by omega)
      have z9:(0:Int)<(yl:Int):=by omega
      have z10:0<yl:=by omega
      have f3:=aa HG.out.blk 3
      clear hv bZ zY hI ao hy Un
      rcases hex with hex|⟨hex,VW⟩
      all_goals
       go_upto_region 13 with fail
       go_cut [](fun wx=>Hid (iT M w (rT (.slice xa xl xc) (.slice (some ⟨b,off,none⟩) yl yc) (.slice za zl zc)) o1 K (.slice la ll lc) (.slice a i cap) (.slice ra rl rc) ls os rs ((i:Int)+1+(sk:Int)) j wx))
       case first=>
        go_region_law(first
         |(go_simp;go_at_call 21
           refine(my.out _).mono ?_
           rintro e wp⟨rfl,rfl⟩))
        all_goals(go_wp2_with fail;go_meet)
        all_goals first
         |exact(show iT _ _ _ _ _ _ _ _ _ _ _ _ _ _ from(HG.out.below (Below.refl _ _).drew).num _)
         |exact(show iT _ _ _ _ _ _ _ _ _ _ _ _ _ _ from(HG.out.num _).below (Below.refl _ _).drew)
       case rest=>
        have N3:=hcut
        obtain⟨wx,Cj⟩:∃wx:World,wx=wc:=⟨_,rfl⟩
        subst Cj
        clear q0 q1 q2 q3 x0 x1 x2 f3 k0 k1 k2 k3
        have aw:=N3.out.bx.bh rfl
        rw[nh.out]at aw
        obtain⟨r0,r1,r2,r3⟩:=ab aw
        have g0:=aa aw 0
        have g1:=aa aw 1
        have g2:=aa aw 2
        have g3:=aa aw 3
        clear aw
        obtain⟨k0,k1,k2,k3⟩:=ab N3.out.blk
        have kR:Hid (∀W',W'=(((wx.setCell ⟨w.heap.size+1,0,none⟩ (.slice la ll lc)).setCell ⟨w.heap.size+1,1,none⟩ (.slice a i cap)).setCell ⟨w.heap.size+1,2,none⟩ (.slice ra rl rc)).setCell ⟨w.heap.size+1,3,none⟩ (.int .i64 ((i:Int)+1+(sk:Int)))→_):=(show∀W',_→_ from fun W' gX=>N3.out.fin pr.out.1 (by have:=VV.out;omega) HID.out hj5 (by have:=VV.out;omega) W' gX)
        go_wp2_with fail
        exact bodyPost_ret (v:= .agg #[.slice la ll lc, .slice a i cap, .slice ra rl rc, .int .i64 ((i:Int)+1+(sk:Int))]) (by simp[results,Tryz.results5,go_sem,r0,r1,r2,r3,g0,g1,g2,g3]) rfl (by obtain⟨⟨x',l',o',r',e1,e2,e3,e4,e5⟩,e6⟩:=kR.out _ rfl;first|exact⟨_,rfl,⟨x',l',o',r',e1,e2,e3,e4,e5⟩,e6⟩|exact⟨_,rfl,⟨x',e1,l',o',r',e2,e3,e4,e5⟩,e6⟩)
end Go.Proofs.YtlkjnefenialbaaGreatDoor
