/- What SchemaOf answers, worlds in plain words, names; no condition beyond each theorem's own. -/
import Derived.Test.YtlkjnefenialbaaGreatDoorM12
import Derived.Test.YtlkjnefenialbaaGreatDoorM14
set_option linter.unusedVariables false
set_option linter.unusedSimpArgs false
set_option maxHeartbeats 8000000
set_option maxRecDepth 100000
namespace Go.Proofs.YtlkjnefenialbaaGreatDoor
section
open Go.RowKit
theorem Dq:(Tryz.prog.info? 94).map (fun i=>(i.zero,i.size,i.bytes))=some (some (.agg #[.string ⟨#[]⟩, .slice none 0 0, .slice none 0 0]),3,64):=by kernel_rfl
theorem AE {M:Nat→Prop}{w:World}{v:Value}{l:List fL}(h:ae M w v l){k:Nat}{x:fL}(hx:l[k]? =some x):∃b off cap fv cv,v= .slice (some ⟨b,off,none⟩) l.length cap∧b<w.heap.size∧ae M w fv x.cls.fields∧ae M w cv x.changes∧I6 x.cls.name∧∀W,Below w.heap.size w W→W.cell? ⟨b,off+k*3,none⟩=some (.int .i64 x.cls.name)∧W.cell? ⟨b,off+k*3+1,none⟩=some fv∧W.cell? ⟨b,off+k*3+2,none⟩=some cv:=by
 obtain⟨a,cap,rfl,hl,_,hc⟩:=h.open_
 have hk:=(List.getElem?_eq_some_iff.1 hx).1
 obtain⟨b,off,rfl,_,hb,aC⟩:=hc (by omega)
 obtain⟨cs,⟨fv,cv,rfl,h1,h2,h3⟩,bE⟩:=aC k x hx
 refine⟨b,off,cap,fv,cv,rfl,hb,h1,h2,h3,fun W hB=> ?_⟩
 have g:∀j u,([.int .i64 x.cls.name,fv,cv]:List Value)[j]? =some u→W.cell? ⟨b,off+k*3+j,none⟩=some u:=fun j u hu=>(hB.cell (p:=⟨b,off+k*3+j,none⟩) hb).trans (bE j u hu)
 exact⟨g 0 _ rfl,g 1 _ rfl,g 2 _ rfl⟩
theorem yH(ls:List aE)(s:ByteArray): -1≤dC ls s∧dC ls s<ls.length∨dC ls s= -1:=by
 have h1:=pB (fun l:aE=>bD l.first.name s) ls
 rcases tw (fun l:aE=>bD l.first.name s) ls with h|h
 ·exact .inl ⟨h1,h⟩
 ·exact .inr h
theorem AF {ls:List aE}{s:ByteArray}(h:dC ls s<0):∀l∈ls,bD l.first.name s=false:=fun l hl=>by
 have h1:=pB (fun l:aE=>bD l.first.name s) ls
 have h2:dC ls s= -1:=by show idxOf _ _=_;have:idxOf (fun l:aE=>bD l.first.name s) ls<0:=h;omega
 unfold dC idxOf at h2
 split at h2
 ·omega
 ·rename_i hn
  have:=List.findIdx?_eq_none_iff.1 hn l hl
  simpa using this
theorem dV.snoc {ls:List aE}(h:dV ls){l:aE}(hl:du l)(h4:ls.length<4)(hn:dC ls l.first.name<0):dV (ls++[l]):=by
 refine⟨by simp;omega,fun y hy=> ?_,fun k y hy=> ?_⟩
 ·rcases List.mem_append.1 hy with hy|hy
  ·exact h.lines y hy
  ·simp at hy;subst hy;exact hl
 ·by_cases hk:k<ls.length
  ·rw[List.getElem?_append_left hk]at hy
   have h1:=h.apart k y hy
   unfold dC at h1⊢
   exact rM h1
  ·have tm:=(List.getElem?_eq_some_iff.1 hy).1
   simp at tm
   obtain rfl:k=ls.length:=by omega
   have e:y=l:=by simpa using hy.symm
   subst e
   refine idxOf_hit (fun z hz=> ?_) hy (by simp[bD])
   rw[List.take_left']at hz
   ·exact AF hn z hz
   ·rfl
theorem dV.one {c:ai}(h:gE c):dV [⟨c,[]⟩]:=by
 refine⟨by simp,fun l hl=> ?_,fun k l hk=> ?_⟩
 ·simp at hl;subst hl
  exact⟨jW h,by simp,c, .nil _⟩
 ·match k,hk with
  |0,hk=>simp at hk;subst hk;exact idxOf_hit (by simp) rfl (by simp[bD])
  |k+1,hk=>simp at hk
structure yI(M:Nat→Prop)(w:World)(n:Nat)(v:Value)(ls:List aE)(i:Nat)(wr:World):Prop where
 len:ls.length=n
 le:n≤i
 ok:dV ls
 some_:0<i→0<n
 acc:aK (eP M w 2) (w.heap.size+2) 94 wr v ls
theorem yI.below {M:Nat→Prop}{w:World}{n:Nat}{v:Value}{ls:List aE}{i:Nat}{wr W:World}(h:yI M w n v ls i wr)(hb:Below wr.heap.size wr W):yI M w n v ls i W:=⟨h.len,h.le,h.ok,h.some_,h.acc.below hb⟩
theorem GM:dV []:=⟨by simp,fun _ h=>(by cases h),fun _ _ h=>by simp at h⟩
theorem JK {M:Nat→Prop}{W:World}{g:Nat}{l:aE}{fv cv:Value}{t:TypeId}(hg:W.heap[g]? =some (.cells #[.string l.first.name,fv,cv] t (0,0)))(hM:¬M g)(h1:ae M W fv l.first.fields)(h2:ae M W cv l.changes)(hn:l.first.name.size≤maxLen):ae M W (.slice (some ⟨g,0,none⟩) 1 1) [l]:=by
 refine⟨[[.string l.first.name,fv,cv]],⟨rfl,some ⟨g,0,none⟩,1,rfl,Nat.le_refl _,by unfold maxLen;omega,fun _=>⟨g,0,rfl,hM,(Array.getElem?_eq_some_iff.1 hg).1,fun j u hu=> ?_⟩⟩,rfl,fun i cs x hc hx=> ?_⟩
 ·simp only[World.cell?,hg,Nat.zero_add]
  simpa using hu
 ·match i,hc,hx with
  |0,hc,hx=>cases hc;cases hx;exact⟨fv,cv,rfl,h1,h2,hn⟩
  |i+1,hc,hx=>simp at hx
theorem AG {c:ai}(h:gE c):c.name.size≤maxLen:=bQ (fM _ h.2.2.2).2
theorem AH(xs:List fL)(M:Nat→Prop)(w:World)(hM:Bd M w)(v:Value)(hv:ae M w v xs):
 Calls Tryz.prog 17 #[v] w (aF w fun u w'=>∃ls,dV ls∧0<ls.length∧∃lv,u= .agg #[lv]∧ae M w' lv ls):=by
 obtain⟨i0,dF,dM,db,dL⟩:=info_parts Dq
 have HR:Hid (∀k r,xs[k]? =some r→_):=(show∀k r,_→_ from fun k r h=>AE hv h)
 have kU:=hD hM
 obtain⟨ra,rc,rfl,NV,Sw,_⟩:=hv.open_
 clear hv hM
 generalize hn:xs.length=m at*
 have HN:=hD hn;clear hn
 go_enter Tryz.func17,Tryz.ntmps17
 go_wp2_with fail
 go_loopg [4,5,6,7]4(fun g iv _ _ _ wr=>∃(i n cap:Nat)(a:Option Addr)(ls:List aE),i≤m∧i≤4∧g=4-i∧iv= .int .i64 i∧Hid (yI M w n (.slice a n cap) ls i wr)∧Hid (Bx w [eW (.slice none 0 0),eW (.slice a n cap)] wr))
 case atStart=>exact⟨0,0,0,none,[],Nat.zero_le _,by omega,rfl,rfl,(show yI _ _ _ _ _ _ _ from⟨rfl,Nat.le_refl _,GM,fun h=>by omega,aK.nil _ _ _ _⟩),(show Bx _ _ _ from Bx.eO w _ _)⟩
 case round=>
  obtain⟨i,n,cap,a,ls,hi,WR,rfl,rfl,HS,HB⟩:=hrel
  have cB:=HB.out.b8
  simp only[List.length_cons,List.length_nil]at cB
  have qcm:=HS.out.le
  by_cases Un:i<m∧i<4
  ·obtain⟨aT,wD⟩:=Un
   obtain⟨r,hr⟩:∃r,xs[i]? =some r:=⟨_,List.getElem?_eq_getElem (by rw[HN.out];exact aT)⟩
   obtain⟨b,off,dE,fv,cv,hv,bZ,hf,hc,QU,ao⟩:=HR.out i r hr
   obtain⟨rfl,rfl⟩:ra=some ⟨b,off,none⟩∧rc=dE:=by first|simpa using hv|(rw[HN.out]at hv;simpa using hv)
   obtain⟨q0,q1,q2⟩:=ao wr HB.out.1
   have HE:Hid (Ev M w (bc (.slice a n cap) (eP M w 2)) wr):=(show Ev _ _ _ _ from⟨ag.aj HB.out.1,fun j hj=>by
    rcases hj with(hj|hj)|hj
    ·exact .inl hj
    ·exact .inr hj.1
    ·have:=(HS.out.acc.dO j hj).1;right;omega⟩)
   have Pd:Hid (Bd (bc (.slice a n cap) (eP M w 2)) wr):=(show Bd _ _ from fun j hj=>by
    rcases hj with hj|hj
    ·have:=yG kU.out j hj;omega
    ·exact(HS.out.acc.dO j hj).2)
   have WS:=hD (Gy r QU (bc (.slice a n cap) (eP M w 2)) wr Pd.out fv cv (hf.ev HE.out) (hc.ev HE.out))
   have Uo:=hf
   have hc':=hc
   obtain⟨fa,fc,rfl,_⟩:=Uo.open_
   obtain⟨ca,cc,rfl,_⟩:=hc'.open_
   obtain⟨⟨rn,rfs⟩,rcs⟩:=r
   dsimp only at*
   clear ao hv hr hf hc QU
   go_wp2_with fail
   refine(WS.out).mono ?_
   rintro e w1⟨_,rfl,⟨l,nQ,CC,_,rfl,fv1,cv1,rfl,pj,gz,Up⟩,aw⟩
   have WL:=pj
   have qw:=gz
   obtain⟨Sx,Sy,rfl,_⟩:=WL.open_
   obtain⟨Sz,SA,rfl,_⟩:=qw.open_
   obtain⟨⟨nm,LA⟩,lcs⟩:=l
   dsimp only at*
   have zW:=hD nQ
   have oO:=hD pj
   have wA:=hD gz
   have su:=hD Up
   have aO:=hD (HB.out.below aw)
   have pd:=hD (HS.out.below aw)
   clear nQ CC pj gz Up aw q0 q1 q2
   obtain⟨W1,ib⟩:∃W1:World,W1=w1.alloc (bY nm (.slice Sx LA.length Sy) (.slice Sz lcs.length SA)):=⟨_,rfl⟩
   have aA:Hid (Bx w [eW (.slice none 0 0),eW (.slice a n cap)] W1):=(show Bx _ _ _ from by rw[ib];exact aO.out.alloc _)
   have eB:Hid (yI M w n (.slice a n cap) ls i W1):=(show yI _ _ _ _ _ _ _ from by rw[ib];exact pd.out.below ((Below.refl _ _).alloc (Nat.le_refl _) _))
   have zG:Hid (W1.heap[w1.heap.size]? =some (bY nm (.slice Sx LA.length Sy) (.slice Sz lcs.length SA))):=(show _=_ from by rw[ib];exact heap_alloc_new w1 _)
   have N6:Hid (ae (bc (.slice a n cap) (eP M w 2)) W1 (.slice Sx LA.length Sy) LA∧ae (bc (.slice a n cap) (eP M w 2)) W1 (.slice Sz lcs.length SA) lcs):=(show _∧_ from by
    rw[ib]
    exact⟨oO.out.below ((Below.refl _ _).alloc (Nat.le_refl _) _),wA.out.below ((Below.refl _ _).alloc (Nat.le_refl _) _)⟩)
   clear oO wA pd
   unfold bY at ib
   go_upto_region 6 with fail
   rw[←ib]
   clear ib aO
   obtain⟨at_,nJ⟩:∃at_:Int,(if dC ls nm<0 then 0 else dC ls nm)=at_:=⟨_,rfl⟩
   obtain⟨is,YX⟩:∃is:Bool,(!decide (dC ls nm<0))=is:=⟨_,rfl⟩
   have OU:=hD YX
   have Sm:=hD (tZ (eP M w 2) (.slice a n cap) W1 ls nm (eB.out.acc.slice (fun j hj=>yG kU.out j hj)) (by have:=eB.out.ok.len;omega) at_ is (hD nJ) (hD YX))
   clear nJ YX
   have y1:=one_cell (aA.out.bh rfl)
   obtain⟨c0,c1,c2⟩:=ay zG.out
   go_wp2_with fail
   refine(Sm.out).mono ?_
   rintro e w2⟨rfl,aM⟩
   have bO:=hD (aA.out.below aM)
   have jr:=hD (eB.out.below aM)
   have SC:Hid (w2.heap[w1.heap.size]? =some (bY nm (.slice Sx LA.length Sy) (.slice Sz lcs.length SA))):=(show _=_ from(aM.block _ (Array.getElem?_eq_some_iff.1 zG.out).1).trans zG.out)
   have WT:Hid (ae (bc (.slice a n cap) (eP M w 2)) w2 (.slice Sx LA.length Sy) LA∧ae (bc (.slice a n cap) (eP M w 2)) w2 (.slice Sz lcs.length SA) lcs):=(show _∧_ from⟨N6.out.1.below aM,N6.out.2.below aM⟩)
   clear aM N6 eB y1 c0 c1 c2
   cases is with
   |true=>
    go_wp2_with fail
    go_roundg(4-(i+1))
    case measure=>omega
    case rel=>
     refine⟨i+1,n,cap,a,ls,by omega,by omega,rfl,by go_num,(show yI _ _ _ _ _ _ _ from⟨jr.out.len,by omega,jr.out.ok,fun _=> ?_,jr.out.acc⟩),bO⟩
     have h1:¬dC ls nm<0:=by simpa using OU.out
     have h2:=jr.out.len
     rcases yH ls nm with h3|h3<;>omega
   |false=>
    have zX:Hid (dC ls nm<0):=(show _<_ by simpa using OU.out)
    have jJ:=hD jr.out.len
    have y1:=one_cell (bO.out.bh rfl)
    obtain⟨c0,c1,c2⟩:=ay SC.out
    have iJ:=bO.out.b8
    simp only[List.length_cons,List.length_nil]at iJ
    have eR:Hid (∀o,az.rep (α:=aE) (bc (.slice a n cap) (eP M w 2)) (w2.alloc o) [.string nm, .slice Sx LA.length Sy, .slice Sz lcs.length SA] ⟨⟨nm,LA⟩,lcs⟩):=(show∀o,_ from fun o=>⟨_,_,rfl,WT.out.1.below ((Below.refl _ _).alloc (Nat.le_refl _) _),WT.out.2.below ((Below.refl _ _).alloc (Nat.le_refl _) _),su.out⟩)
    go_wp2_with(at_builtin
                refine aQ (α:=aE) rfl _ _ _ rfl (eP M w 2) (w.heap.size+2) 94 i0 _ 64 Tryz.underlying29 dF dM db dL rfl (by decide) (.slice a n cap) ls rfl (jr.out.acc.alloc _) (fun _=>True) _ _ ⟨⟨nm,LA⟩,lcs⟩ rfl (ct _ _ _ _ rfl trivial) (eR.out _) (by rw[jJ.out];unfold maxLen;omega) (by rw[jJ.out];omega) (by simp;omega) ?_
                rw[jJ.out]
                intro a2 c2' w3 bj dj bP
                have cw:=hD bj
                have fJ:Hid (Bx w [eW (.slice none 0 0),eW (.slice a n cap)] w3):=(show Bx _ _ _ from(bO.out.alloc _).cJ bP (by simp))
                have p1:=one_cell (fJ.out.bh rfl)
                have g1:=aa (fJ.out.bh rfl) 0
                clear bj dj bP)
    go_roundg(4-(i+1))
    case measure=>omega
    case rel=>
     refine⟨i+1,n+1,c2',a2,ls++[⟨⟨nm,LA⟩,lcs⟩],by omega,by omega,rfl,by go_num,(show yI _ _ _ _ _ _ _ from⟨by simp[jJ.out],by omega,jr.out.ok.snoc zW.out (by rw[jJ.out];omega) zX.out,fun _=>by omega,?_⟩),(show Bx _ _ _ from ?_)⟩
     ·exact cw.out.sD (p:=⟨w.heap.size+1,0,none⟩) (.inr ⟨by show w.heap.size≤w.heap.size+1;omega,by show w.heap.size+1<_;omega⟩) (by show w.heap.size+1<_;omega) _
     ·simpa [eW]using fJ.out.set 1 0 rfl (.slice a2 (n+1) c2')
  ·have hex:m≤i∨(i<m∧i=4):=by omega
   have y1:=one_cell (HB.out.bh rfl)
   have g0:=aa (HB.out.bJ rfl) 0
   have z0:=one_cell (HB.out.bJ rfl)
   have g1:=aa (HB.out.bh rfl) 0
   rcases Nat.eq_zero_or_pos n with vG|vG
   ·have N7:i=0:=Nat.eq_zero_of_not_pos fun h=>by have:=HS.out.some_ h;omega
    subst vG N7
    have hm0:m=0:=by omega
    subst hm0
    have Ue:=hD (lj (eP M w 2) wr (dS kU.out cB) ⟨0,[]⟩ (.slice none 0 0) (ae.nil _ _) Fm)
    go_wp2_with fail
    refine(Ue.out).mono ?_
    rintro e w1⟨_,rfl,⟨c,CC,_,⟨_,rfl,⟨fv1,rfl,aU,_⟩⟩⟩,aw⟩
    have wq:=aU
    obtain⟨fa,fc,rfl,_⟩:=wq.open_
    have aO:=hD (HB.out.below aw)
    have Pc:=hD CC
    have eM:=hD aU
    clear aU CC aw y1 g0 z0 g1
    obtain⟨nm,vp⟩:=c
    dsimp only at*
    have y1:=fun o=>one_cell ((aO.out.alloc o).bh rfl)
    have g1:=fun o=>aa ((aO.out.alloc o).bh rfl) 0
    have z0:=fun o=>one_cell ((aO.out.alloc o).bJ rfl)
    have g0:=fun o=>aa ((aO.out.alloc o).bJ rfl) 0
    have s1:=aO.out.b8
    simp only[List.length_cons,List.length_nil]at s1
    have kR:Hid (∀W',W'=((w1.alloc (bY nm (.slice fa vp.length fc) (.slice none 0 0))).setCell ⟨w.heap.size+1,0,none⟩ (.slice (some ⟨w1.heap.size,0,none⟩) 1 1)).setCell ⟨w.heap.size,0,none⟩ (.slice (some ⟨w1.heap.size,0,none⟩) 1 1)→(∃ls,dV ls∧0<ls.length∧∃lv,Value.agg #[.slice (some ⟨w1.heap.size,0,none⟩) 1 1]= .agg #[lv]∧ae M W' lv ls)∧Below w.heap.size w W'):=(show∀W',_→_ from fun W' gX=>by
     have E:Ev (eP M w 2) w1 M W':=by
      rw[gX]
      exact(((Ev.ee w1 fun i hi=> .inl hi).alloc _).setCell (.inl (.inr ⟨by simp,by simp⟩)) _).setCell (.inl (.inr ⟨by simp,by simp⟩)) _
     have iX:W'.heap[w1.heap.size]? =some (.cells #[.string nm, .slice fa vp.length fc, .slice none 0 0] 94 (0,0)):=by
      rw[gX]
      refine(heap_setCell_other _ _ _ _ (by show w1.heap.size≠w.heap.size;omega)).trans ((heap_setCell_other _ _ _ _ (by show w1.heap.size≠w.heap.size+1;omega)).trans ?_)
      exact heap_alloc_new w1 _
     refine⟨⟨[⟨⟨nm,vp⟩,[]⟩],dV.one Pc.out,by simp,_,rfl,JK (l:=⟨⟨nm,vp⟩,[]⟩) iX (fun hm=>by have:=kU.out _ hm;omega) (eM.out.ev E) (ae.nil _ _) (AG Pc.out)⟩,?_⟩
     rw[gX]
     exact((aO.out.alloc _).1.setCell (by simp) _).setCell (by simp) _)
    unfold bY at kR
    go_wp2_with fail
    exact bodyPost_ret (v:= .agg #[.slice (some ⟨w1.heap.size,0,none⟩) 1 1]) (by simp[results,Tryz.results17,go_sem,z0,g0]) rfl ⟨_,rfl,kR.out _ rfl⟩
   ·have kR:Hid (∀W',W'=wr.setCell ⟨w.heap.size,0,none⟩ (.slice a n cap)→(∃ls,dV ls∧0<ls.length∧∃lv,Value.agg #[.slice a n cap]= .agg #[lv]∧ae M W' lv ls)∧Below w.heap.size w W'):=(show∀W',_→_ from fun W' gX=>by
     have E:Ev (eP M w 2) wr M W':=by
      rw[gX]
      exact((Ev.ee wr fun i hi=> .inl hi).setCell (.inl (.inr ⟨by simp,by simp⟩)) _)
     refine⟨⟨ls,HS.out.ok,by rw[HS.out.len];exact vG,_,rfl,(HS.out.acc.slice (fun j hj=>yG kU.out j hj)).ev E⟩,?_⟩
     rw[gX]
     exact HB.out.1.setCell (by simp) _)
    rcases hex with hex|⟨hex,rfl⟩
    all_goals
     go_wp2_with fail
     exact bodyPost_ret (v:= .agg #[.slice a n cap]) (by simp[results,Tryz.results17,go_sem,z0,g0]) rfl ⟨_,rfl,kR.out _ rfl⟩
def jY(c:ai)(l:List aq):ai:=l.foldl bC c
def aI(l:aE)(v:Nat):ai:=jY l.first (l.changes.take v)
theorem cu.cls {c d:ai}{l:List aq}(h:cu c l d):d=jY c l:=by
 induction h with
 |nil c=>rfl
 |cons c d x l _ _ _ ih=>exact ih
theorem cu.AI {c d:ai}{l:List aq}(h:cu c l d)(v:Nat):cu c (l.take v) (jY c (l.take v))∧cu (jY c (l.take v)) (l.drop v) d:=by
 obtain⟨e,h1,h2⟩:=h.split v
 obtain rfl:=h1.cls
 exact⟨h1,h2⟩
theorem du.at_ {l:aE}(h:du l)(v:Nat):cu l.first (l.changes.take v) (aI l v):=by
 obtain⟨d,hd⟩:=h.chs
 exact(hd.AI v).1
theorem du.mL {l:aE}(h:du l)(v:Nat):bR (aI l v):=(h.at_ v).ok h.first
theorem du.step {l:aE}(h:du l){v:Nat}{x:aq}(hx:l.changes[v]? =some x):gJ (aI l v) x∧gY (aI l v) x=true∧aI l (v+1)=bC (aI l v) x:=by
 obtain⟨d,hd⟩:=h.chs
 obtain⟨h1,h2,_⟩:=tW (h.at_ v) hd hx
 refine⟨h1,h2,?_⟩
 unfold aI jY
 rw[List.take_add_one,hx,List.foldl_append];rfl
theorem du.name {l:aE}(h:du l)(v:Nat):(aI l v).name=l.first.name:=(h.at_ v).name
def dh(l:aE)(v:Nat):aE:=⟨aI l v,l.changes.drop v⟩
theorem du.from_ {l:aE}(h:du l)(v:Nat):du (dh l v):=by
 obtain⟨d,hd⟩:=h.chs
 exact⟨h.mL v,by have:=h.len;simp[dh];omega,d,(hd.AI v).2⟩
theorem mM {l:aE}(v k:Nat):aI (dh l v) k=aI l (v+k):=by
 unfold aI dh jY aI jY
 dsimp only
 rw[←List.foldl_append,List.take_add]
def gM(c:ai)(l:List aq)(many:Int)(vs us:List au):Prop:=aW (jY c l).fields many us∧us.map (bT 3)=nB c l (vs.map (bT 3))
theorem gM.snoc {c d:ai}{l:List aq}{x:aq}{many:Int}{vs us ts:List au}(hc:cu c l d)(h:gM c l many vs us)(k:fC d x many us ts):gM c (l++[x]) many vs ts:=by
 obtain⟨h1,h2⟩:=h
 obtain⟨k1,k2⟩:=k
 obtain rfl:=hc.cls
 refine⟨?_,?_⟩
 ·unfold jY at k1⊢;rw[List.foldl_append];exact k1
 ·rw[k2,h2,yD c _ l x _ hc]
def refsOf(l:aE)(v:Nat)(vs:List au):List Int:=(nB (aI l v) (l.changes.drop v) (vs.map (bT 3))).flatten
theorem gM.refs {l:aE}{v:Nat}{many:Int}{vs us:List au}(h:gM (aI l v) (l.changes.drop v) many vs us):us.flatMap (bT 3)=refsOf l v vs:=by
 unfold refsOf
 rw[←h.2,List.flatMap_def]
theorem jZ {c:ai}{s:ByteArray}{rs:List (List Int)}{P:Int→Prop}(h:∀r∈rs,∀n∈r,P n):∀n∈jf c s rs,P n:=by
 intro n hn
 unfold jf at hn
 split at hn
 ·unfold Dj at hn
  split at hn
  ·rw[List.getD_eq_getElem?_getD]at hn
   rename_i e _ _
   cases hq:rs[(fieldAt c e.str).toNat]? with
   |none=>rw[hq]at hn;simp at hn
   |some r=>rw[hq]at hn;exact h r (List.mem_of_getElem? hq) n hn
  ·simp at hn
 ·simp at hn
theorem Dr {c:ai}{x:aq}{rs:List (List Int)}{P:Int→Prop}(h:∀r∈rs,∀n∈r,P n):∀r∈kk c x rs,∀n∈r,P n:=by
 intro r hr
 have h1:∀k,∀r∈rs.take k,∀n∈r,P n:=fun k r hr=>h r (List.mem_of_mem_take hr)
 have h2:∀k,∀r∈rs.drop k,∀n∈r,P n:=fun k r hr=>h r (List.mem_of_mem_drop hr)
 unfold kk at hr
 split at hr
 ·rcases List.mem_append.1 hr with hr|hr
  ·exact h r hr
  ·simp at hr;subst hr;exact jZ h
 ·split at hr
  ·rcases List.mem_append.1 hr with hr|hr
   ·exact h1 _ r hr
   ·exact h2 _ r hr
  ·split at hr
   ·rcases List.mem_append.1 hr with hr|hr
    ·exact h1 _ r hr
    ·rcases List.mem_cons.1 hr with rfl|hr
     ·exact jZ h
     ·exact h2 _ r hr
   ·split at hr
    ·rcases List.mem_append.1 hr with hr|hr
     ·exact h1 _ r hr
     ·rcases List.mem_cons.1 hr with rfl|hr
      ·exact jZ h
      ·rcases List.mem_cons.1 hr with rfl|hr
       ·exact jZ h
       ·exact h2 _ r hr
    ·exact h r hr
theorem rS {P:Int→Prop}:∀(l:List aq)(c:ai)(rs:List (List Int)),(∀r∈rs,∀n∈r,P n)→∀r∈nB c l rs,∀n∈r,P n
 |[],_,_,h=>h
 |_::l,_,_,h=>rS l _ _ (Dr h)
theorem yJ {l:aE}{v:Nat}{vs:List au}{many:Int}(h:aW (aI l v).fields many vs):∀n∈refsOf l v vs,1≤n∧n≤many:=by
 intro n hn
 unfold refsOf at hn
 obtain⟨r,hr,hn⟩:=List.mem_flatten.1 hn
 refine rS (P:=fun n=>1≤n∧n≤many) _ _ _ (fun r hr=> ?_) r hr n hn
 obtain⟨u,hu,rfl⟩:=List.mem_map.1 hr
 obtain⟨f,_,hf⟩:=eF h u hu
 exact oU hf (.inl rfl)
structure mN(ls:List aE)(many:Int)(o:dz)(k v:Nat)(l:aE):Prop where
 cls:o.cls=k
 ver:o.ver=v
 line:ls[k]? =some l
 le:v≤l.changes.length
 cz:aW (aI l v).fields many o.cz
def sG(k:Nat):ByteArray:=([⟨#[97]⟩,⟨#[98,50]⟩,⟨#[104,111,109,101]⟩,⟨#[116,111,112,95,49]⟩,⟨#[122]⟩]:List ByteArray).getD k mu
theorem wX:∀k,k<5→ax (sG k)=true∧(sG k).size≤20:=by
 intro k hk
 rcases k with _|_|_|_|_|k
 all_goals first|(decide+kernel)|omega
theorem uj:∀i,i<5→∀j,j<5→Op.bytesLess (sG i).toList (sG j).toList=decide (i<j):=by decide+kernel
theorem JL:∀i,i<5→∀j,j<5→((sG i).toList==(sG j).toList)=decide (i=j):=by decide+kernel
structure fm(x:cG):Prop where
 sch:dV x.lines
 len:x.objs.length≤10
 objs:∀(i:Nat)(o:dz),x.objs[i]? =some o→o.id=(i:Int)+1∧∃k v l,mN x.lines x.objs.length o k v l
 rlen:x.roots.length≤5
 roots:∀r∈x.roots,1≤r.id∧r.id≤x.objs.length
 names:∃ks:List Nat,ks.Pairwise (·< ·)∧(∀k∈ks,k<5)∧x.roots.map cC.name=ks.map sG
 next:(x.objs.length:Int)+1≤x.next∧x.next≤(x.objs.length:Int)+3
def cK(x:cG)(id:Int):List Int:=
 if id<1 then[]else match x.objs[(id-1).toNat]? with
 |none=>[]
 |some o=>match x.lines[o.cls.toNat]? with
  |none=>[]
  |some l=>refsOf l o.ver.toNat o.cz
theorem fm.OI {x:cG}(h:fm x){i:Nat}{r:cC}(hr:x.roots[i]? =some r):ax r.name=true∧r.name.size≤20:=by
 obtain⟨ks,_,h2,h3⟩:=h.names
 have hm:r.name∈x.roots.map cC.name:=List.mem_map_of_mem (List.mem_of_getElem? hr)
 rw[h3]at hm
 obtain⟨k,hk,e⟩:=List.mem_map.1 hm
 rw[←e]
 exact wX k (h2 k hk)
theorem fm.S8 {x:cG}(h:fm x){i:Nat}{r s:cC}(hr:x.roots[i]? =some r)(hs:x.roots[i+1]? =some s):(Op.bytesLess s.name.toList r.name.toList||s.name.toList==r.name.toList)=false:=by
 obtain⟨ks,h1,h2,h3⟩:=h.names
 have e1:(x.roots.map cC.name)[i]? =some r.name:=by simp[hr]
 have e2:(x.roots.map cC.name)[i+1]? =some s.name:=by simp[hs]
 rw[h3,List.getElem?_map,Option.map_eq_some_iff]at e1 e2
 obtain⟨a,ha,e1⟩:=e1
 obtain⟨b,hb,e2⟩:=e2
 obtain⟨l1,g1⟩:=List.getElem?_eq_some_iff.1 ha
 obtain⟨l2,g2⟩:=List.getElem?_eq_some_iff.1 hb
 have aT:=List.pairwise_iff_getElem.1 h1 i (i+1) l1 l2 (by omega)
 rw[g1,g2]at aT
 have k1:=h2 a (List.mem_of_getElem? ha)
 have k2:=h2 b (List.mem_of_getElem? hb)
 rw[←e1,←e2,uj b k2 a k1,JL b k2 a k1]
 simp;omega
def bo(x:cG):List Int:=x.roots.map cC.id
theorem fm.refs {x:cG}(h:fm x){i:Nat}{o:dz}(ho:x.objs[i]? =some o){k v:Nat}{l:aE}(hk:mN x.lines x.objs.length o k v l):cK x ((i:Int)+1)=refsOf l v o.cz:=by
 unfold cK
 rw[if_neg (by omega),show((i:Int)+1-1).toNat=i by omega,ho]
 simp only
 rw[hk.cls,show((k:Int)).toNat=k by omega,hk.line]
 simp only
 rw[hk.ver,show((v:Int)).toNat=v by omega]
end
section
open Go.RowKit Go.Shelf
theorem iy {M:Nat→Prop}{w:World}{v:Value}{l:List dz}(h:ae M w v l){i:Nat}{x:dz}(hx:l[i]? =some x):∃b off cap a c,v= .slice (some ⟨b,off,none⟩) l.length cap∧b<w.heap.size∧ae M w (.slice a x.cz.length c) x.cz∧∀W,Below w.heap.size w W→(W.cell? ⟨b,off+i*4,none⟩=some (.int .i64 x.id)∧W.cell? ⟨b,off+i*4+1,none⟩=some (.int .i64 x.cls)∧W.cell? ⟨b,off+i*4+2,none⟩=some (.int .i64 x.ver)∧W.cell? ⟨b,off+i*4+3,none⟩=some (.slice a x.cz.length c)):=by
 obtain⟨a,cap,rfl,hl,_,hc⟩:=h.open_
 have hk:=(List.getElem?_eq_some_iff.1 hx).1
 obtain⟨b,off,rfl,_,hb,aC⟩:=hc (by omega)
 obtain⟨cs,⟨vv,rfl,hs⟩,bE⟩:=aC i _ hx
 have iJ:=hs
 obtain⟨a,c,rfl,_⟩:=iJ.open_
 refine⟨b,off,cap,a,c,rfl,hb,hs,fun W hB=> ?_⟩
 have g:∀j u,([.int .i64 x.id, .int .i64 x.cls, .int .i64 x.ver, .slice a x.cz.length c]:List Value)[j]? =some u→W.cell? ⟨b,off+i*4+j,none⟩=some u:=fun j u hu=>(hB.cell (p:=⟨b,off+i*4+j,none⟩) hb).trans (bE j u hu)
 exact⟨g 0 _ rfl,g 1 _ rfl,g 2 _ rfl,g 3 _ rfl⟩
def JO(os:List dz)(n:Int):Int:=idxOf (fun o:dz=>decide (o.id=n)) os
theorem JP(M:Nat→Prop)(w:World)(v:Value)(os:List dz)(hs:ae M w v os)(h8:os.length≤1000)(n:Int):
 Calls Tryz.prog 30 #[v, .int .i64 n] w fun e w'=>e= .returned (.int .i64 (JO os n))∧w=w':=by
 have HL:Hid (∀k o,os[k]? =some o→_):=(show∀k o,_→_ from fun k o h=>iy hs h)
 obtain⟨a,bu,rfl,cq,po,_⟩:=hs.open_
 obtain⟨N,hN⟩:∃N,JO os n=N:=⟨_,rfl⟩
 have HN:=hD hN
 rw[hN]
 have h9:(os.length:Int)≤1000:=by omega
 clear hs hN h8
 go_enter Tryz.func30,Tryz.ntmps30
 go_wp2_with fail
 go_loopg [5]os.length(fun g iv wr=>∃k:Nat,k≤os.length∧g=os.length-k∧iv= .int .i64 k∧wr=w∧Hid (∀y∈os.take k,decide (y.id=n)=false))
 case atStart=>exact⟨0,Nat.zero_le _,rfl,rfl,rfl,(show∀y∈_,_ from fun y hy=>by simp at hy)⟩
 case round=>
  obtain⟨k,hk,rfl,rfl,rfl,HK⟩:=hrel
  by_cases aT:k<os.length
  ·obtain⟨l,hl⟩:∃l,os[k]? =some l:=⟨_,List.getElem?_eq_getElem aT⟩
   obtain⟨b,off,cap,va,vc,hv,bZ,_,ao⟩:=HL.out k l hl
   obtain⟨rfl,rfl⟩:a=some ⟨b,off,none⟩∧bu=cap:=by simpa using hv
   obtain⟨q0,_,_,_⟩:=ao wr (Below.refl _ _)
   clear ao hv
   have zW:=hD hl;clear hl
   by_cases hq:l.id=n
   ·have e0:JO os n=k:=idxOf_hit (p:=fun o:dz=>decide (o.id=n)) HK.out zW.out (by simp[hq])
    have O9:=hD e0
    clear e0
    go_wp2_with fail
    go_ret
    exact⟨by rw[←HN.out,O9.out];rfl,rfl⟩
   ·go_wp2_with fail
    go_roundg(os.length-(k+1))
    case measure=>omega
    case rel=>
     refine⟨k+1,by omega,rfl,by go_num,rfl,(show∀y∈os.take (k+1),_ from fun y hy=> ?_)⟩
     rw[List.take_add_one,zW.out]at hy
     rcases List.mem_append.1 hy with hy|hy
     ·exact HK.out y hy
     ·simp at hy;subst hy;simp[hq]
  ·have e0:JO os n= -1:=jt (p:=fun o:dz=>decide (o.id=n)) (by have:=HK.out;rw[show k=os.length from by omega,List.take_length]at this;exact this)
   have O9:=hD e0
   clear e0
   go_wp2_with fail
   go_ret
   exact⟨by rw[←HN.out,O9.out];rfl,rfl⟩
theorem gq {M:Nat→Prop}{w:World}{v:Value}{l:List cC}(h:ae M w v l){i:Nat}{x:cC}(hx:l[i]? =some x):∃b off cap,v= .slice (some ⟨b,off,none⟩) l.length cap∧b<w.heap.size∧x.name.size≤maxLen∧∀W,Below w.heap.size w W→(W.cell? ⟨b,off+i*2,none⟩=some (.string x.name)∧W.cell? ⟨b,off+i*2+1,none⟩=some (.int .i64 x.id)):=by
 obtain⟨a,cap,rfl,hl,_,hc⟩:=h.open_
 have hk:=(List.getElem?_eq_some_iff.1 hx).1
 obtain⟨b,off,rfl,_,hb,aC⟩:=hc (by omega)
 obtain⟨cs,⟨rfl,hs⟩,bE⟩:=aC i _ hx
 refine⟨b,off,cap,rfl,hb,hs,fun W hB=> ?_⟩
 have g:∀j u,([.string x.name, .int .i64 x.id]:List Value)[j]? =some u→W.cell? ⟨b,off+i*2+j,none⟩=some u:=fun j u hu=>(hB.cell (p:=⟨b,off+i*2+j,none⟩) hb).trans (bE j u hu)
 exact⟨g 0 _ rfl,g 1 _ rfl⟩
def Mm(k:Nat):Nat:=([2,0,1,3,4]:List Nat).getD k 0
theorem PT {k:Nat}(h:k<5):Mm k<5:=by
 rcases k with _|_|_|_|_|k<;>first|decide|omega
theorem PU {k:Nat}(h:k<5):(#[.string ⟨#[104,111,109,101]⟩, .string ⟨#[97]⟩, .string ⟨#[98,50]⟩, .string ⟨#[116,111,112,95,49]⟩, .string ⟨#[122]⟩]:Array Value)[k]? =some (.string (sG (Mm k))):=by
 rcases k with _|_|_|_|_|k<;>first|rfl|omega
theorem Du(c:Int)(hc:I6 c)(w:World):
 Calls Tryz.prog 20 #[.int .i64 c] w fun e w'=>e= .returned (.string (sG (Mm (aD c 5))))∧Below w.heap.size w w':=by
 have hp:aD c 5<5:=bU c 5 (by omega)
 have HP:Hid (∀w,_):=(show∀w,_ from fun w=>jx c 5 w hc (by omega) (by omega))
 have aC:∀(t:TypeId),(w.alloc (.cells #[.string ⟨#[104,111,109,101]⟩, .string ⟨#[97]⟩, .string ⟨#[98,50]⟩, .string ⟨#[116,111,112,95,49]⟩, .string ⟨#[122]⟩] t)).cell? ⟨w.heap.size,aD c 5,none⟩=some (.string (sG (Mm (aD c 5)))):=fun t=>by
  simp only[World.cell?,heap_alloc_new]
  exact PU hp
 have zC:((aD c 5:Nat):Int)<5:=by omega
 have vI:(0:Int)≤((aD c 5:Nat):Int):=Int.natCast_nonneg _
 rw[show(5:Int).toNat=5 from rfl]at HP
 generalize aD c 5=q at*
 go_enter Tryz.func20,Tryz.ntmps20
 go_wp2_with fail
 refine(HP.out _).mono ?_
 rintro e w1⟨rfl,rfl⟩
 go_wp2_with fail
 go_ret
 exact⟨rfl,(Below.refl _ w).alloc (Nat.le_refl _) _⟩
end
end Go.Proofs.YtlkjnefenialbaaGreatDoor
