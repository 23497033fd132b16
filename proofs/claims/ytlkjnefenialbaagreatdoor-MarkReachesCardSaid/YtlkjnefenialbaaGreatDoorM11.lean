/- What Find, line and Check answer on the reference side; no condition beyond each theorem's own. -/
import Derived.Test.YtlkjnefenialbaaGreatDoorM09
set_option linter.unusedVariables false
set_option linter.unusedSimpArgs false
set_option maxHeartbeats 8000000
set_option maxRecDepth 100000
namespace Go.Proofs.YtlkjnefenialbaaGreatDoor
open Go.RowKit
def dC(ls:List aE)(s:ByteArray):Int:=idxOf (fun l:aE=>bD l.first.name s) ls
theorem eE {M:Nat→Prop}{w:World}{v:Value}{ls:List aE}(h:ae M w v ls){k:Nat}{l:aE}(hx:ls[k]? =some l):∃b off cap fa fc ca cc,v= .slice (some ⟨b,off,none⟩) ls.length cap∧b<w.heap.size∧ae M w (.slice fa l.first.fields.length fc) l.first.fields∧ae M w (.slice ca l.changes.length cc) l.changes∧l.first.name.size≤maxLen∧∀W,Below w.heap.size w W→W.cell? ⟨b,off+k*3,none⟩=some (.string l.first.name)∧W.cell? ⟨b,off+k*3+1,none⟩=some (.slice fa l.first.fields.length fc)∧W.cell? ⟨b,off+k*3+2,none⟩=some (.slice ca l.changes.length cc):=by
 obtain⟨a,cap,rfl,hl,_,hc⟩:=h.open_
 have hk:=(List.getElem?_eq_some_iff.1 hx).1
 obtain⟨b,off,rfl,_,hb,aC⟩:=hc (by omega)
 obtain⟨cs,⟨fv,cv,rfl,hf,rH,hn⟩,bE⟩:=aC k l hx
 have WL:=hf
 have qw:=rH
 obtain⟨fa,fc,rfl,_⟩:=WL.open_
 obtain⟨ca,cc,rfl,_⟩:=qw.open_
 refine⟨b,off,cap,fa,fc,ca,cc,rfl,hb,hf,rH,hn,fun W hB=> ?_⟩
 have g:∀j u,([.string l.first.name, .slice fa l.first.fields.length fc, .slice ca l.changes.length cc]:List Value)[j]? =some u→W.cell? ⟨b,off+k*3+j,none⟩=some u:=fun j u hu=>(hB.cell (p:=⟨b,off+k*3+j,none⟩) hb).trans (bE j u hu)
 exact⟨g 0 _ rfl,g 1 _ rfl,g 2 _ rfl⟩
def eW(v:Value):Obj:= .cells #[v] 31 (0,0)
theorem one_cell {W:World}{g:Nat}{c0:Value}{t:TypeId}(h:W.heap[g]? =some (.cells #[c0] t (0,0))):W.cell? ⟨g,0,none⟩=some c0:=by simp[World.cell?,h]
theorem tZ(M:Nat→Prop)(v:Value)(w:World)(ls:List aE)(name:ByteArray)(hs:ae M w v ls)(h8:ls.length≤8)(at_:Int)(is:Bool)(HA:Hid ((if dC ls name<0 then 0 else dC ls name)=at_))(HI:Hid ((!decide (dC ls name<0))=is)):
 Calls Tryz.prog 35 #[.agg #[v], .string name] w fun e w'=>e= .returned (.tuple #[.int .i64 at_, .bool is])∧Below w.heap.size w w':=by
 have HL:Hid (∀k l,ls[k]? =some l→_):=(show∀k l,_→_ from fun k l h=>eE hs h)
 obtain⟨a,bu,rfl,cq,hm,_⟩:=hs.open_
 clear hs
 go_enter Tryz.func35,Tryz.ntmps35
 go_wp2_with fail
 go_loopg [4,5,6]ls.length(fun g r0 r1 iv wr=>∃k:Nat,k≤ls.length∧g=ls.length-k∧iv= .int .i64 k∧r0= .int .i64 0∧r1= .bool false∧wr=w.alloc (eW (.slice a ls.length bu))∧Hid (∀y∈ls.take k,bD y.first.name name=false))
 case atStart=>exact⟨0,Nat.zero_le _,rfl,rfl,rfl,rfl,rfl,(show∀y∈_,_ from fun y hy=>by simp at hy)⟩
 case round=>
  obtain⟨k,hk,rfl,rfl,rfl,rfl,rfl,HK⟩:=hrel
  have oN:(w.alloc (eW (.slice a ls.length bu))).cell? ⟨w.heap.size,0,none⟩=some (.slice a ls.length bu):=one_cell (heap_alloc_new w _)
  by_cases aT:k<ls.length
  ·obtain⟨l,hl⟩:∃l,ls[k]? =some l:=⟨_,List.getElem?_eq_getElem aT⟩
   obtain⟨b,off,cap,fa,fc,ca,cc,hv,bZ,_,_,_,ao⟩:=HL.out k l hl
   obtain⟨rfl,rfl⟩:a=some ⟨b,off,none⟩∧bu=cap:=by simpa using hv
   obtain⟨q0,_,_⟩:=ao (w.alloc (eW (.slice (some ⟨b,off,none⟩) ls.length bu))) ((Below.refl _ _).alloc (Nat.le_refl _) _)
   clear ao hv
   have zW:=hD hl;clear hl
   by_cases hq:(l.first.name.toList==name.toList)=true
   ·have e0:dC ls name=k:=idxOf_hit (p:=fun l:aE=>bD l.first.name name) HK.out zW.out hq
    have O9:=hD e0
    clear e0
    go_wp2_with fail
    go_ret2
    exact⟨tB (by rw[←HA.out,O9.out,if_neg (by omega)]) (by rw[←HI.out,O9.out];simp),(Below.refl _ _).alloc (Nat.le_refl _) _⟩
   ·go_wp2_with fail
    go_roundg(ls.length-(k+1))
    case measure=>omega
    case rel=>
     refine⟨k+1,by omega,rfl,by go_num,rfl,rfl,rfl,(show∀y∈_,_ from fun y hy=> ?_)⟩
     rw[List.take_add_one,zW.out]at hy
     rcases List.mem_append.1 hy with hy|hy
     ·exact HK.out y hy
     ·simp at hy;subst hy;simpa [bD]using hq
  ·go_wp2_with fail
   go_ret2
   have e0:dC ls name= -1:=jt (p:=fun l:aE=>bD l.first.name name) (by have:=HK.out;rw[show k=ls.length from by omega,List.take_length]at this;exact this)
   exact⟨tB (by rw[←HA.out,e0];rfl) (by rw[←HI.out,e0];rfl),(Below.refl _ _).alloc (Nat.le_refl _) _⟩
theorem De(nm:ByteArray)(fv:Value)(ca:Option Addr)(n cc:Nat)(ver:Int)(h0:0≤ver)(h1:ver≤n)(w:World):
 Calls Tryz.prog 62 #[.agg #[.string nm,fv, .slice ca n cc], .int .i64 ver] w fun e w'=>e= .returned (.bool true)∧Below w.heap.size w w':=by
 go_enter Tryz.func62,Tryz.ntmps62
 go_wp2_with fail
 go_ret
 exact⟨aN (by first|(simp;done)|(simp;omega)),(Below.refl _ _).alloc (Nat.le_refl _) _⟩
def Jy(M:Nat→Prop)(w:World)(os:List Obj)(nm:ByteArray)(d:ai)(K:Nat)(ya:Option Addr)(yc:Nat)(wx:World):Prop:=
 wx.heap[K]? =some (cg nm (.slice ya d.fields.length yc))∧ae (eP M w 3) wx (.slice ya d.fields.length yc) d.fields∧Bx w os wx∧w.heap.size+3≤K
theorem sV {w3:World}{K:Nat}{c0 c1:Value}{t:TypeId}(h:w3.heap[K]? =some (.cells #[c0,c1] t (0,0)))(a b:Value):((w3.setCell ⟨K,0,none⟩ a).setCell ⟨K,1,none⟩ b).heap[K]? =some (.cells #[a,b] t (0,0)):=by
 have h1:=heap_setCell_same w3 K 0 _ _ a h
 have h2:=heap_setCell_same _ K 1 _ _ b h1
 simpa using h2
theorem PM {M:Nat→Prop}{w w3:World}{o0 o1 o2:Obj}{nm:ByteArray}{d:ai}{ya:Option Addr}{yc:Nat}(hb:Bx w [o0,o1,o2] w3)(hs:ae (eP M w 3) w3 (.slice ya d.fields.length yc) d.fields)(h3:w.heap.size+3≤w3.heap.size):
 Jy M w [o0,o1,o2] nm d w3.heap.size ya yc (w3.alloc (.cells #[.string nm, .slice ya d.fields.length yc] 91)):=
 ⟨heap_alloc_new w3 _,hs.ev ((Ev.refl _ _).alloc _),hb.alloc _,h3⟩
theorem PN {M:Nat→Prop}{w w3:World}{o0 o1 o2:Obj}{nm:ByteArray}{d:ai}{ya:Option Addr}{yc K:Nat}(hb:Bx w [o0,o1,o2] w3)(hs:ae (fun i=>eP M w 3 i∨i=K) w3 (.slice ya d.fields.length yc) d.fields)(hz:w3.heap[K]? =some (cg ⟨#[]⟩ (.slice none 0 0)))(h3:w.heap.size+3≤K):
 Jy M w [o0,o1,o2] nm d K ya yc ((w3.setCell ⟨K,0,none⟩ (.string nm)).setCell ⟨K,1,none⟩ (.slice ya d.fields.length yc)):=
 ⟨sV hz _ _,(hs.ev (((Ev.refl _ _).setCell (.inl (.inr rfl)) _).setCell (.inl (.inr rfl)) _)).ev (Ev.ee _ fun i hi=> .inl hi),hb.cJ (B:=K) (((Below.refl _ _).setCell (Nat.le_refl K) _).setCell (Nat.le_refl K) _) h3,h3⟩
theorem Fq(w:World)(o:Obj):(w.drew.alloc o).heap.size=w.heap.size+1:=by
 show(w.heap.push o).size=_
 simp
theorem zed {w w3:World}{o:Obj}(h:Below (w.drew.alloc o).heap.size (w.drew.alloc o) w3):w3.heap[w.heap.size]? =some o:=
 (h.block w.heap.size (by rw[Fq];omega)).trans (heap_alloc_new w.drew o)
theorem ub(l:aE)(d:ai)(ver:Nat)(hc:bR l.first)(e:ai)(IP:cu l.first l.changes e)(hd:cu l.first (l.changes.take ver) d)(hv:ver≤l.changes.length)(h5:l.changes.length≤12)(M:Nat→Prop)(w:World)(hM:Bd M w)(fv cv:Value)(bz:ae M w fv l.first.fields)(bE:ae M w cv l.changes):
 Calls Tryz.prog 63 #[.agg #[.string l.first.name,fv,cv], .int .i64 ver] w (aF w fun v w'=>∃jc,v= .tuple #[.agg #[.string l.first.name,jc], .bool true]∧ae M w' jc d.fields):=by
 have oZ:Hid (∀(c:ai)(x:aq)(N:Nat→Prop)(W:World)(fv:Value),gJ c x→bR c→gY c x=true→Bd N W→ae N W fv c.fields→_):=(show∀(c:ai)(x:aq)(N:Nat→Prop)(W:World)(fv:Value),_→_→_→_→_→_ from fun c x N W fv h1 h2 h3 h4 h5=>tV c x h1.pre h2.right (bQ h2.small) h3 N W h4 fv h5)
 have eT:Hid (∀k e x,cu l.first (l.changes.take k) e→l.changes[k]? =some x→bR e∧gJ e x∧gY e x=true∧cu l.first (l.changes.take (k+1)) (bC e x)):=(show∀k e x,_→_→_ from fun k e x h1 h2=>⟨h1.ok hc,tW h1 IP h2⟩)
 have QO:Hid (∀e,cu l.first (l.changes.take ver) e→e=d):=(show∀e,_→_ from fun e h=>h.eq hd)
 have x9:Hid (∀k x,l.changes[k]? =some x→_):=(show∀k x,_→_ from fun k x h=>pS bE h)
 have ij:=hD bz
 obtain⟨fa,fc,rfl,EK,u7,_⟩:=bz.open_
 obtain⟨ca,cc,rfl,QP,QQ,_⟩:=bE.open_
 clear bz bE IP hc hd
 obtain⟨⟨nm,fs⟩,chs⟩:=l
 dsimp only at*
 go_enter Tryz.func63,Tryz.ntmps63
 go_wp2_with fail
 go_loopg [5,7,8,9]ver(fun g r5 iv _ _ wr=>∃(k n cap:Nat)(a:Option Addr),k≤ver∧g=ver-k∧iv= .int .i64 k∧r5= .bool false∧Hid (Gt M w ⟨⟨nm,fs⟩,chs⟩ [bY nm (.slice fa fs.length fc) (.slice ca chs.length cc),cg ⟨#[]⟩ (.slice none 0 0)] 2 k nm a n cap wr))
 case atStart=>exact⟨0,fs.length,fc,fa,Nat.zero_le _,rfl,rfl,rfl,(show Gt _ _ _ _ _ _ _ _ _ _ _ from⟨⟨nm,fs⟩,by simpa using cu.nil _,rfl,rfl,ij.out.ev (dR (Bx.fB w _ _ _).1),Bx.fB w _ _ _⟩)⟩
 case round=>
  obtain⟨k,n,cap,a,Qm,rfl,rfl,rfl,HS⟩:=hrel
  obtain⟨e,N2,Lt,Ub,aU,kr⟩:=HS.out
  have cQ:=hD kr
  obtain⟨l0,l1,l2⟩:=ay (cQ.out.bJ rfl)
  obtain⟨o0,o1⟩:=af (cQ.out.df rfl)
  have sr:=cQ.out.b8
  simp only[List.length_cons,List.length_nil,List.length_append]at sr
  by_cases aT:k<ver
  ·obtain⟨x,hx⟩:∃x,chs[k]? =some x:=⟨_,List.getElem?_eq_getElem (by omega)⟩
   obtain⟨b,off,dE,rH,bZ,ao⟩:=x9.out k x hx
   obtain⟨rfl,rfl⟩:ca=some ⟨b,off,none⟩∧cc=dE:=by simpa using rH
   obtain⟨k0,k1,k2,k3⟩:=eT.out k e x N2 hx
   have FR:=hD k3
   have hkc:k<chs.length:=by omega
   obtain⟨q0,q1,q2,q3,q4,q5,q6,q7⟩:=ao wr cQ.out.1
   have aS:Hid (∀(N:Nat→Prop)(W:World),Bd N W→ae N W (.slice a n cap) e.fields→Calls Tryz.prog 92 #[.agg #[.string nm, .slice a n cap], .agg #[.int .i64 x.kind, .string x.field, .string x.name, .string x.more, .int .i64 x.type.kind, .int .i64 x.type.of, .string x.expr, .string x.other]] W (aF W fun v w'=>∃jc,v= .tuple #[.agg #[.string nm,jc], .int .i64 0]∧ae N w' jc (bC e x).fields)):=(show∀(N:Nat→Prop)(W:World),_→_→_ from fun N W h1 h2=>by
    have h:=oZ.out e x N W (.slice a n cap) k1 k0 k2 h1 h2
    rw[Lt]at h
    exact h)
   have hBW:=dS (M:=M) (w:=w) (n:=3) (W:=wr) hM (by omega)
   have IV:=hD (fun o=>aS.out (fun i=>eP M w 3 i∨i=wr.heap.size) (wr.drew.alloc o) (fun i hi=>by
    rw[Fq]
    rcases hi with hi|hi
    ·have:=hBW i hi;omega
    ·omega) (aU.ev ⟨((ag.refl _ _).drew).alloc _,fun i hi=>hi.imp_right fun h=>Nat.le_of_eq h.symm⟩))
   have YO:=hD (aS.out (eP M w 3) wr.drew hBW (aU.ev ((Ev.refl _ _).drew)))
   have Pa:=hD (fun o=>ao (wr.alloc o) (cQ.out.alloc o).1)
   have qa0:=fun o=>(Pa.out o).1
   have qa1:=fun o=>(Pa.out o).2.1
   have qa2:=fun o=>(Pa.out o).2.2.1
   have qa3:=fun o=>(Pa.out o).2.2.2.1
   have qa4:=fun o=>(Pa.out o).2.2.2.2.1
   have qa5:=fun o=>(Pa.out o).2.2.2.2.2.1
   have qa6:=fun o=>(Pa.out o).2.2.2.2.2.2.1
   have qa7:=fun o=>(Pa.out o).2.2.2.2.2.2.2
   have la2:=fun o=>(ay ((cQ.out.alloc o).bJ rfl)).2.2
   have oa0:=fun o=>(af ((cQ.out.alloc o).df rfl)).1
   have oa1:=fun o=>(af ((cQ.out.alloc o).df rfl)).2
   clear hx rH ao k0 k1 k2 k3 aU kr HS N2
   go_upto_region 5 with fail
   go_cut [8,9](fun s8 s9 wx=>∃(K:Nat)(ya:Option Addr)(yc:Nat),s8= .pointer (some ⟨K,0,none⟩)∧s9= .int .i64 0∧Hid (Jy M w [bY nm (.slice fa fs.length fc) (.slice (some ⟨b,off,none⟩) chs.length cc),cg ⟨#[]⟩ (.slice none 0 0),cg nm (.slice a n cap)] nm (bC e x) K ya yc wx))
   case first=>
    go_region_law(first
     |(go_simp
       go_at_call 92
       first|refine(IV.out _).mono ?_|refine YO.out.mono ?_
       rintro en w3⟨_,rfl,⟨jc,rfl,aU⟩,bP⟩
       obtain⟨ya,yc,rfl,_⟩:=aU.open_
       have eM:=hD aU
       clear aU
       have bO:Hid (Bx w [bY nm (.slice fa fs.length fc) (.slice (some ⟨b,off,none⟩) chs.length cc),cg ⟨#[]⟩ (.slice none 0 0),cg nm (.slice a n cap)] w3):=(by first|exact cQ.out.drew.below bP|exact(cQ.out.drew.alloc _).below bP)
       have s3:=bO.out.b8
       simp only[List.length_cons,List.length_nil]at s3
       try have HZ:=hD (zed bP)
       try have z0:=(af HZ.out).1
       try have z1:=(af HZ.out).2
       try have y0:=aa HZ.out 0
       try have y1:=aa HZ.out 1))
    all_goals(go_wp2_with fail;go_meet)
    all_goals first
     |exact⟨wr.heap.size,ya,yc,rfl,rfl,(show Jy _ _ _ _ _ _ _ _ _ from PN bO.out eM.out HZ.out (by omega))⟩
     |exact⟨w3.heap.size,ya,yc,rfl,rfl,(show Jy _ _ _ _ _ _ _ _ _ from PM bO.out eM.out (by omega))⟩
   case rest=>
    obtain⟨K,ya,yc,rfl,rfl,HC⟩:=hcut
    obtain⟨hC1,hC2,WM,hC4⟩:=HC.out
    obtain⟨d0,d1⟩:=af hC1
    obtain⟨p0,p1⟩:=af (WM.df rfl)
    have f0:=aa (WM.df rfl) 0
    have f1:=aa (WM.df rfl) 1
    have neK:w.heap.size+1+1≠K:=by omega
    clear hC1 hC2 WM
    go_wp2_with fail
    go_roundg(ver-(k+1))
    case measure=>omega
    case rel=>
     refine⟨k+1,(bC e x).fields.length,yc,ya,by omega,rfl,by go_num,rfl,?_⟩
     refine(show Gt _ _ _ _ _ _ _ _ _ _ _ from⟨bC e x,FR.out,Lt,rfl,?_,?_⟩)
     ·exact HC.out.2.1.ev ((((Ev.refl _ _).setCell (.inl (.inr ⟨by show w.heap.size≤w.heap.size+1+1;omega,by show w.heap.size+1+1<w.heap.size+3;omega⟩)) _).setCell (.inl (.inr ⟨by show w.heap.size≤w.heap.size+1+1;omega,by show w.heap.size+1+1<w.heap.size+3;omega⟩)) _))
     ·exact(HC.out.2.2.1.set 2 0 rfl _).set 2 1 rfl _
  ·have Sr:k=ver:=by omega
   obtain rfl:e=d:=QO.out e (by rw[←Sr];exact N2)
   have eM:=hD aU
   obtain⟨r0,r1⟩:=af (cQ.out.bh rfl)
   have g0:=aa (cQ.out.bh rfl) 0
   have g1:=aa (cQ.out.bh rfl) 1
   subst Ub
   clear aU kr HS N2
   go_wp2_with fail
   refine bodyPost_ret (v:= .tuple #[.agg #[.string nm, .slice a e.fields.length cap], .bool true]) (by simp[results,Tryz.results63,go_sem,r0,r1]) rfl ⟨_,rfl,⟨_,rfl,?_⟩,?_⟩
   ·exact eM.out.ev ((((ff wr).setCell (.inl (.inr ⟨by show w.heap.size≤w.heap.size+1;omega,by show w.heap.size+1<w.heap.size+3;omega⟩)) _).setCell (.inl (.inr ⟨by show w.heap.size≤w.heap.size+1;omega,by show w.heap.size+1<w.heap.size+3;omega⟩)) _))
   ·exact(cQ.out.1.setCell (by show w.heap.size≤w.heap.size+1;omega) _).setCell (by show w.heap.size≤w.heap.size+1;omega) _
structure du(l:aE):Prop where
 first:bR l.first
 len:l.changes.length≤5
 chs:∃d,cu l.first l.changes d
structure dV(ls:List aE):Prop where
 len:ls.length≤4
 lines:∀l∈ls,du l
 apart:∀(k:Nat)(l:aE),ls[k]? =some l→dC ls l.first.name=k
theorem Gw(l:aE)(hl:du l)(M:Nat→Prop)(w:World)(hM:Bd M w)(fv cv:Value)(bz:ae M w fv l.first.fields)(bE:ae M w cv l.changes):
 Calls Tryz.prog 120 #[.agg #[.string l.first.name,fv,cv]] w fun e w'=>e= .returned (.bool true)∧Below w.heap.size w w':=by
 obtain⟨d,hd⟩:=hl.chs
 have h5:=hl.len
 have HR:Hid (∀W,Below w.heap.size w W→_):=(show∀W,_→_ from fun W hb=>jd M fv W l.first (bz.below hb) (bQ hl.first.small) hl.first.right)
 have HC:Hid (∀W,Below w.heap.size w W→_):=(show∀W,_→_ from fun W hb=>ub l d l.changes.length hl.first d hd (by rw[List.take_length];exact hd) (Nat.le_refl _) (by omega) M W (hM.below hb) fv cv (bz.below hb) (bE.below hb))
 obtain⟨fa,fc,rfl,EK,u7,_⟩:=bz.open_
 obtain⟨ca,cc,rfl,QP,QQ,_⟩:=bE.open_
 clear bz bE hl hd
 obtain⟨⟨nm,fs⟩,chs⟩:=l
 dsimp only at*
 go_enter Tryz.func120,Tryz.ntmps120
 go_wp2_with fail
 refine(HR.out _ ((Below.refl _ _).alloc (Nat.le_refl _) _)).mono ?_
 rintro e w1⟨rfl,aw⟩
 have HB:=hD ((Bx.fA w (bY nm (.slice fa fs.length fc) (.slice ca chs.length cc))).below aw)
 obtain⟨l0,l1,l2⟩:=ay (HB.out.bJ rfl)
 clear aw
 go_wp2_with fail
 refine(HC.out _ HB.out.1).mono ?_
 rintro e w2⟨_,rfl,⟨jc,rfl,aU⟩,aM⟩
 obtain⟨ya,yc,rfl,_⟩:=aU.open_
 have aA:=hD (HB.out.below aM)
 clear aM aU
 go_wp2_with fail
 go_ret
 exact⟨aN (by first|rfl|simp),(aA.out.alloc _).1⟩
theorem Df(ls:List aE)(h:dV ls)(M:Nat→Prop)(w:World)(hM:Bd M w)(v:Value)(hs:ae M w v ls):
 Calls Tryz.prog 93 #[.agg #[v]] w fun e w'=>e= .returned (.tuple #[.int .i64 0, .int .i64 0])∧Below w.heap.size w w':=by
 have h4:=h.len
 have HL:Hid (∀k l,ls[k]? =some l→_):=(show∀k l,_→_ from fun k l h=>eE hs h)
 have dZ:Hid (∀(k:Nat)(l:aE)W(fv cv:Value),ls[k]? =some l→Below w.heap.size w W→ae M w fv l.first.fields→ae M w cv l.changes→_):=(show∀(k:Nat)(l:aE)W(fv cv:Value),_→_→_→_→_ from fun k l W fv cv hk hb h1 h2=>Gw l (h.lines l (List.mem_of_getElem? hk)) M W (hM.below hb) fv cv (h1.below hb) (h2.below hb))
 have HF:Hid (∀(k:Nat)(l:aE)W,ls[k]? =some l→Below w.heap.size w W→Calls Tryz.prog 35 #[.agg #[v], .string l.first.name] W fun e w'=>e= .returned (.tuple #[.int .i64 k, .bool true])∧Below W.heap.size W w'):=(show∀(k:Nat)(l:aE)W,_→_→_ from fun k l W hk hb=>tZ M v W ls l.first.name (hs.below hb) (by omega) k true (show _=_ by rw[h.apart k l hk,if_neg (by omega)]) (show _=_ by rw[h.apart k l hk];simp))
 obtain⟨a,bu,rfl,cq,hm,_⟩:=hs.open_
 clear hs h
 go_enter Tryz.func93,Tryz.ntmps93
 go_wp2_with fail
 go_loopg [2,3,4,5,6]ls.length(fun g r2 r3 iv _ _ wr=>∃k:Nat,k≤ls.length∧g=ls.length-k∧iv= .int .i64 k∧r2= .int .i64 0∧r3= .int .i64 0∧Hid (Bx w [eW (.slice a ls.length bu)] wr))
 case atStart=>exact⟨0,Nat.zero_le _,rfl,rfl,rfl,rfl,(show Bx _ _ _ from Bx.fA w _)⟩
 case round=>
  obtain⟨k,hk,rfl,rfl,rfl,rfl,HX⟩:=hrel
  have oN:=one_cell (HX.out.bJ rfl)
  by_cases aT:k<ls.length
  ·obtain⟨l,hl⟩:∃l,ls[k]? =some l:=⟨_,List.getElem?_eq_getElem aT⟩
   obtain⟨b,off,cap,fa,fc,ca,cc,hv,bZ,pj,gz,_,ao⟩:=HL.out k l hl
   obtain⟨rfl,rfl⟩:a=some ⟨b,off,none⟩∧bu=cap:=by simpa using hv
   obtain⟨q0,q1,q2⟩:=ao wr HX.out.1
   have N4:=hD (dZ.out k l wr _ _ hl HX.out.1 pj gz)
   have oO:=hD (fun W hb=>HF.out k l W hl hb)
   clear pj gz hv hl
   have vj:=hD ao
   clear ao
   go_upto_region 8 with(go_at_call 120;refine N4.out.mono ?_;rintro e w1⟨rfl,aw⟩)
   have gZ:=hD (HX.out.below aw)
   have gz:=one_cell (gZ.out.bJ rfl)
   obtain⟨p0,p1,p2⟩:=vj.out w1 gZ.out.1
   have EL:=hD (oO.out w1.drew gZ.out.1.drew)
   clear aw q0 q1 q2 oN
   go_region_law(first
    |(go_simp
      go_at_call 35
      refine EL.out.mono ?_
      rintro e w2⟨rfl,aM⟩
      have jN:Hid (Bx w [eW (.slice (some ⟨b,off,none⟩) ls.length bu)] w2):=gZ.out.drew.below aM))
   all_goals
    go_wp2_with fail
    go_roundg(ls.length-(k+1))
    case measure=>omega
    case rel=>exact⟨k+1,by omega,rfl,by go_num,rfl,rfl,jN⟩
  ·go_wp2_with fail
   go_ret2
   exact⟨rfl,HX.out.1⟩
theorem Jz(ls:List aE)(h:dV ls)(M:Nat→Prop)(w:World)(hM:Bd M w)(v:Value)(hs:ae M w v ls)(n:Nat)(hn:n<ls.length):
 Calls Tryz.prog 61 #[.agg #[v], .int .i64 n] w fun e w'=>e= .returned (.int .i64 0)∧Below w.heap.size w w':=by
 have h4:=h.len
 have HC:Hid (∀W,Below w.heap.size w W→_):=(show∀W,_→_ from fun W hb=>Df ls h M W (hM.below hb) v (hs.below hb))
 obtain⟨a,bu,rfl,cq,hm,_⟩:=hs.open_
 clear hs h
 go_enter Tryz.func61,Tryz.ntmps61
 go_wp2_with fail
 refine(HC.out _ ((Below.refl _ _).alloc (Nat.le_refl _) _)).mono ?_
 rintro e w1⟨rfl,aw⟩
 have HB:=hD ((Bx.fA w (eW (.slice a ls.length bu))).below aw)
 have oN:=one_cell (HB.out.bJ rfl)
 clear aw
 go_wp2_with fail
 go_ret
 exact⟨rfl,HB.out.1⟩
theorem M0(ls:List aE)(h:dV ls)(M:Nat→Prop)(w:World)(hM:Bd M w)(v:Value)(hs:ae M w v ls)(n:Nat)(l:aE)(hn:ls[n]? =some l)(ver:Nat)(hv:ver≤l.changes.length)(d:ai)(hd:cu l.first (l.changes.take ver) d):
 Calls Tryz.prog 37 #[.agg #[v], .int .i64 n, .int .i64 ver] w (aF w fun v w'=>∃jc,v= .tuple #[.agg #[.string l.first.name,jc], .int .i64 0]∧ae M w' jc d.fields):=by
 have h4:=h.len
 have vo:=h.lines l (List.mem_of_getElem? hn)
 have h5:=vo.len
 have aT:=(List.getElem?_eq_some_iff.1 hn).1
 obtain⟨b,off,cap,fa,fc,ca,cc,rfl,bZ,pj,gz,_,ao⟩:=eE hs hn
 have cq:ls.length≤cap∧cap≤9223372036854775807:=by obtain⟨_,_,e,h1,h2,_⟩:=hs.open_;cases e;exact⟨h1,h2⟩
 obtain⟨Lx,Ly⟩:=cq
 have HT:Hid (∀W,Below w.heap.size w W→_):=(show∀W,_→_ from fun W hb=>Jz ls h M W (hM.below hb) _ (hs.below hb) n aT)
 have HV:Hid (∀W,_):=(show∀W,_ from fun W=>De l.first.name (.slice fa l.first.fields.length fc) ca l.changes.length cc ver (by omega) (by omega) W)
 obtain⟨d',R9⟩:=vo.chs
 have HC:Hid (∀W,Below w.heap.size w W→w.heap.size+2≤W.heap.size→_):=(show∀W,_→_→_ from fun W hb hz=>ub l d ver vo.first d' R9 hd hv (by omega) (eP M w 2) W (dS hM hz) _ _ (pj.ev (dR hb)) (gz.ev (dR hb)))
 have vj:=hD ao
 clear hs h pj gz ao vo hn hd R9
 obtain⟨⟨nm,fs⟩,chs⟩:=l
 dsimp only at*
 go_enter Tryz.func37,Tryz.ntmps37
 go_wp2_with fail
 refine(HT.out _ (Bx.eO w _ _).1).mono ?_
 rintro e w1⟨rfl,aw⟩
 have HB:=hD ((Bx.eO w (eW (.slice (some ⟨b,off,none⟩) ls.length cap)) (cg ⟨#[]⟩ (.slice none 0 0))).below aw)
 have oN:=one_cell (HB.out.bJ rfl)
 obtain⟨q0,q1,q2⟩:=vj.out w1 HB.out.1
 clear aw
 go_wp2_with fail
 refine(HV.out _).mono ?_
 rintro e w2⟨rfl,aM⟩
 have aA:=hD (HB.out.below aM)
 have qw:=one_cell (aA.out.bJ rfl)
 obtain⟨p0,p1,p2⟩:=vj.out w2 aA.out.1
 clear aM
 go_wp2_with fail
 refine(HC.out _ aA.out.1 aA.out.b8).mono ?_
 rintro e w3⟨_,rfl,⟨jc,rfl,aU⟩,bP⟩
 obtain⟨ya,yc,rfl,_⟩:=aU.open_
 have eM:=hD aU
 have bO:=hD (aA.out.below bP)
 clear bP aU
 have g0:=fun o=>(af ((bO.out.alloc o).bh rfl)).1
 have g1:=fun o=>(af ((bO.out.alloc o).bh rfl)).2
 have f0:=fun o=>aa ((bO.out.alloc o).bh rfl) 0
 have f1:=fun o=>aa ((bO.out.alloc o).bh rfl) 1
 go_wp2_with fail
 refine bodyPost_ret (v:= .tuple #[.agg #[.string nm, .slice ya d.fields.length yc], .int .i64 0]) (by simp[results,Tryz.results37,go_sem,g0,g1]) rfl ⟨_,rfl,⟨_,rfl,?_⟩,?_⟩
 ·exact eM.out.ev ((((ff w3).alloc _).setCell (.inl (.inr ⟨by show w.heap.size≤w.heap.size+1;omega,by show w.heap.size+1<w.heap.size+2;omega⟩)) _).setCell (.inl (.inr ⟨by show w.heap.size≤w.heap.size+1;omega,by show w.heap.size+1<w.heap.size+2;omega⟩)) _)
 ·exact((bO.out.alloc _).1.setCell (by show w.heap.size≤w.heap.size+1;omega) _).setCell (by show w.heap.size≤w.heap.size+1;omega) _
end Go.Proofs.YtlkjnefenialbaaGreatDoor
