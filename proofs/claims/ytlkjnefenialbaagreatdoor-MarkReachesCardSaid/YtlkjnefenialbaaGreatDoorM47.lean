/- The law's own walk; no condition beyond each theorem's own. -/
import Derived.Test.YtlkjnefenialbaaGreatDoorM41
import Derived.Test.YtlkjnefenialbaaGreatDoorM46
set_option linter.unusedVariables false
set_option linter.unusedSimpArgs false
set_option maxHeartbeats 8000000
set_option maxRecDepth 100000
namespace Go.Proofs.YtlkjnefenialbaaGreatDoor
open Go.RowKit Go.Shelf
theorem tg(w:World)(n:Nat):Below w.heap.size w (w.drewN n):=⟨rfl,rfl,rfl,Nat.le_refl _,fun _ _=>rfl⟩
structure dJ(x:cG)(w0:World)(K:Nat)(wo:Obj)(W:World)(m n:Nat)(G B G2 B2:List Int):Prop where
 two:Mk.oR w0 W m n G B G2 B2
 one:Mk.kg (bo x) (cK x) G B
 oth:Mk.kg (bo x) (cK x) G2 B2
 blk:w0.heap[K]? =some wo
section
variable {x:cG}{w0:World}{K:Nat}{wo:Obj}{W W':World}{m n:Nat}{G B G2 B2:List Int}
theorem dJ.below(h:dJ x w0 K wo W m n G B G2 B2)(hb:Below W.heap.size W W'):dJ x w0 K wo W' m n G B G2 B2:=⟨h.two.later hb,h.one,h.oth,h.blk⟩
theorem dJ.at_(h:dJ x w0 K wo W m n G B G2 B2):W.heap[K]? =some wo:=(h.two.bel.block _ (Array.getElem?_eq_some_iff.1 h.blk).1).trans h.blk
theorem zr {x:cG}(h:fm x){l:List Int}(hl:∀y∈l,1≤y∧y≤(x.objs.length:Int)):Mk.dw l=true:=by
 have Iy:=h.len
 unfold Mk.dw
 rw[List.all_eq_true]
 intro y hy
 have:=hl y hy
 simp only[decide_eq_true_eq]
 omega
theorem NH(h:fm x)(hG:Gd w0){lv ov:Value}{ra:Option Addr}{rn rc:Nat}(sC:ae (fun _=>False) w0 lv x.lines)(vM:ae (fun _=>False) w0 ov x.objs){id:Int}(h1:1≤id)(h2:id≤x.objs.length)(hb:Below w0.heap.size w0 W):
 Calls Tryz.prog 11 #[.agg #[lv,ov, .slice ra rn rc, .int .i64 x.next], .int .i64 id] W (aF W fun u w'=>ae (α:=Int) (fun i=>w0.heap.size≤i∧i<W.heap.size) w' u (cK x id)):=by
 have zH:Ev (fun _=>False) w0 (fun i=>w0.heap.size≤i∧i<W.heap.size) W:=⟨ag.aj hb,fun i hi=> .inr hi.1⟩
 have hh:=Er x h (fun i=>w0.heap.size≤i∧i<W.heap.size) W (fun i hi=>hi.2) (hG.below hb) lv ov ra rn rc (sC.ev zH) (vM.ev zH) (id-1).toNat (by omega)
 rw[show(((id-1).toNat:Nat):Int)+1=id from by omega]at hh
 exact hh
theorem dJ.scan(hx:fm x)(h:dJ x w0 K wo W m n G B G2 B2)(hb:Below W.heap.size W W'){u:Value}{id:Int}(hs:ae (α:=Int) (fun i=>w0.heap.size≤i∧i<W.heap.size) W' u (cK x id))(hg:id∈G):
 Calls Tryz.prog 10 #[.pointer (some ⟨m,0,none⟩), .int .i64 id,u] W' fun e w'=>e= .returned (.int .i64 0)∧∃G',dJ x w0 K wo w' m n G' (Mk.eH B id) G2 B2:=by
 have hr:=hx.closed.range (h.one.reached id (.inl hg))
 refine(h.two.scan hb hs id hg (zr hx (hx.closed.refs id hr.1 hr.2))).mono ?_
 rintro e w'⟨rfl,h1⟩
 exact⟨rfl,_,h1,h.one.scan hg,h.oth,h.blk⟩
theorem dJ.K4(hx:fm x)(h:dJ x w0 K wo W m n G B G2 B2)(hb:Below W.heap.size W W'){u:Value}{id:Int}(hs:ae (α:=Int) (fun i=>w0.heap.size≤i∧i<W.heap.size) W' u (cK x id))(hg:id∈G2):
 Calls Tryz.prog 10 #[.pointer (some ⟨n,0,none⟩), .int .i64 id,u] W' fun e w'=>e= .returned (.int .i64 0)∧∃G',dJ x w0 K wo w' m n G B G' (Mk.eH B2 id):=by
 have hr:=hx.closed.range (h.oth.reached id (.inl hg))
 refine(h.two.swap.scan hb hs id hg (zr hx (hx.closed.refs id hr.1 hr.2))).mono ?_
 rintro e w'⟨rfl,h1⟩
 exact⟨rfl,_,h1.swap,h.one,h.oth.scan hg,h.blk⟩
theorem dJ.Tw(hx:fm x)(h:dJ x w0 K wo W m n G B G2 B2)(hb:Below W.heap.size W W'){u:Value}{id:Int}(hs:ae (α:=Int) (fun i=>w0.heap.size≤i∧i<W.heap.size) W' u (cK x id)):
 Calls Tryz.prog 10 #[.pointer (some ⟨n,0,none⟩), .int .i64 id,u] W' fun e w'=>(∃k,e= .returned (.int .i64 k))∧∃G' B',dJ x w0 K wo w' m n G B G' B':=by
 by_cases hg:id∈G2
 ·refine(h.K4 hx hb hs hg).mono ?_
  rintro e w'⟨rfl,G',h1⟩
  exact⟨⟨_,rfl⟩,_,_,h1⟩
 ·refine(h.two.swap.Tr hb id u hg).mono ?_
  rintro e w'⟨rfl,h1⟩
  exact⟨⟨_,rfl⟩,_,_,h1.swap,h.one,h.oth,h.blk⟩
theorem dJ.K6(hx:fm x)(h:dJ x w0 K wo W m n G B G2 B2):
 Calls Tryz.prog 13 #[.pointer (some ⟨n,0,none⟩)] W fun e w'=>∃v,e= .returned v∧cF (fun i=>W.heap.size≤i) w' v (Mk.dD G2 B2)∧Below W.heap.size W w':=h.two.swap.marked
theorem dJ.Tx(h:dJ x w0 K wo W m n G B G2 B2){y:Int}(hy:y∈Mk.dD G2 B2):Mk.BI (bo x) (cK x) y:=h.oth.reached y ((Mk.j8 y G2 B2).1 hy)
theorem dJ.Ty(h:dJ x w0 K wo W m n G B G2 B2)(hx:fm x):(Mk.dD G2 B2).length≤10:=
 Nat.le_trans (Mk.di x.objs.length _ (Mk.lE G2 B2 h.oth.br).nodup fun _ hy=>hx.closed.range (h.Tx hy)) hx.len
theorem Es {F:Nat→Prop}{w:World}{v:Value}{xs:List Int}(h:cF F w v xs)(hn:xs≠[]):∃b off cap,v= .slice (some ⟨b,off,none⟩) xs.length cap∧b<w.heap.size∧∀j x,xs[j]? =some x→w.cell? ⟨b,off+j,none⟩=some (.int .i64 x):=by
 obtain⟨a,cap,rfl,_,_,h1⟩:=h.open_
 obtain⟨b,off,rfl,_,h2,h3⟩:=h1 (List.length_pos_iff.2 hn)
 exact⟨b,off,cap,rfl,h2,h3⟩
theorem lO {F:Nat→Prop}{w:World}{v:Value}{xs:List Int}(h:cF F w v xs):∃a cap,v= .slice a xs.length cap:=by
 obtain⟨a,cap,rfl,_⟩:=h.open_
 exact⟨a,cap,rfl⟩
end
theorem Qj(w:World)(hG:Gd w)(r0 r1 r2:Option Addr)(n0 c0 n1 c1 n2 c2:Nat)(M:Nat→Prop)(tv:Value)(ts:List Int)(ht:ae (α:=Int) (fun _=>False) w tv ts)(sw:∀t∈ts,I6 t)
 (MC:∀W,Below w.heap.size w W→Calls Tryz.prog 5 #[.agg #[.slice r0 n0 c0, .slice r1 n1 c1, .slice r2 n2 c2]] W (aF W fun u w'=>∃(x:cG)(lv ov rv:Value),fm x∧u= .agg #[lv,ov,rv, .int .i64 x.next]∧ae (fun _=>False) w' lv x.lines∧ae (fun _=>False) w' ov x.objs∧ae (fun _=>False) w' rv x.roots))
 (hre:∀(x:cG)W lv ov rv,fm x→Gd W→ae (fun _=>False) W lv x.lines→ae (fun _=>False) W ov x.objs→ae (fun _=>False) W rv x.roots→Calls Tryz.prog 6 #[.agg #[lv,ov,rv, .int .i64 x.next]] W (aF W fun u w'=>∃(L:List Int)(wv:Value),u= .tuple #[wv, .int .i64 0]∧ae (α:=Int) (fun _=>False) w' wv L∧Mk.gj L∧∀n,n∈L↔Mk.BI (bo x) (cK x) n)):
 Calls Tryz.prog 3 #[.agg #[.slice r0 n0 c0, .slice r1 n1 c1, .slice r2 n2 c2],tv] w fun e w'=>e= .returned (.bool true)∧Below w.heap.size w w':=by
 have Ot:=hD MC
 have ZV:Hid (∀(j:Nat)(t:Int),ts[j]? =some t→_):=(show∀(j:Nat)(t:Int),_→_ from fun j t hj=>kG ht hj)
 have HRE:=hD hre
 have HGW:=hD hG
 have sO:=hD sw
 have HT:=hD ht
 obtain⟨ta,tc,rfl,Uz,htm,_⟩:=ht.open_
 generalize Xe:ts.length=tl at*
 have IN:=hD Xe
 clear MC hre hG sw ht Xe
 have lR:=hD ((Below.refl w.heap.size w).alloc (Nat.le_refl _) (.cells #[.slice r0 n0 c0, .slice r1 n1 c1, .slice r2 n2 c2] 26))
 go_enter Tryz.func3,Tryz.ntmps3
 go_wp2_with fail
 refine(Mk.Hg _).mono ?_
 rintro e w1⟨rfl,aw⟩
 have ni:w1.heap[w.heap.size]? =some (.cells #[.slice r0 n0 c0, .slice r1 n1 c1, .slice r2 n2 c2] 26 (0,0)):=(aw.block _ (by simp)).trans (heap_alloc_new w _)
 have aO:=hD (lR.out.trans (aw.mono (by simp)))
 obtain⟨y0,y1,y2⟩:=ay ni
 clear aw ni
 go_wp2_with fail
 refine(Ot.out _ aO.out).mono ?_
 rintro e w2⟨_,rfl,⟨x,lv,ov,rv,hx,rfl,sC,vM,rJ⟩,aM⟩
 obtain⟨la,lc,rfl,_⟩:=sC.open_
 obtain⟨oa,oc,rfl,_⟩:=vM.open_
 obtain⟨ra,rc,rfl,Oh,Sw,_⟩:=rJ.open_
 have HX:=hD hx
 have aA:Hid (Bx w2 [fw (.slice la x.lines.length lc) (.slice oa x.objs.length oc) (.slice ra x.roots.length rc) x.next] (w2.alloc (fw (.slice la x.lines.length lc) (.slice oa x.objs.length oc) (.slice ra x.roots.length rc) x.next))):=(show Bx _ _ _ from Bx.fA w2 _)
 have fI:=hD (aO.out.trans (aM.mono aO.out.size))
 have HL:=hD (sC.below aA.out.1)
 have HO:=hD (vM.below aA.out.1)
 have HR:=hD (rJ.below aA.out.1)
 have QJ:=hD (HGW.out.below (fI.out.trans (aA.out.1.mono fI.out.size)))
 obtain⟨c0,c1,c2,c3⟩:=ab (aA.out.bJ rfl)
 clear aM sC vM rJ hx y0 y1 y2
 unfold fw at c0 c1 c2 c3
 go_wp2_with fail
 refine(HRE.out x _ _ _ _ HX.out QJ.out HL.out HO.out HR.out).mono ?_
 rintro e w3⟨_,rfl,⟨L,wv,rfl,nZ,Pj,iC⟩,bP⟩
 have qap:=nZ
 obtain⟨va,vc,rfl,_⟩:=qap.open_
 have bO:=hD (aA.out.below bP)
 have SC:=hD (HL.out.below bP)
 have sB:=hD (HO.out.below bP)
 have YG:=hD (HR.out.below bP)
 have N3:=hD (QJ.out.below bP)
 have qz:=hD (show ae (α:=Int) (fun _=>False) w3 (.slice va L.length vc) L∧Mk.gj L∧∀n,n∈L↔Mk.BI (bo x) (cK x) n from⟨nZ,Pj,iC⟩)
 have kp:=hD (fI.out.trans (bO.out.1.mono fI.out.size))
 have N0:Hid (∀W,Below w3.heap.size w3 W→_):=(show∀W,_→_ from fun W hb=>KK (fun _=>False) W (fun i hi=>hi.elim) la x.lines.length lc oa x.objs.length oc (.slice ra x.roots.length rc) x.roots x.next (YG.out.below hb) HX.out.rlen)
 have Ss:Hid (∀W,Below w3.heap.size w3 W→W.heap[w2.heap.size]? =some (fw (.slice la x.lines.length lc) (.slice oa x.objs.length oc) (.slice ra x.roots.length rc) x.next)):=(show∀W,_→_ from fun W hb=>(bO.out.below hb).bJ rfl)
 clear nZ Pj iC bP c0 c1 c2 c3
 obtain⟨c0,c1,c2,c3⟩:=ab (Ss.out w3 (Below.refl _ _))
 go_wp2_with fail
 refine(N0.out _ (Below.refl _ _)).mono ?_
 rintro e w4⟨u4,rfl,Pz,eS⟩
 have qaq:=Pz
 obtain⟨ua,uc,rfl,_⟩:=qaq.open_
 rw[List.length_map]at Pz
 have od:=hD Pz
 have fJ:=hD eS
 have Io:Hid (Mk.dw (x.roots.map cC.id)=true):=(show _=_ from zr HX.out (HX.out.closed.roots))
 clear Pz eS c0 c1 c2 c3
 go_wp2_with fail
 refine(Mk.Nv fJ.out od.out Io.out).mono ?_
 rintro e w5⟨m,rfl,bK⟩
 have eT:=hD bK
 clear bK
 obtain⟨c0,c1,c2,c3⟩:=ab (Ss.out w5 eT.out.bel)
 go_wp2_with fail
 refine(N0.out _ eT.out.bel).mono ?_
 rintro e w6⟨u6,rfl,U9,qy⟩
 have qar:=U9
 obtain⟨ua6,uc6,rfl,_⟩:=qar.open_
 rw[List.length_map]at U9
 have FY:=hD U9
 have qas:=hD (eT.out.later qy)
 clear U9 qy c0 c1 c2 c3
 go_wp2_with fail
 refine(Mk.Nw qas.out FY.out Io.out).mono ?_
 rintro e w7⟨n,rfl,VI⟩
 have HLW:Hid (dJ x w3 w2.heap.size (fw (.slice la x.lines.length lc) (.slice oa x.objs.length oc) (.slice ra x.roots.length rc) x.next) w7 m n (Mk.dI [] [] (bo x)) [] (Mk.dI [] [] (bo x)) []):=(show dJ _ _ _ _ _ _ _ _ _ _ _ from⟨VI,Mk.kg.start _ _,Mk.kg.start _ _,Ss.out w3 (Below.refl _ _)⟩)
 have L9:Hid (∀(W:World)(id:Int),Below w3.heap.size w3 W→1≤id→id≤x.objs.length→_):=(show∀(W:World)(id:Int),_→_→_→_ from fun W id hb h1 h2=>NH (W:=W) (ra:=ra) (rn:=x.roots.length) (rc:=rc) HX.out N3.out SC.out sB.out h1 h2 hb)
 have XL:Hid (∀id,Mk.BI (bo x) (cK x) id→1≤id∧id≤x.objs.length):=(show∀id,_→_ from fun id hid=>HX.out.closed.range hid)
 have Mt:Hid (∀G B,Mk.kg (bo x) (cK x) G B→B.length≤10):=(show∀G B,_→_ from fun G B h=>Nat.le_trans (h.short HX.out.closed) HX.out.len)
 clear VI
 go_wp2_with fail
 go_loopg [4,13,14,15,16]20(fun g r4 r13 _ _ _ wr=>∃(i:Nat)(G B:List Int),i=B.length∧g=20-i∧r13= .int .i64 i∧r4= .bool false∧Hid (dJ x w3 w2.heap.size (fw (.slice la x.lines.length lc) (.slice oa x.objs.length oc) (.slice ra x.roots.length rc) x.next) wr m n G B (Mk.dI [] [] (bo x)) []))
 case atStart=>exact⟨0,_,[],rfl,rfl,rfl,rfl,HLW⟩
 case round=>
  obtain⟨i,G,B,hiB,rfl,rfl,rfl,HS⟩:=hrel
  have IE:=Mt.out _ _ HS.out.one
  rw[←hiB]at IE
  have VJ:=hD hiB
  have VK:(i:Int)<20:=by omega
  clear hiB
  obtain⟨c0,c1,c2,c3⟩:=ab HS.out.at_
  rcases G with _|⟨id,G'⟩
  ·go_wp2_with fail
   refine(HS.out.two.next 0 false rfl rfl).mono ?_
   rintro e w8⟨rfl,Ma⟩
   have IC:Hid (dJ x w3 w2.heap.size (fw (.slice la x.lines.length lc) (.slice oa x.objs.length oc) (.slice ra x.roots.length rc) x.next) w8 m n [] B (Mk.dI [] [] (bo x)) []):=(show dJ _ _ _ _ _ _ _ _ _ _ _ from⟨Ma,HS.out.one,HS.out.oth,HS.out.blk⟩)
   clear Ma c0 c1 c2 c3
   go_wp2_with fail
   go_loopg [17,18,19,20]300(fun g r17 _ _ _ wr=>∃(i:Nat)(G2 B2:List Int),i≤300∧g=300-i∧r17= .int .i64 i∧Hid (dJ x w3 w2.heap.size (fw (.slice la x.lines.length lc) (.slice oa x.objs.length oc) (.slice ra x.roots.length rc) x.next) wr m n [] B G2 B2))
   case atStart=>exact⟨0,_,_,by omega,rfl,rfl,IC⟩
   case round=>
    obtain⟨i,G2,B2,hi,rfl,rfl,HS⟩:=hrel
    have Lm:(i<300∧∃g0 R,G2=g0::R)∨(i<300∧G2=[])∨i=300:=by
     rcases G2 with _|⟨g0,R⟩
     ·rcases Nat.lt_or_ge i 300 with h|h
      ·exact .inr (.inl ⟨h,rfl⟩)
      ·exact .inr (.inr (by omega))
     ·rcases Nat.lt_or_ge i 300 with h|h
      ·exact .inl ⟨h,g0,R,rfl⟩
      ·exact .inr (.inr (by omega))
    rcases Lm with⟨hc,g0,R,RP⟩|hex
    ·have hcI:(i:Int)<300:=by omega
     have YR:Hid (Calls Tryz.prog 12 #[.pointer (some ⟨n,0,none⟩)] wr fun e w'=>e= .returned (.bool false)∧wr=w'):=(show Calls Tryz.prog 12 _ _ _ from HS.out.two.swap.done false (by rw[RP];rfl))
     have qG:Mk.dD G2 B2≠[]:=fun he=>by
      have:=(Mk.j8 g0 G2 B2).2 (.inl (by rw[RP];simp))
      rw[he]at this
      cases this
     have QD:=hD qG
     clear qG RP
     have VL:=HS.out.Ty HX.out
     obtain⟨ml,RQ⟩:∃ml,Mk.dD G2 B2=ml:=⟨_,rfl⟩
     have Xn:=hD (HS.out.K6 HX.out)
     have qat:Hid (∀y∈ml,Mk.BI (bo x) (cK x) y):=(show∀y∈ml,_ from fun y hy=>HS.out.Tx (by rw[RQ];exact hy))
     rw[RQ]at VL QD Xn
     clear RQ
     obtain⟨mn,XM⟩:∃mn,ml.length=mn:=⟨_,rfl⟩
     rw[XM]at VL
     have Iw:0<mn:=by rw[←XM];exact List.length_pos_iff.2 QD.out
     have HMN:=hD XM;clear XM
     go_wp2_with fail
     refine(YR.out).mono ?_
     rintro e w8b⟨rfl,rfl⟩
     go_wp2_with fail
     refine(Xn.out).mono ?_
     rintro e w9⟨v9,rfl,Ol,I2⟩
     have hv9:=Es Ol QD.out
     obtain⟨b9,qdh,qdi,hve,qdj,VM⟩:=hv9
     rw[HMN.out]at hve
     subst hve
     have Xu:Hid (∀j y,ml[j]? =some y→_):=(show∀j y,_→_ from fun j y hj=>VM j y hj)
     have zL:Hid (dJ x w3 w2.heap.size (fw (.slice la x.lines.length lc) (.slice oa x.objs.length oc) (.slice ra x.roots.length rc) x.next) w9 m n [] B G2 B2):=(show dJ _ _ _ _ _ _ _ _ _ _ _ from HS.out.below I2)
     clear Ol VM I2
     have kh:∀(k:Nat),k≤2000→∃(j:Nat)(id:Int),j<mn∧ml[j]? =some id∧Int.tmod (k:Int) (mn:Int)=(j:Int)∧1≤id∧id≤x.objs.length:=by
      intro k _
      have hj:k%mn<mn:=Nat.mod_lt _ Iw
      have SH:k%mn<ml.length:=by rw[HMN.out];exact hj
      have hr:=XL.out _ (qat.out _ (List.getElem_mem SH))
      exact⟨k%mn,ml[k%mn],hj,List.getElem?_eq_getElem SH,by rw[Int.tmod_eq_emod_of_nonneg (by omega)];simp,hr.1,hr.2⟩
     have nr:=hD kh
     clear kh
     by_cases ht0:0<tl
     ·have hj:i%tl<tl:=Nat.mod_lt _ ht0
      obtain⟨tj,htj⟩:∃tj,i%tl=tj:=⟨_,rfl⟩
      rw[htj]at hj
      obtain⟨t,NR⟩:∃t,ts[tj]? =some t:=⟨_,List.getElem?_eq_getElem (by rw[IN.out];exact hj)⟩
      have XD:=hD (sO.out t (List.mem_of_getElem? NR))
      obtain⟨tb,qau,qav,XN,qdk,Mb⟩:=ZV.out tj t NR
      obtain⟨rfl,rfl⟩:ta=some ⟨tb,qau,none⟩∧tc=qav:=by first|(simpa using XN)|(rw[IN.out]at XN;simpa using XN)
      have z2:Int.tmod (i:Int) (tl:Int)=(tj:Int):=by
       rw[Int.tmod_eq_emod_of_nonneg (by omega),←htj];simp
      have z3:(0:Int)≤(tj:Int):=Int.natCast_nonneg _
      have z4:(tj:Int)<(tl:Int):=by omega
      have z5:((tl:Int)==0)=false:=by simp;omega
      have z6:tl≠0:=by omega
      have qdl:tl≤9223372036854775807:=by omega
      have z8:IntKind.i64.wrap (tj:Int)=(tj:Int):=IntWalk.i64_in _ (by omega)
      have q9:=Mb w9 (kp.out.trans (zL.out.two.bel.mono kp.out.size))
      obtain⟨pk,Lu,qdm⟩:∃pk,pk=aD t (1000:Int).toNat∧pk<1000:=⟨_,rfl,bU t 1000 (by decide)⟩
      have EM:Hid (∀W,_):=(show∀W,_ from fun W=>CY t 1000 W XD.out (by decide) (by decide))
      rw[←Lu]at EM
      clear NR XN Mb htj Lu
      obtain⟨j,id,hjm,v8,y2,kq,qv⟩:=nr.out (pk+i) (by omega)
      rw[show((pk+i:Nat):Int)=(pk:Int)+(i:Int)from by omega]at y2
      have y3:(0:Int)≤(j:Int):=Int.natCast_nonneg _
      have y4:(j:Int)<(mn:Int):=by omega
      have y5:((mn:Int)==0)=false:=by simp;omega
      have y6:mn≠0:=by omega
      have y8:IntKind.i64.wrap (j:Int)=(j:Int):=IntWalk.i64_in _ (by omega)
      have y9:=Xu.out j id v8
      have zV:=hD (L9.out w9 id zL.out.two.bel kq qv)
      obtain⟨c0,c1,c2,c3⟩:=ab zL.out.at_
      clear v8 kq qv
      go_wp2_with fail
      refine(EM.out _).mono ?_
      rintro e w9b⟨rfl,rfl⟩
      go_wp2_with fail
      refine(zV.out).mono ?_
      rintro e qC⟨u10,rfl,wF,vB⟩
      have Mc:=wF
      obtain⟨qaw,qax,rfl,_⟩:=Mc.open_
      have pr:=hD (zL.out.Tw HX.out vB wF)
      clear wF vB c0 c1 c2 c3
      go_wp2_with fail
      refine(pr.out).mono ?_
      rintro e Ro⟨⟨ke,rfl⟩,G3,B3,F4⟩
      have L8:=hD F4
      clear F4
      go_wp2_with fail
      go_roundg(300-(i+1))
      case measure=>omega
      case rel=>exact⟨i+1,G3,B3,by omega,rfl,by go_num,L8⟩
     ·have z6:¬(0:Int)<(tl:Int):=by omega
      obtain⟨j,id,hjm,v8,y2,kq,qv⟩:=nr.out i (by omega)
      have y3:(0:Int)≤(j:Int):=Int.natCast_nonneg _
      have y4:(j:Int)<(mn:Int):=by omega
      have y5:((mn:Int)==0)=false:=by simp;omega
      have y6:mn≠0:=by omega
      have y8:IntKind.i64.wrap (j:Int)=(j:Int):=IntWalk.i64_in _ (by omega)
      have y9:=Xu.out j id v8
      have zV:=hD (L9.out w9 id zL.out.two.bel kq qv)
      obtain⟨c0,c1,c2,c3⟩:=ab zL.out.at_
      clear v8 kq qv
      go_wp2_with fail
      refine(zV.out).mono ?_
      rintro e qC⟨u10,rfl,wF,vB⟩
      have Mc:=wF
      obtain⟨qaw,qax,rfl,_⟩:=Mc.open_
      have pr:=hD (zL.out.Tw HX.out vB wF)
      clear wF vB c0 c1 c2 c3
      go_wp2_with fail
      refine(pr.out).mono ?_
      rintro e Ro⟨⟨ke,rfl⟩,G3,B3,F4⟩
      have L8:=hD F4
      clear F4
      go_wp2_with fail
      go_roundg(300-(i+1))
      case measure=>omega
      case rel=>exact⟨i+1,G3,B3,by omega,rfl,by go_num,L8⟩
    ·rcases hex with⟨hc,rfl⟩|rfl
     ·have hcI:(i:Int)<300:=by omega
      go_wp2_with fail
      refine(HS.out.two.swap.done true rfl).mono ?_
      rintro e w8b⟨rfl,rfl⟩
      go_wp2_with fail
      go_loopg [21,22,23]20(fun g r21 _ _ wr=>∃(i:Nat)(G2 B2:List Int),i≤B2.length∧g=20-i∧r21= .int .i64 i∧Hid (dJ x w3 w2.heap.size (fw (.slice la x.lines.length lc) (.slice oa x.objs.length oc) (.slice ra x.roots.length rc) x.next) wr m n [] B G2 B2))
      case atStart=>exact⟨0,_,_,by omega,rfl,rfl,HS⟩
      case round=>
       clear HS
       obtain⟨i,G2,B2,VN,rfl,rfl,HS⟩:=hrel
       have IE:=Mt.out _ _ HS.out.oth
       have VJ:=hD VN
       have VK:(i:Int)<20:=by omega
       clear VN IE
       obtain⟨c0,c1,c2,c3⟩:=ab HS.out.at_
       rcases G2 with _|⟨id,G2⟩
       ·have VO:=HS.out.one.done qz.out.2.1 qz.out.2.2
        have Md:=HS.out.oth.done qz.out.2.1 qz.out.2.2
        have NZ:Hid (Mk.kI (Mk.dD [] B) L=true):=(show _=_ from by rw[VO];unfold Mk.kI;exact decide_eq_true rfl)
        have RR:Hid (Mk.kI (Mk.dD [] B2) L=true):=(show _=_ from by rw[Md];unfold Mk.kI;exact decide_eq_true rfl)
        clear VO Md
        go_wp2_with fail
        refine(HS.out.two.swap.done true rfl).mono ?_
        rintro e _⟨rfl,rfl⟩
        go_wp2_with fail
        refine(HS.out.two.done true rfl).mono ?_
        rintro e _⟨rfl,rfl⟩
        go_wp2_with fail
        refine(HS.out.two.swap.done true rfl).mono ?_
        rintro e _⟨rfl,rfl⟩
        go_wp2_with fail
        refine(HS.out.two.marked).mono ?_
        rintro e VP⟨v21,rfl,E2,E3⟩
        have RS:=lO E2
        obtain⟨a21,VQ,rfl⟩:=RS
        have Me:=hD (Mk.mQ _ _ _ _ _ _ _ E2 (Mk.lL (qz.out.1.below (HS.out.two.bel.trans (E3.mono HS.out.two.bel.size)))))
        rw[NZ.out]at Me
        have RT:Hid (dJ x w3 w2.heap.size (fw (.slice la x.lines.length lc) (.slice oa x.objs.length oc) (.slice ra x.roots.length rc) x.next) VP m n [] B [] B2):=(show dJ _ _ _ _ _ _ _ _ _ _ _ from HS.out.below E3)
        clear E2 E3 c0 c1 c2 c3
        go_wp2_with fail
        refine(Me.out).mono ?_
        rintro e w22⟨rfl,nq,rfl⟩
        have zM:Hid (dJ x w3 w2.heap.size (fw (.slice la x.lines.length lc) (.slice oa x.objs.length oc) (.slice ra x.roots.length rc) x.next) (VP.drewN nq) m n [] B [] B2):=(show dJ _ _ _ _ _ _ _ _ _ _ _ from RT.out.below (tg _ _))
        go_wp2_with fail
        refine(zM.out.K6 HX.out).mono ?_
        rintro e w23⟨v23,rfl,E4,E5⟩
        have RU:=lO E4
        obtain⟨a23,VR,rfl⟩:=RU
        have Mf:=hD (Mk.mQ _ _ _ _ _ _ _ E4 (Mk.lL (qz.out.1.below (zM.out.two.bel.trans (E5.mono zM.out.two.bel.size)))))
        rw[RR.out]at Mf
        have Mg:Hid (dJ x w3 w2.heap.size (fw (.slice la x.lines.length lc) (.slice oa x.objs.length oc) (.slice ra x.roots.length rc) x.next) w23 m n [] B [] B2):=(show dJ _ _ _ _ _ _ _ _ _ _ _ from zM.out.below E5)
        clear E4 E5
        go_wp2_with fail
        refine(Mf.out).mono ?_
        rintro e w24⟨rfl,Cl,rfl⟩
        go_wp2_with fail
        go_ret
        exact⟨rfl,kp.out.trans ((Mg.out.two.bel.trans ((tg _ _).mono Mg.out.two.bel.size)).mono kp.out.size)⟩
       ·have VS:=XL.out id (HS.out.oth.reached id (.inl (by simp)))
        obtain⟨kq,qv⟩:=VS
        go_wp2_with fail
        refine(HS.out.two.swap.done false rfl).mono ?_
        rintro e _⟨rfl,rfl⟩
        go_wp2_with fail
        refine(HS.out.two.swap.next id true rfl rfl).mono ?_
        rintro e VT⟨rfl,Ma⟩
        have zN:Hid (dJ x w3 w2.heap.size (fw (.slice la x.lines.length lc) (.slice oa x.objs.length oc) (.slice ra x.roots.length rc) x.next) VT m n [] B (id::G2) B2):=(show dJ _ _ _ _ _ _ _ _ _ _ _ from⟨Ma.swap,HS.out.one,HS.out.oth,HS.out.blk⟩)
        clear Ma c0 c1 c2 c3
        obtain⟨c0,c1,c2,c3⟩:=ab zN.out.at_
        have zV:=hD (L9.out VT id zN.out.two.bel kq qv)
        clear kq qv
        go_wp2_with fail
        refine(zV.out).mono ?_
        rintro e w19⟨u19,rfl,E6,Mh⟩
        have Mi:=E6
        obtain⟨qay,qaz,rfl,_⟩:=Mi.open_
        have pr:=hD (zN.out.K4 HX.out Mh E6 (by simp))
        clear E6 Mh c0 c1 c2 c3
        go_wp2_with fail
        refine(pr.out).mono ?_
        rintro e w20⟨rfl,G3,F4⟩
        have RV:=hD F4
        clear F4
        go_wp2_with fail
        go_roundg(20-(i+1))
        case measure=>omega
        case rel=>exact⟨i+1,G3,_,(by rw[Mk.nH B2 id (zN.out.oth.apart id (by simp))];have:=VJ.out;omega),rfl,by go_num,RV⟩
     ·go_wp2_with fail
      go_loopg [21,22,23]20(fun g r21 _ _ wr=>∃(i:Nat)(G2 B2:List Int),i≤B2.length∧g=20-i∧r21= .int .i64 i∧Hid (dJ x w3 w2.heap.size (fw (.slice la x.lines.length lc) (.slice oa x.objs.length oc) (.slice ra x.roots.length rc) x.next) wr m n [] B G2 B2))
      case atStart=>exact⟨0,_,_,by omega,rfl,rfl,HS⟩
      case round=>
       clear HS
       obtain⟨i,G2,B2,VN,rfl,rfl,HS⟩:=hrel
       have IE:=Mt.out _ _ HS.out.oth
       have VJ:=hD VN
       have VK:(i:Int)<20:=by omega
       clear VN IE
       obtain⟨c0,c1,c2,c3⟩:=ab HS.out.at_
       rcases G2 with _|⟨id,G2⟩
       ·have VO:=HS.out.one.done qz.out.2.1 qz.out.2.2
        have Md:=HS.out.oth.done qz.out.2.1 qz.out.2.2
        have NZ:Hid (Mk.kI (Mk.dD [] B) L=true):=(show _=_ from by rw[VO];unfold Mk.kI;exact decide_eq_true rfl)
        have RR:Hid (Mk.kI (Mk.dD [] B2) L=true):=(show _=_ from by rw[Md];unfold Mk.kI;exact decide_eq_true rfl)
        clear VO Md
        go_wp2_with fail
        refine(HS.out.two.swap.done true rfl).mono ?_
        rintro e _⟨rfl,rfl⟩
        go_wp2_with fail
        refine(HS.out.two.done true rfl).mono ?_
        rintro e _⟨rfl,rfl⟩
        go_wp2_with fail
        refine(HS.out.two.swap.done true rfl).mono ?_
        rintro e _⟨rfl,rfl⟩
        go_wp2_with fail
        refine(HS.out.two.marked).mono ?_
        rintro e VP⟨v21,rfl,E2,E3⟩
        have RS:=lO E2
        obtain⟨a21,VQ,rfl⟩:=RS
        have Me:=hD (Mk.mQ _ _ _ _ _ _ _ E2 (Mk.lL (qz.out.1.below (HS.out.two.bel.trans (E3.mono HS.out.two.bel.size)))))
        rw[NZ.out]at Me
        have RT:Hid (dJ x w3 w2.heap.size (fw (.slice la x.lines.length lc) (.slice oa x.objs.length oc) (.slice ra x.roots.length rc) x.next) VP m n [] B [] B2):=(show dJ _ _ _ _ _ _ _ _ _ _ _ from HS.out.below E3)
        clear E2 E3 c0 c1 c2 c3
        go_wp2_with fail
        refine(Me.out).mono ?_
        rintro e w22⟨rfl,nq,rfl⟩
        have zM:Hid (dJ x w3 w2.heap.size (fw (.slice la x.lines.length lc) (.slice oa x.objs.length oc) (.slice ra x.roots.length rc) x.next) (VP.drewN nq) m n [] B [] B2):=(show dJ _ _ _ _ _ _ _ _ _ _ _ from RT.out.below (tg _ _))
        go_wp2_with fail
        refine(zM.out.K6 HX.out).mono ?_
        rintro e w23⟨v23,rfl,E4,E5⟩
        have RU:=lO E4
        obtain⟨a23,VR,rfl⟩:=RU
        have Mf:=hD (Mk.mQ _ _ _ _ _ _ _ E4 (Mk.lL (qz.out.1.below (zM.out.two.bel.trans (E5.mono zM.out.two.bel.size)))))
        rw[RR.out]at Mf
        have Mg:Hid (dJ x w3 w2.heap.size (fw (.slice la x.lines.length lc) (.slice oa x.objs.length oc) (.slice ra x.roots.length rc) x.next) w23 m n [] B [] B2):=(show dJ _ _ _ _ _ _ _ _ _ _ _ from zM.out.below E5)
        clear E4 E5
        go_wp2_with fail
        refine(Mf.out).mono ?_
        rintro e w24⟨rfl,Cl,rfl⟩
        go_wp2_with fail
        go_ret
        exact⟨rfl,kp.out.trans ((Mg.out.two.bel.trans ((tg _ _).mono Mg.out.two.bel.size)).mono kp.out.size)⟩
       ·have VS:=XL.out id (HS.out.oth.reached id (.inl (by simp)))
        obtain⟨kq,qv⟩:=VS
        go_wp2_with fail
        refine(HS.out.two.swap.done false rfl).mono ?_
        rintro e _⟨rfl,rfl⟩
        go_wp2_with fail
        refine(HS.out.two.swap.next id true rfl rfl).mono ?_
        rintro e VT⟨rfl,Ma⟩
        have zN:Hid (dJ x w3 w2.heap.size (fw (.slice la x.lines.length lc) (.slice oa x.objs.length oc) (.slice ra x.roots.length rc) x.next) VT m n [] B (id::G2) B2):=(show dJ _ _ _ _ _ _ _ _ _ _ _ from⟨Ma.swap,HS.out.one,HS.out.oth,HS.out.blk⟩)
        clear Ma c0 c1 c2 c3
        obtain⟨c0,c1,c2,c3⟩:=ab zN.out.at_
        have zV:=hD (L9.out VT id zN.out.two.bel kq qv)
        clear kq qv
        go_wp2_with fail
        refine(zV.out).mono ?_
        rintro e w19⟨u19,rfl,E6,Mh⟩
        have Mi:=E6
        obtain⟨qay,qaz,rfl,_⟩:=Mi.open_
        have pr:=hD (zN.out.K4 HX.out Mh E6 (by simp))
        clear E6 Mh c0 c1 c2 c3
        go_wp2_with fail
        refine(pr.out).mono ?_
        rintro e w20⟨rfl,G3,F4⟩
        have RV:=hD F4
        clear F4
        go_wp2_with fail
        go_roundg(20-(i+1))
        case measure=>omega
        case rel=>exact⟨i+1,G3,_,(by rw[Mk.nH B2 id (zN.out.oth.apart id (by simp))];have:=VJ.out;omega),rfl,by go_num,RV⟩
  ·have VS:=XL.out id (HS.out.one.reached id (.inl (by simp)))
   obtain⟨kq,qv⟩:=VS
   go_wp2_with fail
   refine(HS.out.two.next id true rfl rfl).mono ?_
   rintro e w8⟨rfl,Ma⟩
   have IC:Hid (dJ x w3 w2.heap.size (fw (.slice la x.lines.length lc) (.slice oa x.objs.length oc) (.slice ra x.roots.length rc) x.next) w8 m n (id::G') B (Mk.dI [] [] (bo x)) []):=(show dJ _ _ _ _ _ _ _ _ _ _ _ from⟨Ma,HS.out.one,HS.out.oth,HS.out.blk⟩)
   clear Ma c0 c1 c2 c3
   obtain⟨c0,c1,c2,c3⟩:=ab IC.out.at_
   have zV:=hD (L9.out w8 id IC.out.two.bel kq qv)
   clear kq qv
   go_wp2_with fail
   refine(zV.out).mono ?_
   rintro e w9⟨u9,rfl,Ol,I2⟩
   have qa8:=Ol
   obtain⟨ua9,uc9,rfl,_⟩:=qa8.open_
   have pr:=hD (IC.out.scan HX.out I2 Ol (by simp))
   clear Ol I2 c0 c1 c2 c3
   go_wp2_with fail
   refine(pr.out).mono ?_
   rintro e qC⟨rfl,G2,F4⟩
   have L5:=hD F4
   clear F4
   go_wp2_with fail
   go_roundg(20-(i+1))
   case measure=>omega
   case rel=>exact⟨i+1,G2,_,(by rw[Mk.nH B id (IC.out.one.apart id (by simp)),VJ.out]),rfl,by go_num,rfl,L5⟩
end Go.Proofs.YtlkjnefenialbaaGreatDoor
