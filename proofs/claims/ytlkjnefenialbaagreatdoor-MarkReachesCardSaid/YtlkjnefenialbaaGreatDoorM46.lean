/- What obj.Latest, Book.Latest and law19.refs answer; no condition beyond each theorem's own. -/
import Derived.Test.YtlkjnefenialbaaGreatDoorM45
set_option linter.unusedVariables false
set_option linter.unusedSimpArgs false
set_option maxHeartbeats 8000000
set_option maxRecDepth 100000
namespace Go.Proofs.YtlkjnefenialbaaGreatDoor
open Go.RowKit Go.Shelf
def Wi(V R H F T L:Nat):Obj:= .cells #[.func (.func 106) #[] #[.pointer (some ⟨V,0,none⟩), .pointer (some ⟨R,0,none⟩), .pointer (some ⟨H,0,none⟩), .pointer (some ⟨F,0,none⟩), .pointer (some ⟨T,0,none⟩), .pointer (some ⟨L,0,none⟩)]] 191 (0,0)
structure KV(l:aE)(fr te:Nat)(many:Int)(vs:List au)(N:Nat→Prop)(V R H F T L K:Nat)(fv cv:Value)(w:World)(i:Nat)(W:World):Prop where
 st:iW l fr te many vs N V R H F T L fv cv i W
 fn:W.heap[K]? =some (Wi V R H F T L)
 below:Below w.heap.size w W
theorem KV.only {l:aE}{fr te:Nat}{many:Int}{vs:List au}{N:Nat→Prop}{V R H F T L K:Nat}{fv cv:Value}{w:World}{i:Nat}{A B:World}{S:Nat→Prop}(h:KV l fr te many vs N V R H F T L K fv cv w i A)(ho:ag S A B)(hS:∀j,S j→(j≠V∧j≠R∧j≠H∧j≠F∧j≠T∧j≠L)∧j≠K∧w.heap.size≤j)(hN:∀j,S j→N j):KV l fr te many vs N V R H F T L K fv cv w i B:=
 ⟨h.st.only ho (fun j hj=>(hS j hj).1) hN,ho.at_ h.fn (fun h=>(hS _ h).2.1 rfl),cA h.below h.below.size ho (fun j hj=>(hS j hj).2.2)⟩
theorem KW(l:aE)(hl:du l)(fr te:Nat)(Mw:fr≤te)(hte:te≤l.changes.length)(many:Int)(hm:many≤100000)(vs:List au)(hv:aW (aI l fr).fields many vs)(M:Nat→Prop)(w:World)(hM:Bd M w)(hG:Gd w)(fv cv vv:Value)(bz:ae M w fv l.first.fields)(bE:ae M w cv l.changes)(dk:ae M w vv vs):
 Calls Tryz.prog 75 #[.agg #[.string l.first.name,fv,cv], .int .i64 fr, .int .i64 te,vv] w (aF w fun v w'=>∃us uv,v= .tuple #[uv, .int .i64 0]∧gM (aI l fr) (dT l fr te te) many vs us∧ae M w' uv us):=by
 have h8:vs.length≤12:=by
  have:=((de _).1 (hl.mL fr).right).2.1
  rw[hv.1];omega
 have kU:=Lib.hid hM
 have Lv:Hid (∀W,Below w.heap.size w W→_):=(show∀W,_→_ from fun W hb=>yO hv h8 M W vv (hM.below hb) (dk.below hb))
 have vu:Hid (∀(S:Nat→Prop)p W,Below w.heap.size w W→¬S p→(∀i,S i→w.heap.size≤i∧i<W.heap.size)→W.heap[p]? =some (bY l.first.name fv cv)→KR Tryz.prog 121 #[.pointer (some ⟨p,0,none⟩)] W S 1 0 (mZ l (oK M S W)) (fun i=>i=l.changes.length+1)):=(show∀(S:Nat→Prop)p W,_→_→_→_→_ from fun S p W h1 h2 h3 h4=>lN l hl M S p w W hM h1 hG.tb fv cv bz bE h4 h2 h3)
 have wA:Hid (∀(N:Nat→Prop)(i V R H F T L:Nat)fvc W,i≤te→BW V R H F T L→(∀j,nI V H F j→N j)→(∀j,nI V H F j→w.heap.size≤j)→Bd N W→Below w.heap.size w W→ae N W fvc (aI l i).fields→iW l fr te many vs N V R H F T L fv cv i W→_):=(show∀(N:Nat→Prop)(i V R H F T L:Nat)fvc W,_→_→_→_→_→_→_→_→_ from fun N i V R H F T L fvc W h1 h2 h3 h4 h5 h6 h7 h8=>Hz l hl fr te i Mw hte h1 many hm vs M N V R H F T L fv cv fvc h2 w W h3 h4 h5 h6 hG bE h7 h8)
 have SS:Hid (∀us,us.map (bT 3)=vs.map (bT 3)→aW (aI l fr).fields many us→gM (aI l fr) (dT l fr te 0) many vs us):=(show∀us:List au,_→_→_ from fun us h1 h2=>by
  rw[xP (Nat.zero_le _)]
  exact⟨h2,h1⟩)
 have HV:=Lib.hid hv
 have eg:∀args w,(callFunc 106 args).run Tryz.prog w= .ok (.enter 106 args) w:=enters_of Tryz.func106 (by kernel_rfl) rfl
 have Is:∀(fn:Fn)(first cap:Array Value)(w:World),(Instr.makeFunc fn first cap).run Tryz.prog w= .ok (.func fn first cap) w:=fun _ _ _ _=>rfl
 obtain⟨fa,fc,rfl,_⟩:=bz.open_
 obtain⟨ca,cc,rfl,_⟩:=bE.open_
 obtain⟨va,vc,rfl,_⟩:=dk.open_
 have cQ:=Lib.hid (Bx.fB w (bY l.first.name (.slice fa l.first.fields.length fc) (.slice ca l.changes.length cc)) (km fr) (km te))
 clear bz bE dk hM hG hv hl
 refine callsIn_wide.1 (callsIn_of_wp_marks (n:=0) Tryz.func75 rfl trivial (wpIn_wide.2 ?_) rfl)
 simp only[Tryz.ntmps75,List.size_toArray,List.length_cons,List.length_nil,Nat.reduceAdd,Nat.reduceSub,Array.replicate_succ,Array.replicate_zero,List.push_toArray,List.append_toArray,List.nil_append,List.cons_append]
 go_wp2_with fail
 refine(Lv.out _ cQ.out.1).mono ?_
 rintro e w1⟨_,rfl,dc,aw⟩
 obtain⟨ua,uc,rfl,_⟩:=dc.open_
 have aO:=Lib.hid (cQ.out.below aw)
 have pd:=Lib.hid dc
 have db:=aO.out.b8
 simp only[List.length_cons,List.length_nil]at db
 clear aw dc
 go_upto_region 3 with fail
 obtain⟨q,hq⟩:∃q,w1.heap.size=q:=⟨_,rfl⟩
 obtain⟨W3,sy⟩:∃W3:World,W3=(((w1.alloc (km 0)).alloc (Cv (.slice ua vs.length uc))).alloc (vZ 0)).alloc (Wi q (w.heap.size+1) (q+1) (q+1+1) (w.heap.size+1+1) w.heap.size):=⟨_,rfl⟩
 have hX:=Bx.MW w1 (km 0) (Cv (.slice ua vs.length uc)) (vZ 0) (Wi q (w.heap.size+1) (q+1) (q+1+1) (w.heap.size+1+1) w.heap.size)
 rw[←sy]at hX
 have Q9:=Lib.hid hX
 have bO:=Lib.hid (aO.out.below hX.1)
 have vb:W3.heap.size=q+4:=by rw[sy,←hq];simp
 unfold km Cv vZ Wi at sy
 rw[hq,←sy]
 have Vz:=Lib.hid hq
 clear sy hX
 obtain⟨l0,l1,l2⟩:=ay (bO.out.bJ rfl)
 go_wp2_with fail
 refine(mY _ _ _ _).mono ?_
 rintro e w2⟨rfl,rfl⟩
 go_wp2_with fail
 obtain⟨W2,sP⟩:∃W2:World,W2=W3.alloc (bY l.first.name (.slice fa l.first.fields.length fc) (.slice ca l.changes.length cc)):=⟨_,rfl⟩
 have zG:Hid (W2.heap[W3.heap.size]? =some (bY l.first.name (.slice fa l.first.fields.length fc) (.slice ca l.changes.length cc))):=(show _=_ by rw[sP];exact heap_alloc_new W3 _)
 have RI:Below W3.heap.size W3 W2:=by rw[sP];exact(Below.refl _ _).alloc (Nat.le_refl _) _
 have aA:=Lib.hid (bO.out.below RI)
 have jN:=Lib.hid (Q9.out.below RI)
 have dL:W2.heap.size=q+5:=by rw[sP];simp[vb]
 rw[←sP]
 rw[vb]at zG
 clear sP RI l0 l1 l2
 have hNS:∀j,nI q (q+1) (q+1+1) j→w.heap.size≤j∧j<W2.heap.size:=fun j hj=>by rcases hj with hj|hj|hj<;>omega
 have Sh:=Lib.hid hNS
 have N8:=Lib.hid (vu.out (nI q (q+1) (q+1+1)) (q+4) W2 aA.out.1 (fun h=>by rcases h with h|h|h<;>omega) hNS zG.out)
 have zX:Hid (BW q (w.heap.size+1) (q+1) (q+1+1) (w.heap.size+1+1) w.heap.size):=(show BW _ _ _ _ _ _ from⟨by omega,by omega,by omega,by omega,by omega,by omega,by omega,by omega,by omega,by omega,by omega,by omega⟩)
 have T2:Hid (KV l fr te many vs (oK M (nI q (q+1) (q+1+1)) W2) q (w.heap.size+1) (q+1) (q+1+1) (w.heap.size+1+1) w.heap.size (q+1+1+1) (.slice fa l.first.fields.length fc) (.slice ca l.changes.length cc) w 0 W2):=(show KV _ _ _ _ _ _ _ _ _ _ _ _ _ _ _ _ _ _ from by
  have e0:=jN.out.bJ rfl
  have e1:=jN.out.bh rfl
  have e2:=jN.out.df rfl
  have e3:=jN.out.Gr rfl
  rw[Vz.out]at e0 e1 e2 e3
  exact⟨⟨e0,aA.out.bh rfl,e2,aA.out.df rfl,aA.out.bJ rfl,vs,ua,_,uc,e1,pd.out.ev ⟨ag.aj (jN.out.1.mono (Nat.le_refl _)),fun j hj=>by
   rcases hj with hj|hj|hj
   ·exact .inl hj
   ·exact .inr (by have:=Vz.out;rcases hj with hj|hj|hj<;>omega)
   ·exact .inr (by have:=hj.1;have:=Vz.out;omega)⟩,SS.out vs rfl HV.out⟩,e3,aA.out.1⟩)
 clear hNS
 refine wpIn_wide.1 (oV rfl (enters_of Tryz.func121 (by kernel_rfl) rfl) (nI q (q+1) (q+1+1)) 1 0 (mZ l (oK M (nI q (q+1) (q+1+1)) W2)) (fun i=>i=l.changes.length+1) N8.out (fun i args i' W h=>nb h) (fun i hi=> .inl (Sh.out i hi).2)
  (fun i W=>i≤te∧KV l fr te many vs (oK M (nI q (q+1) (q+1+1)) W2) q (w.heap.size+1) (q+1) (q+1+1) (w.heap.size+1+1) w.heap.size (q+1+1+1) (.slice fa l.first.fields.length fc) (.slice ca l.changes.length cc) w i W)
  (fun c W=>c= .exit 0∧KV l fr te many vs (oK M (nI q (q+1) (q+1+1)) W2) q (w.heap.size+1) (q+1) (q+1+1) (w.heap.size+1+1) w.heap.size (q+1+1+1) (.slice fa l.first.fields.length fc) (.slice ca l.changes.length cc) w (te+1) W)
  (fun i A B h ho=>⟨h.1,h.2.only ho (fun j hj=>by have:=hj.1;exact⟨⟨by omega,by omega,by omega,by omega,by omega,by omega⟩,by omega,by omega⟩) (fun j hj=> .inr (.inr hj))⟩)
  (fun c A B h ho=>⟨h.1,h.2.only ho (fun j hj=>by have:=hj.1;exact⟨⟨by omega,by omega,by omega,by omega,by omega,by omega⟩,by omega,by omega⟩) (fun j hj=> .inr (.inr hj))⟩) ⟨Nat.zero_le _,T2.out⟩ ?hround ?hdone ?hstop)
 case hdone=>
  intro i W hE hI hD
  exfalso
  have:=hI.1
  omega
 case hround=>
  intro k i args i' W hI Ip cB
  obtain⟨rfl,hi,jc,rfl,aU⟩:=Ip
  obtain⟨hiv,jb⟩:=hI
  obtain⟨ya,yc,rfl,_⟩:=aU.open_
  have HI:=Lib.hid jb
  have eM:=Lib.hid aU
  clear jb aU
  gi_wp2_with(rw[Oper.semAt_eq _ _ _ (fun c h=>by cases h)];go_simp;try go_bits)
  refine⟨(ag.refl _ W).alloc _,fun W5 th IQ=> ?_⟩
  have nN:Hid (ag (fun j=>j=W2.heap.size+1) W W5):=(show ag _ _ _ from((ag.refl _ W).alloc _).trans th)
  have SU:Hid (KV l fr te many vs (oK M (nI q (q+1) (q+1+1)) W2) q (w.heap.size+1) (q+1) (q+1+1) (w.heap.size+1+1) w.heap.size (q+1+1+1) (.slice fa l.first.fields.length fc) (.slice ca l.changes.length cc) w i W5):=(show KV _ _ _ _ _ _ _ _ _ _ _ _ _ _ _ _ _ _ from HI.out.only nN.out (fun j hj=>by have:j=W2.heap.size+1:=hj;exact⟨⟨by omega,by omega,by omega,by omega,by omega,by omega⟩,by omega,by omega⟩) (fun j hj=> .inr (.inr (by have:j=W2.heap.size+1:=hj;exact⟨by omega,by omega⟩))))
  have RJ:Hid (ae (oK M (nI q (q+1) (q+1+1)) W2) W5 (.slice ya (aI l i).fields.length yc) (aI l i).fields):=(show ae _ _ _ _ from eM.out.ev ⟨nN.out.mono fun j hj=> .inr (.inr (by have:j=W2.heap.size+1:=hj;exact⟨by omega,by omega⟩)),fun j hj=> .inl hj⟩)
  have ZJ:=Lib.hid (th.at_ (heap_alloc_new W (cg l.first.name (.slice ya (aI l i).fields.length yc))) (by show¬W.heap.size=W2.heap.size+1;omega))
  have hz5:W2.heap.size+3≤W5.heap.size:=by rw[IQ];simp;omega
  have EN:Hid (Bd (oK M (nI q (q+1) (q+1+1)) W2) W5):=(show Bd _ _ from fun j hj=>by
   rcases hj with hj|hj|hj
   ·have:=kU.out j hj;omega
   ·have:=(Sh.out j hj).2;omega
   ·have:=hj.2;omega)
  have aS:=Lib.hid (wA.out _ i _ _ _ _ _ _ _ W5 hiv zX.out (fun j hj=> .inr (.inl hj)) (fun j hj=>(Sh.out j hj).1) EN.out SU.out.below RJ.out SU.out.st)
  obtain⟨p0,p1⟩:=af ZJ.out
  have s0:=one_cell SU.out.fn
  clear th
  gi_wp2_with(rw[Oper.semAt_eq _ _ _ (fun c h=>by cases h)];go_simp;try go_bits)
  refine⟨trivial,rfl,(CallsIn.inRound k (callsIn_wide.2 aS.out)).mono ?_⟩
  rintro e w6⟨rfl,bK,XC⟩
  have O1:=Lib.hid XC
  have XD:Hid (KV l fr te many vs (oK M (nI q (q+1) (q+1+1)) W2) q (w.heap.size+1) (q+1) (q+1+1) (w.heap.size+1+1) w.heap.size (q+1+1+1) (.slice fa l.first.fields.length fc) (.slice ca l.changes.length cc) w (i+1) w6):=(show KV _ _ _ _ _ _ _ _ _ _ _ _ _ _ _ _ _ _ from⟨bK,XC.at_ SU.out.fn (fun h=>by rcases h with h|h|h<;>omega),cA SU.out.below SU.out.below.size XC (fun j hj=>(Sh.out j hj).1)⟩)
  clear bK XC s0 p0 p1
  by_cases hle:i+1≤te
  ·gi_wp2_with(rw[Oper.semAt_eq _ _ _ (fun c h=>by cases h)];go_simp;try go_bits)
   exact⟨O1.out,hle,XD.out⟩
  ·obtain rfl:i=te:=by omega
   gi_wp2_with(rw[Oper.semAt_eq _ _ _ (fun c h=>by cases h)];go_simp;try go_bits)
   exact⟨O1.out,rfl,XD.out⟩
 case hstop=>
  intro c W hX hD
  obtain⟨rfl,jb⟩:=hX
  have HI:=Lib.hid jb
  have HD:=Lib.hid hD
  obtain⟨us,a,n,cap,h1,h2,h3⟩:=jb.st.gh
  have f0:=one_cell HI.out.st.gf
  have h0:=one_cell h1
  clear jb hD
  refine wpIn_wide.2 ?_
  dsimp only
  go_wp2_with fail
  obtain⟨W4,qA⟩:∃W4:World,W4=W.putObj W2.heap.size (.deferred none):=⟨_,rfl⟩
  have o4:ag (fun j=>j=W2.heap.size) W W4:=by rw[qA];exact(ag.refl (fun j=>j=W2.heap.size) W).putObj (.inl rfl) _
  refine⟨by simp, .inl ⟨_,_,rfl,run_takeDeferred HD.out,?_⟩⟩
  rw[←qA]
  rw[nd (.inr (Nat.le_refl _))]at h3
  refine⟨.tuple #[.slice a n cap, .int .i64 0],by simp[results,Tryz.results75,go_sem],_,rfl,⟨us,_,rfl,h3,(h2.ev ⟨o4.mono fun j hj=> .inr (.inr (by have:j=W2.heap.size:=hj;exact⟨by omega,by omega⟩)),fun j hj=> .inl hj⟩).ev (Ev.ee W4 fun j hj=> .inl hj)⟩,?_⟩
  exact cA HI.out.below HI.out.below.size o4 (fun j hj=>by have:j=W2.heap.size:=hj;have:=aA.out.1.size;omega)
theorem H9(ls:List aE)(h:dV ls)(k:Nat)(l:aE)(hk:ls[k]? =some l)(fr:Nat)(Mw:fr≤l.changes.length)(many:Int)(hm:many≤100000)(vs:List au)(hv:aW (aI l fr).fields many vs)(M:Nat→Prop)(w:World)(hM:Bd M w)(hG:Gd w)(sv vv:Value)(hs:ae M w sv ls)(dk:ae M w vv vs):
 Calls Tryz.prog 51 #[.agg #[sv], .int .i64 k, .int .i64 fr, .int .i64 l.changes.length,vv] w (aF w fun v w'=>∃us uv,v= .tuple #[uv, .int .i64 0]∧gM (aI l fr) (l.changes.drop fr) many vs us∧ae M w' uv us):=by
 have vo:=h.lines l (List.mem_of_getElem? hk)
 have hcut:dT l fr l.changes.length l.changes.length=l.changes.drop fr:=by
  unfold dT
  rw[Nat.min_self,List.take_of_length_le (by rw[List.length_drop];exact Nat.le_refl _)]
 have HC:Hid (∀W,Below w.heap.size w W→_):=(show∀W,_→_ from fun W hb=>uT ls h k l hk M W (hM.below hb) (hG.tb.below hb) sv (hs.below hb))
 have IV:Hid (∀W fv cv,Below w.heap.size w W→ae M W fv l.first.fields→ae M W cv l.changes→_):=(show∀W fv cv,_→_→_→_ from fun W fv cv hb h1 h2=>KW l vo fr l.changes.length Mw (Nat.le_refl _) many hm vs hv M W (hM.below hb) (hG.below hb) fv cv vv h1 h2 (dk.below hb))
 rw[hcut]at IV
 obtain⟨a,bu,rfl,cq,po,_⟩:=hs.open_
 obtain⟨va,vc,rfl,_⟩:=dk.open_
 have cQ:=hD (Bx.fA w (eW (.slice a ls.length bu)))
 have i0:(0:Int)≤(fr:Int):=Int.natCast_nonneg _
 have i1:(fr:Int)≤(l.changes.length:Int):=by omega
 clear hs h hk hM hG dk vo hcut hv
 go_enter Tryz.func51,Tryz.ntmps51
 go_wp2_with fail
 refine(HC.out _ cQ.out.1).mono ?_
 rintro e w1⟨⟨fa,fc,ca,cc,rfl,pj,gz⟩,aw⟩
 have aO:=hD (cQ.out.below aw)
 have YO:Hid (∀o,_):=(show∀o,_ from fun o=>IV.out (w1.alloc o) _ _ (aO.out.alloc o).1 (pj.below (aw.alloc aw.size o)) (gz.below (aw.alloc aw.size o)))
 clear aw pj gz
 go_wp2_with fail
 refine(YO.out _).mono ?_
 rintro e w2⟨_,rfl,⟨us,uv,rfl,yg,aU⟩,aM⟩
 obtain⟨ya,yc,rfl,_⟩:=aU.open_
 have aA:=hD ((aO.out.alloc _).below aM)
 have MI:=hD yg
 have eM:=hD aU
 clear aM yg aU
 go_wp2_with fail
 go_ret2
 exact⟨_,rfl,⟨us,_,rfl,MI.out,eM.out⟩,aA.out.1⟩
theorem xQ {ls:List aE}(h:dV ls){k:Nat}{l:aE}(hk:ls[k]? =some l):dV [l]:=by
 have hl:=h.lines l (List.mem_of_getElem? hk)
 refine⟨by simp,?_,?_⟩
 all_goals first
  |(intro x hx;rcases List.mem_singleton.1 hx with rfl;exact hl)
  |(intro i x hi;match i,hi with
     |0,hi=>simp at hi;subst hi;simp[dC,bD,idxOf]
     |i+1,hi=>simp at hi)
theorem Ia {ls:List aE}{k:Nat}{l:aE}(hk:ls[k]? =some l):(ls.drop k).take 1=[l]:=by
 rw[List.drop_eq_getElem?_toList_append,hk];simp
theorem KX(ls:List aE)(k:Nat)(l:aE)(hk:ls[k]? =some l)(h8:ls.length≤8)(M:Nat→Prop)(w:World)(sv:Value)(hs:ae M w sv ls):
 Calls Tryz.prog 52 #[.agg #[sv], .int .i64 k] w (aF w fun v w'=>∃u,v= .agg #[u]∧ae M w' u [l]):=by
 have aT:=(List.getElem?_eq_some_iff.1 hk).1
 obtain⟨a,bu,rfl,cq,po,_⟩:=hs.open_
 obtain⟨b,off,cap,fa,fc,ca,cc,hv,bZ,_,_,_,_⟩:=eE hs hk
 obtain⟨rfl,rfl⟩:a=some ⟨b,off,none⟩∧bu=cap:=by simpa using hv
 have s2:=(hs.from_ rfl (k:=k) (by omega)).upto (by simp) (k:=1) (by omega)
 rw[Ia hk,if_neg (by omega)]at s2
 have eB:Hid (ae M w (.slice (some ⟨b,off+k*3,none⟩) 1 (bu-k)) [l]):=(show ae _ _ _ _ by
  have e:(⟨b,off,none⟩:Addr).add (k*3)=⟨b,off+k*3,none⟩:=by
   unfold Addr.add
   by_cases hz:k=0
   ·subst hz;simp
   ·simp[show¬k*3=0 from by omega]
  simpa [e,show az.size aE=3 from rfl]using s2)
 have cQ:=hD (Bx.eO w (eW (.slice (some ⟨b,off,none⟩) ls.length bu)) (eW (.slice none 0 0)))
 have i6:IntKind.i64.wrap ((k:Int)+1)=(k:Int)+1:=IntWalk.i64_in _ (by omega)
 have i0:(0:Int)≤(k:Int):=Int.natCast_nonneg _
 have i1:(k:Int)+1≤(bu:Int):=by omega
 have i2:¬bu=k:=by omega
 have i3:(k:Int)≤(k:Int)+1:=by omega
 have i4:((k:Int)+1).toNat=k+1:=by omega
 have i5:k+1-k=1:=by omega
 have i7:k+1≤bu:=by omega
 have c0:=one_cell (cQ.out.bh rfl)
 have f0:=aa (cQ.out.bh rfl) 0
 have d0:=one_cell (cQ.out.bJ rfl)
 clear hs hv hk s2
 go_enter Tryz.func52,Tryz.ntmps52
 go_wp2_with fail
 refine bodyPost_ret (v:= .agg #[.slice (some ⟨b,off+k*3,none⟩) 1 (bu-k)]) (by simp[results,Tryz.results52,go_sem,c0]) rfl ⟨_,rfl,⟨_,rfl,?_⟩,?_⟩
 ·exact eB.out.below (Bx.eO w (eW _) (eW _)).1
 ·exact(Bx.eO w (eW _) (eW _)).1
theorem uV(ls:List aE)(h:dV ls)(k:Nat)(l:aE)(hk:ls[k]? =some l)(x:dz)(v:Nat)(many:Int)(hm:many≤100000)(hc:x.cls=k)(zY:x.ver=v)(Su:v≤l.changes.length)(hx:M4 many x)(hv:aW (aI l v).fields many x.cz)(M:Nat→Prop)(w:World)(hM:Bd M w)(hG:Gd w)(sv vv:Value)(hs:ae M w sv ls)(dk:ae M w vv x.cz):
 Calls Tryz.prog 31 #[.agg #[sv], .agg #[.int .i64 x.id, .int .i64 x.cls, .int .i64 x.ver,vv]] w (aF w fun r w'=>∃us uv,r= .tuple #[.agg #[.int .i64 x.id, .int .i64 x.cls, .int .i64 l.changes.length,uv], .int .i64 0]∧gM (aI l v) (l.changes.drop v) many x.cz us∧ae M w' uv us):=by
 have vo:=h.lines l (List.mem_of_getElem? hk)
 have h1:=xQ h hk
 have HL:Hid (∀W,Below w.heap.size w W→_):=(show∀W,_→_ from fun W hb=>KU ls h k l hk M W (hM.below hb) (hG.tb.below hb) sv (hs.below hb))
 have Ue:Hid (∀W,Below w.heap.size w W→_):=(show∀W,_→_ from fun W hb=>JN x many hm hx M W (hM.below hb) vv (dk.below hb) (hG.tb.below hb))
 have HA:Hid (∀W,Below w.heap.size w W→_):=(show∀W,_→_ from fun W hb=>KX ls k l hk (by have:=h.len;omega) (eP M w 3) W sv (hs.ev (dR hb)))
 have IV:Hid (∀W u,Below w.heap.size w W→w.heap.size+3≤W.heap.size→ae (eP M w 3) W u [l]→_):=(show∀W u,_→_→_→_ from fun W u hb h3 hu=>H9 [l] h1 0 l rfl v Su many hm x.cz hv (eP M w 3) W (dS hM h3) (hG.below hb) u vv hu (dk.ev (dR hb)))
 obtain⟨a,bu,rfl,cq,po,_⟩:=hs.open_
 obtain⟨va,vc,rfl,_⟩:=dk.open_
 obtain⟨xi,xc,xv,xs⟩:=x
 dsimp only at*
 subst hc
 subst zY
 have cQ:=hD (Bx.fB w (eW (.slice a ls.length bu)) (eh ⟨xi,(k:Int),(v:Int),xs⟩ (.slice va xs.length vc)) (eh ⟨0,0,0,[]⟩ (.slice none 0 0)))
 have i0:(0:Int)≤(v:Int):=Int.natCast_nonneg _
 have i1:(v:Int)≤(l.changes.length:Int):=by omega
 have c0:=one_cell (cQ.out.bJ rfl)
 obtain⟨o0,o1,o2,o3⟩:=ab (cQ.out.bh rfl)
 clear hs dk h h1 hk hM hG vo hx hv
 go_enter Tryz.func31,Tryz.ntmps31
 go_wp2_with fail
 refine(HL.out _ cQ.out.1).mono ?_
 rintro e w1⟨rfl,aw⟩
 have aO:=hD (cQ.out.below aw)
 clear aw c0 o0 o1 o2 o3
 have c0:=one_cell (aO.out.bJ rfl)
 obtain⟨o0,o1,o2,o3⟩:=ab (aO.out.bh rfl)
 go_wp2_with fail
 refine(Ue.out _ aO.out.1).mono ?_
 rintro e w2⟨rfl,aM⟩
 have aA:=hD (aO.out.below aM)
 clear aM c0 o0 o1 o2 o3
 have c0:=one_cell (aA.out.bJ rfl)
 obtain⟨o0,o1,o2,o3⟩:=ab (aA.out.bh rfl)
 go_upto_region 6 with fail
 have dm:Hid (∀W,Below w2.heap.size w2 W→W.cell? ⟨w.heap.size,0,none⟩=some (.slice a ls.length bu)∧W.cell? ⟨w.heap.size+1,1,none⟩=some (.int .i64 k)∧W.cell? ⟨w.heap.size+1,2,none⟩=some (.int .i64 v)∧W.cell? ⟨w.heap.size+1,3,none⟩=some (.slice va xs.length vc)):=(show∀W,_→_ from fun W hb=>by
  have h:=aA.out.below hb
  have h4:=ab (h.bh rfl)
  exact⟨one_cell (h.bJ rfl),h4.2.1,h4.2.2.1,h4.2.2.2⟩)
 have fI:Hid (Below w.heap.size w w2):=(show Below _ _ _ from aA.out.1)
 have HZ2:Hid (w.heap.size+3≤w2.heap.size):=(show _≤_ from aA.out.b8)
 have HJ:Hid (Below w2.heap.size w2 w2):=(show Below _ _ _ from Below.refl _ _)
 go_cut [8,7](fun s8 s7 wx=>s7= .int .i64 0∧Hid (Below w2.heap.size w2 wx)∧Hid (∃us,gM (aI l v) (l.changes.drop v) many xs us∧ae (eP M w 3) wx s8 us))
 case first=>
  go_region_held3(fun w'=>w'.cell? ⟨w.heap.size,0,none⟩=some (.slice a ls.length bu)∧w'.cell? ⟨w.heap.size+1,1,none⟩=some (.int .i64 k)∧w'.cell? ⟨w.heap.size+1,2,none⟩=some (.int .i64 v)∧w'.cell? ⟨w.heap.size+1,3,none⟩=some (.slice va xs.length vc))
   (first|with_reducible exact dm.out _ vC.out|with_reducible exact dm.out _ dn.out|with_reducible exact dm.out _ dn.out.drew|with_reducible exact dm.out _ HJ.out|with_reducible exact dm.out _ HJ.out.drew)
   (first
     |(go_at_call 52
       refine(HA.out _ (by first|with_reducible exact fI.out.drew|with_reducible exact fI.out)).mono ?_
       rintro e w3⟨_,rfl,⟨u,rfl,hu⟩,bP⟩
       obtain⟨a1,c1,rfl,_⟩:=hu.open_
       have HU:=hD hu
       have dn:Hid (Below w2.heap.size w2 w3):=(by first|with_reducible exact hD (Cy bP)|with_reducible exact hD bP)
       clear bP hu)
     |(go_at_call 51
       refine(IV.out _ _ (fI.out.trans (dn.out.mono fI.out.size)) (Nat.le_trans HZ2.out dn.out.size) HU.out).mono ?_
       rintro e w4⟨_,rfl,⟨us,uv,rfl,yg,aU⟩,eS⟩
       obtain⟨a2,c2,rfl,_⟩:=aU.open_
       have MI:=hD yg
       have eM:=hD aU
       have vC:Hid (Below w2.heap.size w2 w4):=(show Below _ _ _ from dn.out.trans (eS.mono dn.out.size))
       clear eS yg aU))
  all_goals(go_wp2_with fail;go_meet)
  all_goals exact⟨rfl,vC,hD ⟨_,MI.out,eM.out⟩⟩
 case rest=>
  obtain⟨rfl,Xz,xZ⟩:=hcut
  have nK:=hD (aA.out.below Xz.out)
  obtain⟨us,yg,aU⟩:=xZ.out
  obtain⟨a2,c2,rfl,_⟩:=aU.open_
  have MI:=hD yg
  have eM:=hD aU
  clear xZ yg aU c0 o0 o1 o2 o3
  have c0:=one_cell (nK.out.bJ rfl)
  obtain⟨o0,o1,o2,o3⟩:=ab (nK.out.bh rfl)
  obtain⟨r0,r1,r2,r3⟩:=ab (nK.out.df rfl)
  have f0:=aa (nK.out.df rfl) 0
  have f1:=aa (nK.out.df rfl) 1
  have f2:=aa (nK.out.df rfl) 2
  have f3:=aa (nK.out.df rfl) 3
  go_wp2_with fail
  refine bodyPost_ret (v:= .tuple #[.agg #[.int .i64 xi, .int .i64 k, .int .i64 l.changes.length, .slice a2 us.length c2], .int .i64 0]) (by simp[results,Tryz.results31,go_sem,r0,r1,r2,r3]) rfl ⟨_,rfl,⟨_,_,rfl,MI.out,?_⟩,?_⟩
  ·exact eM.out.ev (((((ff _).setCell (.inl (.inr ⟨by simp;omega,by simp⟩)) _).setCell (.inl (.inr ⟨by simp;omega,by simp⟩)) _).setCell (.inl (.inr ⟨by simp;omega,by simp⟩)) _).setCell (.inl (.inr ⟨by simp;omega,by simp⟩)) _)
  ·exact bG nK.out.1 (by omega)
abbrev Em(p:Int×Int):Value:= .agg #[.int .i64 p.1, .int .i64 p.2]
theorem zq(e:Bool)(x:Int×Int)(w:World):(Instr.checkKey e 10000 193 (Em x)).run Tryz.prog w= .ok () w:=by
 kernel_rfl
theorem Tv(x y:Int×Int)(w:World):(Op.equal 193 (Em x) (Em y)).run Tryz.prog w= .ok (decide (x=y)) w:=by
 obtain⟨a,b⟩:=x
 obtain⟨c,d⟩:=y
 have p0:∀(x y:Int)(w:World),(part 3 #[.int .i64 x, .int .i64 y] 0).run Tryz.prog w= .ok (.int .i64 x) w:=fun x y w=>by kernel_rfl
 have p1:∀(x y:Int)(w:World),(part 3 #[.int .i64 x, .int .i64 y] 1).run Tryz.prog w= .ok (.int .i64 y) w:=fun x y w=>by kernel_rfl
 have pe:∀(x y:Int)(w:World),(Op.equalIn 9999 3 (.int .i64 x) (.int .i64 y)).run Tryz.prog w= .ok (x==y) w:=fun x y w=>run_equalIn_int w 9998 _ _ _ x y Tryz.underlying3
 have h1:(Op.equal 193 (Em (a,b)) (Em (c,d))).run Tryz.prog w= .ok ((a==c)&&(b==d)) w:=by
  show(Op.equalIn (9999+1) 193 (.agg #[.int .i64 a, .int .i64 b]) (.agg #[.int .i64 c, .int .i64 d])).run Tryz.prog w=_
  rw[run_equalIn_struct w 9999 193 #[.int .i64 a, .int .i64 b] #[.int .i64 c, .int .i64 d] (by simp[Program.fieldsOf,Tryz.underlying193]) (by kernel_rfl)]
  simp only[Program.fieldsOf,Tryz.underlying193,Op.eqFields,Sem.run_bind,p0,p1,pe,Result.andThen_ok]
  by_cases h:a=c<;>by_cases h2:b=d<;>simp[h,h2,Op.eqFields,p0,p1,pe]
 have h2:((a==c)&&(b==d))=decide ((a,b)=(c,d)):=by rw[Bool.eq_iff_iff];simp
 rw[h1,h2]
theorem qp:uQ Em Tryz.prog 193:=Hw Em _ (fun _ _=>rfl) Tryz.underlying193 Tv
theorem row_one {M:Nat→Prop}{W:World}{g:Nat}{l:aE}{fv cv:Value}{t:TypeId}(hg:W.heap[g]? =some (.cells #[.string l.first.name,fv,cv] t (0,0)))(hM:¬M g)(h1:ae M W fv l.first.fields)(h2:ae M W cv l.changes)(hn:l.first.name.size≤maxLen):ae M W (.slice (some ⟨g,0,none⟩) 1 1) [l]:=by
 refine⟨[[.string l.first.name,fv,cv]],⟨rfl,some ⟨g,0,none⟩,1,rfl,Nat.le_refl _,by unfold maxLen;omega,fun _=>⟨g,0,rfl,hM,(Array.getElem?_eq_some_iff.1 hg).1,fun j u hu=> ?_⟩⟩,rfl,fun i cs x hc hx=> ?_⟩
 ·simp only[World.cell?,hg,Nat.zero_add]
  simpa using hu
 ·match i,hc,hx with
  |0,hc,hx=>cases hc;cases hx;exact⟨fv,cv,rfl,h1,h2,hn⟩
  |i+1,hc,hx=>simp at hx
def KY(s1 s2:Value):Value:= .agg #[.bool true,s1,s2]
def v7(b:Bool)(s1 s2:Value):Obj:= .cells #[.bool b,s1,s2] 164 (0,0)
def NC(c v:Int):Obj:= .cells #[.int .i64 c, .int .i64 v] 193 (0,0)
def KZ(sv:Value)(b:Nat):Obj:= .cells #[sv, .map (some b)] 162 (0,0)
structure oL(ls:List aE)(M:Nat→Prop)(p b:Nat)(sv:Value)(w:World):Prop where
 cell:w.heap[p]? =some (KZ sv b)
 lines:ae M w sv ls
 mp:∃es clk,bq Em w b es clk∧∀x val,bA es x=some val→∃(k v:Nat)(l:aE)(a1 a2:Option Addr)(n1 c1 n2 c2:Nat),x=((k:Int),(v:Int))∧ls[k]? =some l∧v≤l.changes.length∧val=KY (.slice a1 n1 c1) (.slice a2 n2 c2)∧ae M w (.slice a2 n2 c2) [dh l v]
theorem oL.ev {ls:List aE}{M M':Nat→Prop}{p b:Nat}{sv:Value}{w w':World}(h:oL ls M p b sv w)(hv:Ev M w M' w')(hp:w'.heap[p]? =w.heap[p]?)(hb:w'.heap[b]? =w.heap[b]?):oL ls M' p b sv w':=by
 obtain⟨h1,h2,es,clk,h3,h4⟩:=h
 refine⟨hp.trans h1,h2.ev hv,es,clk,(show w'.heap[b]? =_ from hb.trans h3),fun x val hx=> ?_⟩
 obtain⟨k,v,l,a1,a2,n1,c1,n2,c2,e1,e2,e3,e4,e6⟩:=h4 x val hx
 exact⟨k,v,l,a1,a2,n1,c1,n2,c2,e1,e2,e3,e4,e6.ev hv⟩
theorem NF(ls:List aE)(M:Nat→Prop)(w:World)(hM:Bd M w)(sv:Value)(hs:ae M w sv ls):
 Calls Tryz.prog 41 #[.agg #[sv]] w fun e w'=>∃p b,e= .returned (.pointer (some ⟨p,0,none⟩))∧w.heap.size≤p∧w.heap.size≤b∧p≠b∧p<w'.heap.size∧b<w'.heap.size∧(∀N:Nat→Prop,(∀i,N i→M i∨w.heap.size≤i)→oL ls N p b sv w')∧Below w.heap.size w w':=by
 obtain⟨a,bu,rfl,cq,po,_⟩:=hs.open_
 have HS:=hD hs
 have Cc:=fun w=>kN 160 w
 have c0:=one_cell ((Bx.fA w (eW (.slice a ls.length bu))).bJ rfl)
 clear hs
 go_enter Tryz.func41,Tryz.ntmps41
 go_wp2_with fail
 go_ret
 have hX:=Bx.fB w (eW (.slice a ls.length bu)) (.map #[] 0) (KZ (.slice a ls.length bu) (w.heap.size+1))
 refine⟨w.heap.size+1+1,w.heap.size+1,rfl,by omega,by omega,by omega,by simp,by simp,fun N hN=>⟨hX.df rfl,HS.out.ev ⟨ag.aj hX.1,hN⟩,[],0,hX.bh rfl,fun x val h=>by simp[bA]at h⟩,hX.1⟩
def En(M:Nat→Prop)(w:World)(T:Nat):Nat→Prop:=fun i=>M i∨(w.heap.size≤i∧i<T)
theorem K2 {M:Nat→Prop}{w W:World}{T:Nat}(hM:Bd M w)(hb:Below w.heap.size w W)(hT:T≤W.heap.size):Bd (En M w T) W:=fun i hi=>by
 rcases hi with hi|hi
 ·exact Nat.lt_of_lt_of_le (hM i hi) hb.size
 ·omega
theorem uW {M:Nat→Prop}{w W:World}(T:Nat)(hb:Below w.heap.size w W):Ev M w (En M w T) W:=⟨ag.aj hb,fun i hi=>by
 rcases hi with hi|hi
 ·exact .inl hi
 ·exact .inr hi.1⟩
theorem NG(ls:List aE)(h:dV ls)(k:Nat)(l:aE)(hk:ls[k]? =some l)(v:Nat)(hv:v≤l.changes.length)(M:Nat→Prop)(w:World)(hM:Bd M w)(hG:Gd w)(p b:Nat)(Cr:p≠b)(xW:M b)(sv:Value)(hB:oL ls M p b sv w):
 Calls Tryz.prog 68 #[.pointer (some ⟨p,0,none⟩), .int .i64 k, .int .i64 v] w fun e w'=>(∃a1 n1 c1 s2,e= .returned (KY (.slice a1 n1 c1) s2)∧ae M w' s2 [dh l v])∧oL ls M p b sv w'∧ag (fun i=>i=b) w w':=by
 have lR:=hD hB
 obtain⟨aC,hs,es,clk,Iw,Ow⟩:=hB
 have hp:=(Array.getElem?_eq_some_iff.1 aC).1
 have XE:=hD (hM b xW)
 have kU:=hD hM
 have Zj:=hD hp
 have dm:Hid (∀W,Below w.heap.size w W→W.heap[p]? =some (KZ sv b)∧bq Em W b es clk):=(show∀W,_→_ from fun W hb=>⟨(hb.block _ hp).trans aC,(hb.block _ (hM b xW)).trans Iw⟩)
 have HES:=hD Ow
 have HS:=hD hs
 have Iu:∀W val,Below w.heap.size w W→bA es ((k:Int),(v:Int))=some val→(Instr.lookup 160 (.map (some b)) (.agg #[.int .i64 k, .int .i64 v]) true).run Tryz.prog W= .ok (.tuple #[val, .bool true]) W:=fun W val hb hx=>bq.OP Em Tryz.underlying160 qp zq (dm.out W hb).2 ((k:Int),(v:Int)) val hx
 have hz:∀W,(zeroValue 164).run Tryz.prog W= .ok (.agg #[.bool false, .slice none 0 0, .slice none 0 0]) W:=fun W=>by kernel_rfl
 have wD:∀W,Below w.heap.size w W→bA es ((k:Int),(v:Int))=none→(Instr.lookup 160 (.map (some b)) (.agg #[.int .i64 k, .int .i64 v]) true).run Tryz.prog W= .ok (.tuple #[.agg #[.bool false, .slice none 0 0, .slice none 0 0], .bool false]) W:=fun W hb hx=>bq.Tt Em Tryz.underlying160 qp zq (dm.out W hb).2 ((k:Int),(v:Int)) _ (hz W) hx
 obtain⟨ob,Ox,Oy,Oz,SV,SW,SX,nQ,XF,VC⟩:∃(ob:Bool)(Ox:Option Addr)(Oy Oz:Nat)(SV:Option Addr)(SW SX:Nat),(∀W,Below w.heap.size w W→(Instr.lookup 160 (.map (some b)) (.agg #[.int .i64 k, .int .i64 v]) true).run Tryz.prog W= .ok (.tuple #[.agg #[.bool ob, .slice Ox Oy Oz, .slice SV SW SX], .bool ob]) W)∧(ob=true→ae M w (.slice SV SW SX) [dh l v])∧(ob=false→bA es ((k:Int),(v:Int))=none):=by
  cases hq:bA es ((k:Int),(v:Int))with
  |none=>exact⟨false,none,0,0,none,0,0,fun W hb=>wD W hb hq,by simp,by simp⟩
  |some val=>
   obtain⟨k',v',l',a1,a2,n1,c1,n2,c2,e1,e2,e3,e4,e6⟩:=Ow _ _ hq
   rw[Prod.mk.injEq,Int.natCast_inj,Int.natCast_inj]at e1
   obtain⟨rfl,rfl⟩:=e1
   obtain rfl:l=l':=by rw[hk]at e2;exact Option.some.inj e2
   subst e4
   exact⟨true,a1,n1,c1,a2,n2,c2,fun W hb=>Iu W _ hb hq,fun _=>e6,by simp⟩
 obtain⟨lb,off,Qx,fa,fc,ca,cc,Ut,YZ,pj,gz,mf,ao⟩:=eE hs hk
 have oO:=hD pj
 have wA:=hD gz
 have su:=hD mf
 have vj:=hD ao
 have Lv:=hD (gz.from_ rfl (k:=v) hv)
 have WS:Hid (du l):=(show du l from h.lines l (List.mem_of_getElem? hk))
 have vF:Hid (∀T W u,Below w.heap.size w W→T≤W.heap.size→w.heap.size≤T→ae (En M w T) W u [l]→_):=(show∀T W u,_→_→_→_→_ from fun T W u hb h2 h3 hu=>Qi [l] (xQ h hk) 0 l rfl v hv (En M w T) W (K2 hM hb h2) (hG.tb.below hb) u hu)
 have zW:=hD nQ
 have HOB:=hD XF
 have RL:=hD VC
 obtain⟨a,bu,rfl,cq,po,_⟩:=hs.open_
 obtain⟨rfl,rfl⟩:a=some ⟨lb,off,none⟩∧bu=Qx:=by simpa using Ut
 have tm:=(List.getElem?_eq_some_iff.1 hk).1
 have i0:(0:Int)≤(k:Int):=Int.natCast_nonneg _
 have i1:(k:Int)<(ls.length:Int):=by omega
 clear Ut pj gz ao mf
 have cQ:=hD (Bx.eO w (v7 false (.slice none 0 0) (.slice none 0 0)) (NC k v))
 clear Iu wD Ow hs aC Iw nQ XF VC
 go_enter Tryz.func68,Tryz.ntmps68
 go_upto_region 2 with fail
 obtain⟨W,hW⟩:∃W:World,W=(w.alloc (v7 false (.slice none 0 0) (.slice none 0 0))).alloc (NC k v):=⟨_,rfl⟩
 have aA:Hid (Bx w [v7 false (.slice none 0 0) (.slice none 0 0),NC k v] W):=(show Bx _ _ _ by rw[hW];exact cQ.out)
 unfold v7 NC at hW
 rw[←hW]
 clear hW
 have IQ:=aA.out.b8
 have c1:=(af (dm.out W aA.out.1).1).2
 have c1':=fun o=>(af (dm.out (W.alloc o) (aA.out.alloc o).1).1).2
 obtain⟨d0,d1⟩:=af (aA.out.bh rfl)
 have d0':=fun o=>(af ((aA.out.alloc o).bh rfl)).1
 have d1':=fun o=>(af ((aA.out.alloc o).bh rfl)).2
 have l0:=zW.out W aA.out.1
 have l0':=fun o=>zW.out (W.alloc o) (aA.out.alloc o).1
 have l1:=zW.out W.drew aA.out.1.drew
 have l1':=fun o=>zW.out (W.alloc o).drew (aA.out.alloc o).1.drew
 have l2':=fun o=>zW.out (W.drew.alloc o) (aA.out.1.drew.alloc (Nat.le_trans aA.out.1.size (Nat.le_refl _)) o)
 go_cut [8,9](fun s8 s9 wx=>s8= .pointer (some ⟨W.heap.size,0,none⟩)∧s9= .bool ob∧Hid (Below W.heap.size W wx∧wx.heap[W.heap.size]? =some (v7 ob (.slice Ox Oy Oz) (.slice SV SW SX))))
 case first=>
  go_region_law fail
  all_goals(go_wp2_with fail;go_meet)
  all_goals refine⟨rfl,rfl,hD ⟨?_,?_⟩⟩
  all_goals first
   |exact((Below.refl _ W).alloc (Nat.le_refl _) _).drew
   |exact(Below.refl _ W).drew.alloc (Nat.le_refl _) _
   |exact heap_alloc_new W _
 case rest=>
  obtain⟨rfl,rfl,HX⟩:=hcut
  clear c1 c1' d0 d1 d0' d1' l0 l0' l1 l1' l2'
  have bO:=hD (aA.out.below HX.out.1)
  obtain⟨x0,x1,x2⟩:=ay HX.out.2
  obtain⟨r0,r1,r2⟩:=ay (bO.out.bJ rfl)
  have f0:=aa (bO.out.bJ rfl) 0
  have f1:=aa (bO.out.bJ rfl) 1
  have f2:=aa (bO.out.bJ rfl) 2
  cases ob
  rotate_left
  ·go_wp2_with fail
   refine bodyPost_ret (v:=KY (.slice Ox Oy Oz) (.slice SV SW SX)) (by simp[results,Tryz.results68,go_sem,r0,r1,r2,KY]) rfl ?_
   have hb:=lM (a0:= .bool true) (a1:= .slice Ox Oy Oz) (a2:= .slice SV SW SX) bO.out.1 (Nat.le_refl w.heap.size)
   exact⟨⟨_,_,_,_,rfl,(HOB.out (by first|trivial|rfl)).below hb⟩,lR.out.ev (Ev.aj hb) (hb.block _ Zj.out) (hb.block _ XE.out),ag.aj hb⟩
  ·clear x0 x1 x2 r0 r1 r2 f0 f1 f2
   go_upto_region 6 with fail
   obtain⟨W4,qA⟩:∃W4:World,W4=wc.alloc (v7 false (.slice none 0 0) (.slice none 0 0)):=⟨_,rfl⟩
   have fJ:Hid (Bx w [v7 false (.slice none 0 0) (.slice none 0 0),NC k v] W4):=(show Bx _ _ _ by rw[qA];exact bO.out.alloc _)
   have HV4:Hid (W4.heap[wc.heap.size]? =some (v7 false (.slice none 0 0) (.slice none 0 0))):=(show _=_ by rw[qA];exact heap_alloc_new wc _)
   have XG:W4.heap.size=wc.heap.size+1:=by rw[qA];simp
   have vb:w.heap.size+2≤wc.heap.size:=bO.out.b8
   unfold v7 at qA
   rw[←qA]
   clear qA HX
   generalize wc.heap.size=V at*
   have c0:=(af (dm.out W4 fJ.out.1).1).1
   obtain⟨q0,q1,q2⟩:=vj.out W4 fJ.out.1
   have q0':=fun o=>(vj.out (W4.alloc o) (fJ.out.alloc o).1).1
   have q1':=fun o=>(vj.out (W4.alloc o) (fJ.out.alloc o).1).2.1
   have q2':=fun o=>(vj.out (W4.alloc o) (fJ.out.alloc o).1).2.2
   have c0':=fun o=>(af (dm.out (W4.alloc o) (fJ.out.alloc o).1).1).1
   go_upto_region 8 with fail
   clear q0' q1' q2' c0' q0 q1 q2 c0
   obtain⟨W7,vD⟩:∃W7:World,W7=W4.alloc (bY l.first.name (.slice fa l.first.fields.length fc) (.slice ca l.changes.length cc)):=⟨_,rfl⟩
   have oe:Hid (Bx w [v7 false (.slice none 0 0) (.slice none 0 0),NC k v] W7):=(show Bx _ _ _ by rw[vD];exact fJ.out.alloc _)
   have Vv:Hid (W7.heap[V]? =some (v7 false (.slice none 0 0) (.slice none 0 0))):=(show _=_ by rw[vD];exact(((Below.refl _ W4).alloc (Nat.le_refl _) _).block V (by omega)).trans HV4.out)
   have HL7:Hid (W7.heap[V+1]? =some (bY l.first.name (.slice fa l.first.fields.length fc) (.slice ca l.changes.length cc))):=(show _=_ by rw[vD,←XG];exact heap_alloc_new W4 _)
   have XH:W7.heap.size=V+2:=by rw[vD];simp[XG]
   unfold bY at vD
   rw[←vD]
   clear vD
   obtain⟨y0,y1,y2⟩:=ay HL7.out
   have NN:Hid (∀t,ae (En M w (V+2)) (W7.alloc (.cells #[.string l.first.name, .slice fa l.first.fields.length fc, .slice ca l.changes.length cc] t)) (.slice (some ⟨V+2,0,none⟩) 1 1) [l]):=(show∀t,_ from fun t=>by
    have hb:Below w.heap.size w (W7.alloc (.cells #[.string l.first.name, .slice fa l.first.fields.length fc, .slice ca l.changes.length cc] t)):=(oe.out.alloc _).1
    refine row_one (t:=t) (by rw[←XH];exact heap_alloc_new W7 _) (fun h=> ?_) (oO.out.ev (uW _ hb)) (wA.out.ev (uW _ hb)) su.out
    rcases h with h|h
    ·have:=kU.out _ h;omega
    ·omega)
   have Xt:Hid (∀o,ae (En M w (V+2)) (W7.alloc o) (.slice (some ⟨V+2,0,none⟩) 1 1) [l]→_):=(show∀o,_→_ from fun o hu=>vF.out (V+2) (W7.alloc o) _ (oe.out.alloc o).1 (by simp[XH]) (by omega) hu)
   go_wp2_with fail
   refine(Xt.out _ (NN.out _)).mono ?_
   rintro e w8⟨_,rfl,⟨fv,rfl,aU⟩,Rl⟩
   obtain⟨ga,gc,rfl,_⟩:=aU.open_
   have OA:Below W7.heap.size W7 w8:=((Below.refl _ W7).alloc (Nat.le_refl _) _).trans (Rl.mono (by simp))
   have UZ:=hD (oe.out.below (OA.mono (Nat.le_refl _)))
   have XI:=hD ((OA.block V (by omega)).trans Vv.out)
   have U0:=hD ((OA.block (V+1) (by omega)).trans HL7.out)
   have IC:=hD aU
   have hz8:V+3≤w8.heap.size:=by have:=Rl.size;simp[XH]at this;omega
   clear Rl aU OA y0 y1 y2
   have v0:=fun o=>aa ((((Below.refl _ w8).alloc (Nat.le_refl _) o).block V (by omega)).trans XI.out) 0
   have v1:=fun o=>aa ((((Below.refl _ w8).alloc (Nat.le_refl _) o).block V (by omega)).trans XI.out) 1
   have v2:=fun o=>ay ((((Below.refl _ w8).alloc (Nat.le_refl _) o).block V (by omega)).trans XI.out)
   have hVl:V<w8.heap.size:=by omega
   have qdd:V+1<w8.heap.size:=by omega
   go_upto_region 11 with fail
   clear v0 v1 v2
   obtain⟨zZ,E0⟩:∃zZ:World,zZ=(w8.setCell ⟨V,0,none⟩ (.bool true)).alloc (cg l.first.name (.slice ga (aI l v).fields.length gc)):=⟨_,rfl⟩
   have XJ:ag (fun i=>i=V) w8 zZ:=by rw[E0];exact((ag.refl (fun i=>i=V) w8).setCell (.inl rfl) _).alloc _
   have qaj:zZ.heap.size=w8.heap.size+1:=by rw[E0];simp
   have wG:Hid (Bx w [v7 false (.slice none 0 0) (.slice none 0 0),NC k v] zZ):=(show Bx _ _ _ from UZ.out.only XJ (by rintro i rfl;simp;omega))
   have OB:Hid (zZ.heap[V]? =some (v7 true (.slice none 0 0) (.slice none 0 0))):=(show _=_ by rw[E0];exact(((Below.refl _ (w8.setCell ⟨V,0,none⟩ (.bool true))).alloc (Nat.le_refl _) _).block V (by simp;omega)).trans (heap_setCell_same w8 V 0 _ _ _ XI.out))
   have qak:Hid (zZ.heap[V+1]? =some (bY l.first.name (.slice fa l.first.fields.length fc) (.slice ca l.changes.length cc))):=(show _=_ from XJ.at_ U0.out (by omega))
   have Ou:Hid (zZ.heap[w8.heap.size]? =some (cg l.first.name (.slice ga (aI l v).fields.length gc))):=(show _=_ by
    rw[E0]
    have:=heap_alloc_new (w8.setCell ⟨V,0,none⟩ (.bool true)) (cg l.first.name (.slice ga (aI l v).fields.length gc))
    simpa using this)
   have L5:Hid (ae (En M w (V+2)) zZ (.slice ga (aI l v).fields.length gc) (aI l v).fields):=(show ae _ _ _ _ from IC.out.ev ⟨XJ.mono (fun i hi=> .inr ⟨by omega,by omega⟩),fun j hj=> .inl hj⟩)
   unfold cg at E0
   rw[←E0]
   clear E0 XJ
   generalize w8.heap.size=C at*
   obtain⟨y0,y1⟩:=af Ou.out
   have v0:=fun o=>aa ((((Below.refl _ zZ).alloc (Nat.le_refl _) o).block V (by omega)).trans OB.out) 0
   have v1:=fun o=>aa ((((Below.refl _ zZ).alloc (Nat.le_refl _) o).block V (by omega)).trans OB.out) 1
   have v2:=fun o=>ay ((((Below.refl _ zZ).alloc (Nat.le_refl _) o).block V (by omega)).trans OB.out)
   have qde:V<zZ.heap.size:=by omega
   go_upto_region 12 with fail
   clear v0 v1 v2 y0 y1
   obtain⟨wI,L6⟩:∃wI:World,wI=(zZ.setCell ⟨V,1,none⟩ (.slice (some ⟨C+1,0,none⟩) 1 1)).alloc (.cells #[.string l.first.name, .slice ga (aI l v).fields.length gc, .slice none 0 0] 94):=⟨_,rfl⟩
   have L7:ag (fun i=>i=V) zZ wI:=by rw[L6];exact((ag.refl (fun i=>i=V) zZ).setCell (.inl rfl) _).alloc _
   have VD:wI.heap.size=C+2:=by rw[L6];simp[qaj]
   have LX:Hid (Bx w [v7 false (.slice none 0 0) (.slice none 0 0),NC k v] wI):=(show Bx _ _ _ from wG.out.only L7 (by rintro i rfl;simp;omega))
   have RM:Hid (wI.heap[V]? =some (v7 true (.slice (some ⟨C+1,0,none⟩) 1 1) (.slice none 0 0))):=(show _=_ by rw[L6];exact(((Below.refl _ (zZ.setCell ⟨V,1,none⟩ (.slice (some ⟨C+1,0,none⟩) 1 1))).alloc (Nat.le_refl _) _).block V (by simp;omega)).trans (heap_setCell_same zZ V 1 _ _ _ OB.out))
   have VE:Hid (wI.heap[V+1]? =some (bY l.first.name (.slice fa l.first.fields.length fc) (.slice ca l.changes.length cc))):=(show _=_ from L7.at_ qak.out (by omega))
   have RN:Hid (wI.heap[C]? =some (cg l.first.name (.slice ga (aI l v).fields.length gc))):=(show _=_ from L7.at_ Ou.out (by omega))
   have L8:Hid (ae (En M w (V+2)) wI (.slice ga (aI l v).fields.length gc) (aI l v).fields):=(show ae _ _ _ _ from L5.out.ev ⟨L7.mono (fun i hi=> .inr ⟨by omega,by omega⟩),fun j hj=> .inl hj⟩)
   rw[←L6]
   clear L6 L7
   have qdf:V<wI.heap.size:=by omega
   obtain⟨y0,y1⟩:=af RN.out
   have y0':=fun o=>(af ((((Below.refl _ wI).alloc (Nat.le_refl _) o).block C (by omega)).trans RN.out)).1
   have y1':=fun o=>(af ((((Below.refl _ wI).alloc (Nat.le_refl _) o).block C (by omega)).trans RN.out)).2
   have z2:=(ay VE.out).2.2
   have z2':=fun o=>(ay ((((Below.refl _ wI).alloc (Nat.le_refl _) o).block (V+1) (by omega)).trans VE.out)).2.2
   have v0:=fun o=>aa ((((Below.refl _ wI).alloc (Nat.le_refl _) o).block V (by omega)).trans RM.out) 2
   have v2:=fun o=>ay ((((Below.refl _ wI).alloc (Nat.le_refl _) o).block V (by omega)).trans RM.out)
   obtain⟨_,_,ecc,EK,hmc,_⟩:=wA.out.open_
   cases ecc
   have j0:(0:Int)≤(v:Int):=Int.natCast_nonneg _
   have j1:(v:Int)≤(l.changes.length:Int):=by omega
   have j2:v≤cc:=by omega
   go_cut [](fun wx=>∃ap cp,Hid (ae M w (.slice ap (l.changes.length-v) cp) (l.changes.drop v))∧wx=((wI.alloc (.cells #[.string l.first.name, .slice ga (aI l v).fields.length gc, .slice ap (l.changes.length-v) cp] 94)).setCell ⟨V,2,none⟩ (.slice (some ⟨C+2,0,none⟩) 1 1)).drew)
   case first=>
    go_region_law fail
    all_goals go_wp2_with fail
    all_goals go_meet
    all_goals
     have kX:=Lv.out
     rw[show az.size aq=8 from rfl]at kX
     by_cases rH:cc=v
     ·rw[if_pos rH,show cc-v=0 from by omega]at kX
      first
       |exact⟨_,_,hD kX,rfl⟩
       |(exfalso;omega)
       |(exfalso;simp_all;done)
     ·rw[if_neg rH]at kX
      first
       |exact⟨_,_,hD kX,rfl⟩
       |(exfalso;omega)
       |(exfalso;simp_all;done)
   case rest=>
    obtain⟨ap,cp,Sd,Cj⟩:=hcut
    clear v0 v2 y0 y1 y0' y1' z2 z2'
    have hX:ag (fun i=>i=V) wI wc:=by rw[Cj];exact(((ag.refl (fun i=>i=V) wI).alloc _).setCell (.inl rfl) _).drewN 1
    have qdg:wc.heap.size=C+3:=by rw[Cj];show((wI.alloc _).setCell _ _).heap.size=_;simp[VD]
    have E1:Hid (Bx w [v7 false (.slice none 0 0) (.slice none 0 0),NC k v] wc):=(show Bx _ _ _ from LX.out.only hX (by rintro i rfl;simp;omega))
    have RO:Hid (wc.heap[V]? =some (v7 true (.slice (some ⟨C+1,0,none⟩) 1 1) (.slice (some ⟨C+2,0,none⟩) 1 1))):=(show _=_ by
     rw[Cj]
     exact heap_setCell_same _ V 2 _ _ _ ((((Below.refl _ wI).alloc (Nat.le_refl _) _).block V (by omega)).trans RM.out))
    have qal:Hid (wc.heap[C+2]? =some (.cells #[.string l.first.name, .slice ga (aI l v).fields.length gc, .slice ap (l.changes.length-v) cp] 94 (0,0))):=(show _=_ by
     rw[Cj,←VD]
     exact(heap_setCell_other _ _ _ _ (by simp;omega)).trans (heap_alloc_new wI _))
    have qam:Hid (ae (En M w (V+2)) wc (.slice ga (aI l v).fields.length gc) (aI l v).fields):=(show ae _ _ _ _ from L8.out.ev ⟨hX.mono (fun i hi=> .inr ⟨by omega,by omega⟩),fun j hj=> .inl hj⟩)
    have VF:Hid (ae (En M w (V+2)) wc (.slice (some ⟨C+2,0,none⟩) 1 1) [dh l v]):=(show ae _ _ _ _ from row_one (l:=dh l v) (t:=94) (by show wc.heap[C+2]? =some (.cells #[.string (aI l v).name,_,_] _ _);rw[WS.out.name v];exact qal.out) (fun h=>by
     rcases h with h|h
     ·have:=kU.out _ h;omega
     ·omega) qam.out (by
     exact Sd.out.ev (uW _ E1.out.1)) (by show(aI l v).name.size≤_;rw[WS.out.name v];exact su.out))
    have hMP:bq Em wc b es clk:=(dm.out wc E1.out.1).2
    obtain⟨wa,ea,ma,oa⟩:=bq.Qb Em Tryz.underlying160 qp zq hMP ((k:Int),(v:Int)) (KY (.slice (some ⟨C+1,0,none⟩) 1 1) (.slice (some ⟨C+2,0,none⟩) 1 1)) (RL.out (by first|trivial|rfl))
    obtain⟨wb,eb,mb,ob⟩:=bq.Qb (w:=wc.drew) Em Tryz.underlying160 qp zq hMP ((k:Int),(v:Int)) (KY (.slice (some ⟨C+1,0,none⟩) 1 1) (.slice (some ⟨C+2,0,none⟩) 1 1)) (RL.out (by first|trivial|rfl))
    have HMA:=hD (And.intro ma oa)
    have IS:=hD (And.intro mb (((ag.refl (fun i=>i=b) wc).drewN 1).trans ob))
    unfold KY at ea eb
    clear Cj hX hMP ma mb oa ob
    have g1:=(af (dm.out wc E1.out.1).1).2
    obtain⟨d0,d1⟩:=af (E1.out.bh rfl)
    obtain⟨v0,v1,v2⟩:=ay RO.out
    obtain⟨wr,hwr⟩:∃wr:World,wr=wc:=⟨_,rfl⟩
    rw[←hwr]at HMA IS E1 RO VF
    have O7:=hD hwr
    clear hwr
    go_upto_region 13 with fail
    go_cut [](fun wx=>Hid (bq Em wx b (es++[(((k:Int),(v:Int)),KY (.slice (some ⟨C+1,0,none⟩) 1 1) (.slice (some ⟨C+2,0,none⟩) 1 1),clk)]) (clk+1)∧ag (fun i=>i=b) wr wx))
    case first=>
     go_region_law fail
     all_goals go_wp2_with fail
     all_goals go_meet
     all_goals first|exact IS|exact HMA|trace_state
    case rest=>
     obtain⟨mp,ho⟩:=hcut.out
     clear v0 v1 v2 d0 d1 g1 ea eb
     have hMB:=XE.out
     have mw:Below w.heap.size w wr:=E1.out.1
     have hO:ag (fun i=>i=b) w wc:=(ag.aj mw).trans ho
     obtain⟨v0,v1,v2⟩:=ay (ho.at_ RO.out (by omega))
     have h0:=ho.at_ (E1.out.bJ rfl) (by omega)
     obtain⟨r0,r1,r2⟩:=ay h0
     have f0:=aa h0 0
     have f1:=aa h0 1
     have f2:=aa h0 2
     have HMP:=hD mp
     have HO:=hD hO
     have Zs:=hD ho
     clear mp hO ho hcut h0
     go_wp2_with fail
     have oz:ag (fun i=>i=w.heap.size) wc (((wc.setCell ⟨w.heap.size,0,none⟩ (.bool true)).setCell ⟨w.heap.size,1,none⟩ (.slice (some ⟨C+1,0,none⟩) 1 1)).setCell ⟨w.heap.size,2,none⟩ (.slice (some ⟨C+2,0,none⟩) 1 1)):=(((ag.refl (fun i=>i=w.heap.size) wc).setCell (.inl rfl) _).setCell (.inl rfl) _).setCell (.inl rfl) _
     have XK:ag (fun i=>i=b) w (((wc.setCell ⟨w.heap.size,0,none⟩ (.bool true)).setCell ⟨w.heap.size,1,none⟩ (.slice (some ⟨C+1,0,none⟩) 1 1)).setCell ⟨w.heap.size,2,none⟩ (.slice (some ⟨C+2,0,none⟩) 1 1)):=((HO.out.setCell (.inr (Nat.le_refl _)) _).setCell (.inr (Nat.le_refl _)) _).setCell (.inr (Nat.le_refl _)) _
     have hbM:=xW
     have OC:=(VF.out.ev ⟨(Zs.out.mono (T:=En M w (V+2)) (fun i hi=> .inl (by subst hi;exact hbM))).trans (oz.mono (fun i hi=> .inr (by omega))),fun i hi=> .inl hi⟩).ev (Ev.ee (N:=M) _ fun i hi=> .inl hi)
     refine bodyPost_ret (v:=KY (.slice (some ⟨C+1,0,none⟩) 1 1) (.slice (some ⟨C+2,0,none⟩) 1 1)) (by simp[results,Tryz.results68,go_sem,r0,r1,r2,KY]) rfl ⟨⟨_,_,_,_,rfl,OC⟩,?_,XK⟩
     refine⟨XK.at_ lR.out.cell Cr,lR.out.lines.ev ⟨XK.mono (fun i hi=>by subst hi;exact hbM),fun i hi=> .inl hi⟩,_,_,oz.at_ HMP.out (by omega),fun x val hx=> ?_⟩
     rw[xK _ (RL.out (by first|trivial|rfl))]at hx
     by_cases Ul:x=((k:Int),(v:Int))
     ·rw[if_pos Ul]at hx
      cases hx
      exact⟨k,v,l,_,_,_,_,_,_,Ul,hk,hv,rfl,OC⟩
     ·rw[if_neg Ul]at hx
      obtain⟨k',v',l',a1,a2,n1,c1,n2,c2,e1,e2,e3,e4,e6⟩:=HES.out _ _ hx
      exact⟨k',v',l',a1,a2,n1,c1,n2,c2,e1,e2,e3,e4,e6.ev ⟨XK.mono (fun i hi=>by subst hi;exact hbM),fun i hi=> .inl hi⟩⟩
theorem K3 {l:aE}(hl:du l):dV [l]:=by
 refine⟨by simp,?_,?_⟩
 ·intro x hx;rcases List.mem_singleton.1 hx with rfl;exact hl
 ·intro i x hi;match i,hi with
  |0,hi=>simp at hi;subst hi;simp[dC,bD,idxOf]
  |i+1,hi=>simp at hi
theorem Eo(ls:List aE)(h:dV ls)(k:Nat)(l:aE)(hk:ls[k]? =some l)(x:dz)(v:Nat)(many:Int)(hm:many≤100000)(hc:x.cls=k)(zY:x.ver=v)(Su:v≤l.changes.length)(hx:M4 many x)(hv:aW (aI l v).fields many x.cz)(M:Nat→Prop)(w0 w:World)(hM:Bd M w)(hG:Gd w0)(mw:Below w0.heap.size w0 w)(p b:Nat)(Cr:p≠b)(xW:M b)(hb:w0.heap.size≤b)(sv vv:Value)(hB:oL ls M p b sv w)(dk:ae M w vv x.cz):
 Calls Tryz.prog 42 #[.pointer (some ⟨p,0,none⟩), .agg #[.int .i64 x.id, .int .i64 x.cls, .int .i64 x.ver,vv]] w fun e w'=>(∃us uv,e= .returned (.tuple #[.agg #[.int .i64 x.id, .int .i64 k, .int .i64 l.changes.length,uv], .bool true])∧gM (aI l v) (l.changes.drop v) many x.cz us∧ae M w' uv us)∧oL ls M p b sv w'∧ag (fun i=>i=b) w w':=by
 have vo:=h.lines l (List.mem_of_getElem? hk)
 have kX:=vo.from_ v
 have HVW:Hid (∀W,Below w.heap.size w W→w.heap.size+2≤W.heap.size→_):=(show∀W,_→_→_ from fun W aw h2=>NG ls h k l hk v Su (eP M w 2) W (dS hM h2) ((hG.below mw).below aw) p b Cr (.inl xW) sv (hB.ev (dR aw) (aw.block _ (Array.getElem?_eq_some_iff.1 hB.cell).1) (aw.block _ (hM b xW))))
 have Og:Hid (∀W u,Below w0.heap.size w0 W→w.heap.size+2≤W.heap.size→ae (eP M w 2) W u [dh l v]→ae (eP M w 2) W vv x.cz→Calls Tryz.prog 31 #[.agg #[u], .agg #[.int .i64 x.id, .int .i64 0, .int .i64 0,vv]] W (aF W fun r w'=>∃us uv,r= .tuple #[.agg #[.int .i64 x.id, .int .i64 0, .int .i64 ((l.changes.length-v:Nat):Int),uv], .int .i64 0]∧gM (aI l v) (l.changes.drop v) many x.cz us∧ae (eP M w 2) w' uv us)):=(show∀W u,_→_→_→_→_ from fun W u h1 h2 h3 h4=>by
  have hh:=uV [dh l v] (K3 kX) 0 (dh l v) rfl ⟨x.id,0,0,x.cz⟩ 0 many hm rfl rfl (Nat.zero_le _) ⟨hx.id1,hx.id2,Int.le_refl _,by show(0:Int)<8;omega,Int.le_refl _,by show(0:Int)≤12;omega,hx.cz,hx.len⟩ (by rw[mM];exact hv) (eP M w 2) W (dS hM h2) (hG.below h1) u vv h3 h4
  rw[mM,show v+0=v from rfl,show(dh l v).changes.drop 0=l.changes.drop v from rfl,show((dh l v).changes.length:Int)=((l.changes.length-v:Nat):Int)from by simp[dh]]at hh
  exact hh)
 obtain⟨xi,xc,xv,xs⟩:=x
 dsimp only at*
 subst hc
 subst zY
 obtain⟨va,vc,rfl,_⟩:=dk.open_
 have IW:=hD dk
 have lR:=hD hB
 have FP:=hD mw
 have EI:=hD hb
 have XE:=hD (hM b xW)
 have i0:(0:Int)≤(v:Int):=Int.natCast_nonneg _
 have i1:(v:Int)≤(l.changes.length:Int):=by omega
 have i2:(l.changes.length:Int)≤5:=by have:=vo.len;omega
 have i3:IntKind.i64.wrap (((l.changes.length-v:Nat):Int)+(v:Int))=(l.changes.length:Int):=by
  rw[show((l.changes.length-v:Nat):Int)+(v:Int)=(l.changes.length:Int)from by omega]
  exact IntWalk.i64_in _ (by omega)
 have cQ:=hD (Bx.eO w (eh ⟨xi,(k:Int),(v:Int),xs⟩ (.slice va xs.length vc)) (eh ⟨0,0,0,[]⟩ (.slice none 0 0)))
 obtain⟨o0,o1,o2,o3⟩:=ab (cQ.out.bJ rfl)
 clear dk hB mw hb h hG vo kX hx hv
 go_enter Tryz.func42,Tryz.ntmps42
 go_wp2_with fail
 refine(HVW.out _ cQ.out.1 cQ.out.b8).mono ?_
 rintro e w1⟨⟨Ox,Oy,Oz,s2,rfl,iJ⟩,Ob,ei⟩
 obtain⟨a2,c2,rfl,_⟩:=iJ.open_
 unfold KY
 have hMB:=XE.out
 have db:w.heap.size+2≤w1.heap.size:=Nat.le_trans (by simp) ei.size
 have RE:=hD Ob
 have eB:=hD iJ
 have fK:ag (fun i=>i=b) w w1:=(ag.aj cQ.out.1).trans ei
 have nh:=hD fK
 have aO:Hid (Below w0.heap.size w0 w1):=(show Below _ _ _ from cA FP.out FP.out.size fK (fun i hi=>by subst hi;exact EI.out))
 have SS:Hid (w1.heap[w.heap.size]? =some (eh ⟨xi,(k:Int),(v:Int),xs⟩ (.slice va xs.length vc))):=(show _=_ from ei.at_ (cQ.out.bJ rfl) (by omega))
 have wA:Hid (w1.heap[w.heap.size+1]? =some (eh ⟨0,0,0,[]⟩ (.slice none 0 0))):=(show _=_ from ei.at_ (cQ.out.bh rfl) (by omega))
 have qan:Hid (ae (eP M w 2) w1 (.slice va xs.length vc) xs):=(show ae _ _ _ _ from(IW.out.ev (dR cQ.out.1)).ev ⟨ei.mono (fun i hi=> .inl (by subst hi;exact xW)),fun i hi=> .inl hi⟩)
 clear o0 o1 o2 o3 Ob iJ ei fK
 have aM:∀o i(h:i<w1.heap.size),(w1.alloc o).heap[i]? =w1.heap[i]? :=fun o i h=>((Below.refl _ w1).alloc (Nat.le_refl _) o).block i h
 have x0:=fun o=>ab ((aM o w.heap.size (by omega)).trans SS.out)
 have f1:=fun o=>aa ((aM o w.heap.size (by omega)).trans SS.out) 1
 have f2:=fun o=>aa ((aM o w.heap.size (by omega)).trans SS.out) 2
 have aT:w.heap.size<w1.heap.size:=by omega
 clear aM
 go_upto_region 4 with fail
 go_quiet(fail)
 go_upto_region 6 with fail
 clear x0 f1 f2
 obtain⟨W6,FW⟩:∃W6:World,W6=(((w1.alloc (v7 true (.slice Ox Oy Oz) (.slice a2 1 c2))).drewN nq).setCell ⟨w.heap.size,1,none⟩ (.int .i64 0)).setCell ⟨w.heap.size,2,none⟩ (.int .i64 0):=⟨_,rfl⟩
 have O6:ag (fun i=>i=w.heap.size) w1 W6:=by rw[FW];exact((((ag.refl (fun i=>i=w.heap.size) w1).alloc _).drewN nq).setCell (.inl rfl) _).setCell (.inl rfl) _
 have hz6:W6.heap.size=w1.heap.size+1:=by
  rw[FW]
  have:((w1.alloc (v7 true (.slice Ox Oy Oz) (.slice a2 1 c2))).drewN nq).heap.size=w1.heap.size+1:=by show(w1.alloc _).heap.size=_;simp
  simp[this]
 have HD0:Hid (W6.heap[w.heap.size]? =some (eh ⟨xi,0,0,xs⟩ (.slice va xs.length vc))):=(show _=_ by
  rw[FW]
  exact heap_setCell_same _ _ 2 _ _ _ (heap_setCell_same _ _ 1 _ _ _ ((((Below.refl _ w1).alloc (Nat.le_refl _) _).block w.heap.size (by omega)).trans SS.out)))
 have SQ:Hid (W6.heap[w1.heap.size]? =some (v7 true (.slice Ox Oy Oz) (.slice a2 1 c2))):=(show _=_ by
  rw[FW]
  exact(heap_setCell_other _ _ _ _ (by simp;omega)).trans ((heap_setCell_other _ _ _ _ (by simp;omega)).trans (heap_alloc_new w1 _)))
 have HD1:Hid (W6.heap[w.heap.size+1]? =some (eh ⟨0,0,0,[]⟩ (.slice none 0 0))):=(show _=_ from O6.at_ wA.out (by omega))
 have vJ:Hid (Below w0.heap.size w0 W6):=(show Below _ _ _ from cA aO.out aO.out.size O6 (fun i hi=>by subst hi;exact FP.out.size))
 have e6:Ev (eP M w 2) w1 (eP M w 2) W6:=⟨O6.mono (fun i hi=> .inr ⟨by omega,by omega⟩),fun i hi=> .inl hi⟩
 have FY:=hD (eB.out.ev e6)
 have qao:=hD (qan.out.ev e6)
 have O1:=hD O6
 have aS:=hD (Og.out W6 _ vJ.out (by omega) FY.out qao.out)
 unfold v7 at FW
 rw[←FW]
 clear FW O6 e6
 obtain⟨x0,x1,x2,x3⟩:=ab HD0.out
 obtain⟨y0,y1,y2⟩:=ay SQ.out
 go_wp2_with fail
 refine(aS.out).mono ?_
 rintro e w7⟨_,rfl,⟨us,uv,rfl,yg,aU⟩,oP⟩
 obtain⟨ya,yc,rfl,_⟩:=aU.open_
 have MI:=hD yg
 have eM:=hD aU
 have oe:=hD oP
 have XH:w1.heap.size+1≤w7.heap.size:=by have:=oP.size;omega
 have Yj:=hD ((oP.block _ (by omega)).trans HD1.out)
 clear x0 x1 x2 x3 y0 y1 y2 yg aU oP
 have qt:w.heap.size+1<w7.heap.size:=by omega
 go_upto_region 11 with fail
 obtain⟨WA,VG⟩:∃WA:World,WA=w7.alloc (eh ⟨xi,(k:Int),(l.changes.length:Int),us⟩ (.slice ya us.length yc)):=⟨_,rfl⟩
 have hba:Below w7.heap.size w7 WA:=by rw[VG];exact(Below.refl _ w7).alloc (Nat.le_refl _) _
 have HXA:Hid (WA.heap[w7.heap.size]? =some (eh ⟨xi,(k:Int),(l.changes.length:Int),us⟩ (.slice ya us.length yc))):=(show _=_ by rw[VG];exact heap_alloc_new w7 _)
 have SY:=(hba.block _ qt).trans Yj.out
 have U3:=hD hba
 unfold eh at VG
 rw[←VG]
 clear VG hba
 obtain⟨x0,x1,x2,x3⟩:=ab HXA.out
 obtain⟨r0,r1,r2,r3⟩:=ab SY
 have g0:=aa SY 0
 have g1:=aa SY 1
 have g2:=aa SY 2
 have g3:=aa SY 3
 clear SY
 go_wp2_with fail
 have hp:=(Array.getElem?_eq_some_iff.1 lR.out.cell).1
 have o0:ag (fun i=>i=w.heap.size∨i=w.heap.size+1) w1 WA:=(O1.out.mono (fun i hi=> .inl hi)).trans (ag.aj (oe.out.trans (U3.out.mono oe.out.size)))
 have o1:=(((o0.setCell (p:=⟨w.heap.size+1,0,none⟩) (.inl (.inr rfl)) (.int .i64 xi)).setCell (p:=⟨w.heap.size+1,1,none⟩) (.inl (.inr rfl)) (.int .i64 k)).setCell (p:=⟨w.heap.size+1,2,none⟩) (.inl (.inr rfl)) (.int .i64 l.changes.length)).setCell (p:=⟨w.heap.size+1,3,none⟩) (.inl (.inr rfl)) (.slice ya us.length yc)
 have o7:=((((ag.aj (S:=eP M w 2) U3.out).setCell (p:=⟨w.heap.size+1,0,none⟩) (.inl (.inr ⟨by simp,by simp⟩)) (.int .i64 xi)).setCell (p:=⟨w.heap.size+1,1,none⟩) (.inl (.inr ⟨by simp,by simp⟩)) (.int .i64 k)).setCell (p:=⟨w.heap.size+1,2,none⟩) (.inl (.inr ⟨by simp,by simp⟩)) (.int .i64 l.changes.length)).setCell (p:=⟨w.heap.size+1,3,none⟩) (.inl (.inr ⟨by simp,by simp⟩)) (.slice ya us.length yc)
 refine bodyPost_ret (v:= .tuple #[.agg #[.int .i64 xi, .int .i64 k, .int .i64 l.changes.length, .slice ya us.length yc], .bool true]) (by simp[results,Tryz.results42,go_sem,r0,r1,r2,r3]) rfl ⟨⟨_,_,rfl,MI.out,?_⟩,?_,?_⟩
 ·exact(eM.out.ev ⟨o7,fun i hi=> .inl hi⟩).ev (Ev.ee _ fun i hi=> .inl hi)
 ·exact(RE.out.ev ⟨o1.mono (fun i hi=> .inr (by omega)),fun i hi=> .inl hi⟩ (o1.block p (by omega) (by omega)) (o1.block b (by omega) (by omega))).ev (Ev.ee _ fun i hi=> .inl hi) rfl rfl
 ·exact nh.out.cD o1 (fun i hi aT=>by omega)
theorem Ep {M:Nat→Prop}{w W1 w3:World}{uv c0 c1 c2 c3:Value}{us:List au}{a b c:Int}(h1:Below w.heap.size w W1)(hz:W1.heap.size=w.heap.size+1)(hx:w3.heap[W1.heap.size]? =some (.cells #[c0,c1,c2,c3] 56 (0,0)))(hj:Below W1.heap.size W1 w3)(hs:ae (En M w (w.heap.size+2)) w3 uv us):
 Below w.heap.size w ((((w3.setCell ⟨W1.heap.size,0,none⟩ (.int .i64 a)).setCell ⟨W1.heap.size,1,none⟩ (.int .i64 b)).setCell ⟨W1.heap.size,2,none⟩ (.int .i64 c)).setCell ⟨W1.heap.size,3,none⟩ uv)∧((((w3.setCell ⟨W1.heap.size,0,none⟩ (.int .i64 a)).setCell ⟨W1.heap.size,1,none⟩ (.int .i64 b)).setCell ⟨W1.heap.size,2,none⟩ (.int .i64 c)).setCell ⟨W1.heap.size,3,none⟩ uv).heap[W1.heap.size]? =some (eh ⟨a,b,c,us⟩ uv)∧ae M ((((w3.setCell ⟨W1.heap.size,0,none⟩ (.int .i64 a)).setCell ⟨W1.heap.size,1,none⟩ (.int .i64 b)).setCell ⟨W1.heap.size,2,none⟩ (.int .i64 c)).setCell ⟨W1.heap.size,3,none⟩ uv) uv us:=by
 refine⟨h1.trans (((((hj.setCell (Nat.le_refl _) _).setCell (Nat.le_refl _) _).setCell (Nat.le_refl _) _).setCell (Nat.le_refl _) _).mono h1.size),?_,?_⟩
 ·have:=iu (o:=0) hx (.int .i64 a) (.int .i64 b) (.int .i64 c) uv
  simpa [eh]using this
 ·have hv:En M w (w.heap.size+2) W1.heap.size:= .inr ⟨by omega,by omega⟩
  exact hs.ev (((((Ev.ee w3 fun i hi=> .inl hi).setCell (.inl hv) _).setCell (.inl hv) _).setCell (.inl hv) _).setCell (.inl hv) _)
theorem uX {M:Nat→Prop}{w W1 w3:World}{uv:Value}{us:List au}{a b c:Int}{T:Nat}(h1:Below w.heap.size w W1)(hj:Below W1.heap.size W1 w3)(hs:ae (En M w T) w3 uv us):
 Below w.heap.size w (w3.alloc (.cells #[.int .i64 a, .int .i64 b, .int .i64 c,uv] 56))∧(w3.alloc (.cells #[.int .i64 a, .int .i64 b, .int .i64 c,uv] 56)).heap[w3.heap.size]? =some (eh ⟨a,b,c,us⟩ uv)∧ae M (w3.alloc (.cells #[.int .i64 a, .int .i64 b, .int .i64 c,uv] 56)) uv us:=
 ⟨h1.trans ((hj.alloc hj.size _).mono h1.size),heap_alloc_new w3 _,(hs.below ((Below.refl _ _).alloc (Nat.le_refl _) _)).ev (Ev.ee _ fun i hi=> .inl hi)⟩
theorem Er(x:cG)(h:fm x)(M:Nat→Prop)(w:World)(hM:Bd M w)(hG:Gd w)(lv ov:Value)(ra:Option Addr)(rn rc:Nat)(sC:ae M w lv x.lines)(vM:ae M w ov x.objs)(i:Nat)(hi:i<x.objs.length):
 Calls Tryz.prog 11 #[.agg #[lv,ov, .slice ra rn rc, .int .i64 x.next], .int .i64 ((i:Int)+1)] w (aF w fun u w'=>ae M w' u (cK x ((i:Int)+1))):=by
 obtain⟨o,ho⟩:∃o,x.objs[i]? =some o:=⟨_,List.getElem?_eq_getElem hi⟩
 obtain⟨k,v,l,ng⟩:=(h.objs i o ho).2
 have VH:=h.Tq ho ng
 have Iy:=h.len
 have hRF:cK x ((i:Int)+1)=refsOf l v o.cz:=by
  unfold cK
  rw[if_neg (by omega),show((i:Int)+1-1).toNat=i from by omega,ho]
  dsimp only
  rw[ng.cls,ng.ver,show((k:Nat):Int).toNat=k from rfl,ng.line]
  rfl
 rw[hRF]
 have HP:Hid (∀W,Below w.heap.size w W→_):=(show∀W,_→_ from fun W hb=>JP M W ov x.objs (vM.below hb) (by omega) ((i:Int)+1))
 rw[h.place hi]at HP
 obtain⟨b,off,cap,va,vc,rfl,bZ,dk,ao⟩:=iy vM ho
 have vj:=hD ao
 have Og:Hid (∀T W,Below w.heap.size w W→T≤W.heap.size→_):=(show∀T W,_→_→_ from fun T W hb hT=>uV x.lines h.sch k l ng.line o v x.objs.length (by omega) ng.cls ng.ver ng.le VH ng.cz (En M w T) W (K2 hM hb hT) (hG.below hb) lv _ (sC.ev (uW T hb)) (dk.ev (uW T hb)))
 have HRE:Hid (∀W uv us,Below w.heap.size w W→gM (aI l v) (l.changes.drop v) x.objs.length o.cz us→ae M W uv us→Calls Tryz.prog 32 #[.agg #[.int .i64 o.id, .int .i64 o.cls, .int .i64 l.changes.length,uv]] W (aF W fun u w'=>ae M w' u (refsOf l v o.cz))):=(show∀W uv us,_→_→_→_ from fun W uv us hb yg hu=>by
  have hlen:=((aZ (jY (aI l v) (l.changes.drop v))).1 (by
   have hc:=((h.sch.lines l (List.mem_of_getElem? ng.line)).from_ v).mL (l.changes.drop v).length
   have e:aI (dh l v) (l.changes.drop v).length=jY (aI l v) (l.changes.drop v):=by
    show jY (aI l v) ((l.changes.drop v).take _)=_
    rw[List.take_length]
   rw[←e]
   exact hc.right)).2.1
  have hh:=yM ⟨o.id,o.cls,l.changes.length,us⟩ x.objs.length (by omega) _ yg.1 (by rw[yg.1.1];omega) M W (hM.below hb) uv hu (hG.tb.below hb)
  rw[←yg.refs]
  exact hh)
 obtain⟨la,lc,rfl,_⟩:=sC.open_
 have rH:=ng.cls
 obtain⟨oi,oc,ov,os⟩:=o
 dsimp only at*
 subst rH
 have Xo:(0:Int)≤(i:Int):=Int.natCast_nonneg _
 have QL:(i:Int)<(x.objs.length:Int):=by omega
 have cQ:=hD (Bx.fA w (fw (.slice la x.lines.length lc) (.slice (some ⟨b,off,none⟩) x.objs.length cap) (.slice ra rn rc) x.next))
 obtain⟨y0,y1,y2,y3⟩:=ab (cQ.out.bJ rfl)
 clear ao sC vM dk hM hG ho ng VH hRF h
 go_enter Tryz.func11,Tryz.ntmps11
 go_wp2_with fail
 refine(HP.out _ cQ.out.1).mono ?_
 rintro e w1⟨rfl,rfl⟩
 go_upto_region 4 with fail
 obtain⟨W1,ib⟩:∃W1:World,W1=w.alloc (fw (.slice la x.lines.length lc) (.slice (some ⟨b,off,none⟩) x.objs.length cap) (.slice ra rn rc) x.next):=⟨_,rfl⟩
 rw[←ib]at cQ
 have db:W1.heap.size=w.heap.size+1:=by rw[ib];simp
 rw[←ib]
 clear ib y0 y1 y2 y3
 have iI:Hid (Below w.heap.size w W1):=(show Below _ _ _ from cQ.out.1)
 have dm:Hid (∀W,Below W1.heap.size W1 W→W.cell? ⟨w.heap.size,0,none⟩=some (.slice la x.lines.length lc)∧W.cell? ⟨w.heap.size,1,none⟩=some (.slice (some ⟨b,off,none⟩) x.objs.length cap)∧W.cell? ⟨b,off+i*4,none⟩=some (.int .i64 oi)∧W.cell? ⟨b,off+i*4+1,none⟩=some (.int .i64 k)∧W.cell? ⟨b,off+i*4+2,none⟩=some (.int .i64 ov)∧W.cell? ⟨b,off+i*4+3,none⟩=some (.slice va os.length vc)):=(show∀W,_→_ from fun W hb=>by
  have h4:=ab ((cQ.out.below hb).bJ rfl)
  have h5:=vj.out W (cQ.out.below hb).1
  exact⟨h4.1,h4.2.1,h5.1,h5.2.1,h5.2.2.1,h5.2.2.2⟩)
 have HJ:Hid (Below W1.heap.size W1 W1):=(show Below _ _ _ from Below.refl _ _)
 have pd:Hid (w.heap.size≤W1.drew.heap.size):=(show _≤_ from iI.out.size)
 have eB:Hid (∀o,w.heap.size+2≤(W1.alloc o).drew.heap.size):=(show∀o,_ from fun o=>by show w.heap.size+2≤(W1.alloc o).heap.size;simp[db])
 have jr:Hid (∀o,w.heap.size+2≤(W1.drew.alloc o).heap.size):=(show∀o,_ from fun o=>by show w.heap.size+2≤(W1.alloc o).heap.size;simp[db])
 have HZ1:=hD db
 clear db
 go_cut [6,7](fun s6 s7 wx=>∃K us uc ua,s6= .pointer (some ⟨K,0,none⟩)∧s7= .int .i64 0∧Hid (Below w.heap.size w wx)∧Hid (wx.heap[K]? =some (eh ⟨oi,k,l.changes.length,us⟩ (.slice ua us.length uc)))∧Hid (gM (aI l v) (l.changes.drop v) x.objs.length os us∧ae M wx (.slice ua us.length uc) us))
 case first=>
  go_region_held3(fun w'=>w'.cell? ⟨w.heap.size,0,none⟩=some (.slice la x.lines.length lc)∧w'.cell? ⟨w.heap.size,1,none⟩=some (.slice (some ⟨b,off,none⟩) x.objs.length cap)∧w'.cell? ⟨b,off+i*4,none⟩=some (.int .i64 oi)∧w'.cell? ⟨b,off+i*4+1,none⟩=some (.int .i64 k)∧w'.cell? ⟨b,off+i*4+2,none⟩=some (.int .i64 ov)∧w'.cell? ⟨b,off+i*4+3,none⟩=some (.slice va os.length vc))
   (first|with_reducible exact dm.out _ HJ.out|with_reducible exact dm.out _ HJ.out.drew|with_reducible exact dm.out _ (HJ.out.alloc HJ.out.size _)|with_reducible exact dm.out _ ((HJ.out.alloc HJ.out.size _).drew)|with_reducible exact dm.out _ (HJ.out.drew.alloc HJ.out.size _)|with_reducible exact dm.out _ dn.out|with_reducible exact dm.out _ (dn.out.alloc dn.out.size _)|with_reducible exact dm.out _ ((((dn.out.setCell (Nat.le_refl _) _).setCell (Nat.le_refl _) _).setCell (Nat.le_refl _) _).setCell (Nat.le_refl _) _))
   (first|(go_at_call 31
           first
           |(with_reducible refine(Og.out w.heap.size _ iI.out.drew pd.out).mono ?_)
           |(with_reducible refine(Og.out (w.heap.size+2) _ (iI.out.alloc iI.out.size _).drew (eB.out _)).mono ?_)
           |(with_reducible refine(Og.out (w.heap.size+2) _ (iI.out.drew.alloc iI.out.size _) (jr.out _)).mono ?_)
           |fail
           rintro e w3⟨_,rfl,⟨us,uv,rfl,yg,aU⟩,bP⟩
           obtain⟨ua,uc,rfl,_⟩:=aU.open_
           have MI:=hD yg
           have eM:=hD aU
           try(with_reducible(have HX:=hD (X2 bP)))
           try(with_reducible(have HX:=hD (X3 bP)))
           try(have g0:=aa HX.out 0)
           try(have g1:=aa HX.out 1)
           try(have g2:=aa HX.out 2)
           try(have g3:=aa HX.out 3)
           try(have hq:=ab HX.out)
           have dn:Hid (Below W1.heap.size W1 w3):=(by first|with_reducible exact hD (Cy bP)|with_reducible exact hD (RY bP)|with_reducible exact hD (RZ bP))
           clear yg aU bP))
  all_goals(go_wp2_with fail;go_meet)
  all_goals first
   |exact⟨_,us,uc,ua,rfl,rfl,hD (Ep (us:=us) iI.out HZ1.out HX.out dn.out eM.out).1,hD (Ep (us:=us) iI.out HZ1.out HX.out dn.out eM.out).2.1,hD ⟨MI.out,(Ep (us:=us) iI.out HZ1.out HX.out dn.out eM.out).2.2⟩⟩
   |exact⟨_,us,uc,ua,rfl,rfl,hD (uX iI.out dn.out eM.out).1,hD (uX iI.out dn.out eM.out).2.1,hD ⟨MI.out,(uX iI.out dn.out eM.out).2.2⟩⟩
 case rest=>
  obtain⟨K,us,uc,ua,rfl,rfl,nK,Vx,WW⟩:=hcut
  obtain⟨k0,k1,k2,k3⟩:=ab Vx.out
  have xZ:=hD (HRE.out _ _ _ nK.out WW.out.1 (WW.out.2))
  go_wp2_with fail
  refine(xZ.out).mono ?_
  rintro e w6⟨_,rfl,aU,qy⟩
  obtain⟨za,zc,rfl,_⟩:=aU.open_
  have eM:=hD aU
  have vJ:=hD (nK.out.trans (qy.mono nK.out.size))
  clear aU qy
  go_wp2_with fail
  go_ret
  exact⟨_,rfl,eM.out,vJ.out⟩
theorem La:(Tryz.prog.info? 56).map (fun i=>(i.zero,i.size,i.bytes))=some (some (.agg #[.int .i64 0, .int .i64 0, .int .i64 0, .slice none 0 0]),4,48):=by kernel_rfl
def Cz(M:Nat→Prop)(w:World)(b P:Nat):Nat→Prop:=fun i=>M i∨i=w.heap.size+1∨i=b∨i=P∨i=P+1
structure IJ(w:World)(P p b:Nat):Prop where
 pb:p≠b
 p1:w.heap.size+2≤p
 p2:p<P
 b1:w.heap.size+2≤b
 b2:b<P
structure hZ(x:cG)(M:Nat→Prop)(w:World)(P p b:Nat)(sv:Value)(o0 o1:Obj)(W:World)(i j:Nat)(v:Value):Prop where
 bx:Bx w [o0,o1] W
 book:oL x.lines (bc v (Cz M w b P)) p b sv W
 late:∃ls:List dz,aK (α:=dz) (Cz M w b P) (P+2) 56 W v ls∧ls.length=i∧∀(k:Nat)o,ls[k]? =some o→mc x k o
 place:∃es clk,bq mm W P es clk∧∀n:Int,bA es n=if 1≤n∧n≤j then some (.int .i64 (n-1))else none
 g:W.heap[P+1]? =some (gU v P)
section
variable {x:cG}{M:Nat→Prop}{w:World}{P p b:Nat}{sv:Value}{o0 o1:Obj}{W W' w4:World}{i j:Nat}{v v2:Value}
theorem hZ.lt(h:hZ x M w P p b sv o0 o1 W i j v):P+2≤W.heap.size:=(Array.getElem?_eq_some_iff.1 h.g).1
theorem hZ.below(h:hZ x M w P p b sv o0 o1 W i j v)(c:IJ w P p b)(hb:Below W.heap.size W W'):hZ x M w P p b sv o0 o1 W' i j v:=by
 have hl:=h.lt
 have:=c.p2
 have:=c.b2
 obtain⟨h1,h2,⟨ls,h3,h4⟩,⟨es,clk,h5,h6⟩,h7⟩:=h
 exact⟨h1.below hb,h2.ev (Ev.aj hb) (hb.block _ (by omega)) (hb.block _ (by omega)),⟨ls,h3.below hb,h4⟩,⟨es,clk,(hb.block _ (by omega)).trans h5,h6⟩,(hb.block _ (by omega)).trans h7⟩
theorem hZ.bd(h:hZ x M w P p b sv o0 o1 W i j v)(c:IJ w P p b)(hM:Bd M w):Bd (bc v (Cz M w b P)) W:=fun k hk=>by
 have hl:=h.lt
 have:=c.p2
 have:=c.b2
 have:=c.p1
 rcases hk with(hk|hk|hk|hk|hk)|hk
 ·exact Nat.lt_of_lt_of_le (hM k hk) h.bx.1.size
 ·omega
 ·omega
 ·omega
 ·omega
 ·obtain⟨ls,h3,_⟩:=h.late
  exact(h3.dO k hk).2
theorem hZ.ev(h:hZ x M w P p b sv o0 o1 W i j v)(c:IJ w P p b):Ev M w (bc v (Cz M w b P)) W:=⟨ag.aj h.bx.1,fun k hk=>by
 have:=c.p2
 have:=c.b1
 have:=c.p1
 rcases hk with(hk|hk|hk|hk|hk)|hk
 ·exact .inl hk
 ·right;omega
 ·right;omega
 ·right;omega
 ·right;omega
 ·obtain⟨ls,h3,_⟩:=h.late
  have:=(h3.dO k hk).1
  right;omega⟩
theorem hZ.DR(h:hZ x M w P p b sv o0 o1 W i j v)(c:IJ w P p b)(hB:oL x.lines (bc v (Cz M w b P)) p b sv W')(ho:ag (fun k=>k=b) W W'):hZ x M w P p b sv o0 o1 W' i j v:=by
 have:=c.p2
 have:=c.b2
 have:=c.b1
 obtain⟨h1,h2,⟨ls,h3,h4⟩,⟨es,clk,h5,h6⟩,h7⟩:=h
 exact⟨h1.only ho (fun k hk=>by subst hk;simp;omega),hB,⟨ls,h3.only ho (fun k hk=>⟨.inr (.inr (.inl hk)),by have hh:k=b:=hk;omega⟩),h4⟩,⟨es,clk,ho.at_ h5 (by omega),h6⟩,ho.at_ h7 (by omega)⟩
theorem hZ.next(h:hZ x M w P p b sv o0 o1 W i j v)(c:IJ w P p b){o:dz}(ho:mc x i o)(ob:Obj){ls:List dz}(h4:ls.length=i)(TW:∀(k:Nat)o,ls[k]? =some o→mc x k o)(bn:aK (α:=dz) (Cz M w b P) (P+2) 56 w4 v2 (ls++[o]))(zH:Ev (bc v (Cz M w b P)) (W.alloc ob) (bc v2 (Cz M w b P)) w4)(hb:Below (P+2) (W.alloc ob) w4):
 hZ x M w P p b sv o0 o1 (w4.setCell ⟨P+1,0,none⟩ v2) (i+1) j v2:=by
 have hl:=h.lt
 have c1:=c.p2
 have c2:=c.b2
 have c3:=c.p1
 have e1:∀k,k<P+2→w4.heap[k]? =W.heap[k]? :=fun k hk=>(hb.block k hk).trans (((Below.refl _ W).alloc (Nat.le_refl _) ob).block k (by omega))
 have e2:∀k,k≠P+1→k<P+2→(w4.setCell ⟨P+1,0,none⟩ v2).heap[k]? =W.heap[k]? :=fun k hn hk=>(heap_setCell_other _ _ _ _ hn).trans (e1 k hk)
 have hE:Ev (bc v (Cz M w b P)) W (bc v2 (Cz M w b P)) (w4.setCell ⟨P+1,0,none⟩ v2):=by
  refine⟨ag.setCell ((ag.refl _ W).alloc ob|>.trans zH.only) (p:=⟨P+1,0,none⟩) (.inl (.inl (.inr (.inr (.inr (.inr rfl)))))) _,fun k hk=> ?_⟩
  rcases zH.sub k hk with h1|h1
  ·exact .inl h1
  ·right
   have:(W.alloc ob).heap.size=W.heap.size+1:=by simp
   omega
 obtain⟨h1,h2,_,⟨es,clk,h5,h6⟩,h7⟩:=h
 refine⟨?_,h2.ev hE (e2 _ (by omega) (by omega)) (e2 _ (by omega) (by omega)),⟨ls++[o],?_,by simp[h4],fun k y hy=> ?_⟩,⟨es,clk,(e2 _ (by omega) (by omega)).trans h5,h6⟩,?_⟩
 ·exact((h1.alloc ob).cJ hb (by simp;omega)).cJ (B:=P+1) ((Below.refl (P+1) w4).setCell (p:=⟨P+1,0,none⟩) (Nat.le_refl (P+1)) v2) (by simp;omega)
 ·exact bn.sD (p:=⟨P+1,0,none⟩) (.inr (.inr (.inr (.inr rfl)))) (by show P+1<P+2;omega) _
 ·by_cases hk:k<ls.length
  ·rw[List.getElem?_append_left hk]at hy
   exact TW k y hy
  ·have:k=ls.length:=by
    have:=(List.getElem?_eq_some_iff.1 hy).1
    simp at this;omega
   subst this
   simp at hy;subst hy
   rw[h4];exact ho
 ·have:=heap_setCell_same w4 (P+1) 0 _ _ v2 ((e1 _ (by omega)).trans h7)
  simpa [gU]using this
theorem hZ.put(h:hZ x M w P p b sv o0 o1 W i j v)(c:IJ w P p b):∃W',(Instr.mapUpdate 65 (.map (some P)) (.int .i64 ((j:Int)+1)) (.int .i64 (j:Int))).run Tryz.prog W= .ok () W'∧hZ x M w P p b sv o0 o1 W' i (j+1) v:=by
 have hl:=h.lt
 have c1:=c.p2
 have c2:=c.b2
 have c3:=c.p1
 obtain⟨h1,h2,⟨ls,h3,h4⟩,⟨es,clk,h5,h6⟩,h7⟩:=h
 have V5:bA es ((j:Int)+1)=none:=by rw[h6,if_neg (by omega)]
 obtain⟨W',mo,hm,ho⟩:=bq.Qb mm Tryz.underlying65 rC qm h5 ((j:Int)+1) (.int .i64 (j:Int)) V5
 refine⟨W',mo,⟨h1.only ho (fun k hk=>by subst hk;simp;omega),h2.ev ⟨ho.mono (fun k hk=> .inl (.inr (.inr (.inr (.inl hk))))),fun k hk=> .inl hk⟩ (ho.block _ (by omega) (by omega)) (ho.block _ (by omega) (by omega)),⟨ls,h3.only ho (fun k hk=>⟨.inr (.inr (.inr (.inl hk))),by have hh:k=P:=hk;omega⟩),h4⟩,⟨_,_,hm,fun n=> ?_⟩,ho.at_ h7 (by omega)⟩⟩
 rw[xK n V5,h6]
 by_cases hn:n=(j:Int)+1
 ·rw[if_pos hn,if_pos (by omega),hn];congr 2;omega
 ·rw[if_neg hn]
  by_cases h8:1≤n∧n≤(j:Int)
  ·rw[if_pos h8,if_pos (by omega)]
  ·rw[if_neg h8,if_neg (by omega)]
theorem hZ.fin(h:hZ x M w P p b sv o0 o1 W x.objs.length x.objs.length v)(c:IJ w P p b)(hM:Bd M w)(ho:ag (fun k=>k=w.heap.size+1) W W'):KJ x M W' v P:=by
 have hl:=h.lt
 have c1:=c.p2
 have c2:=c.b2
 have c3:=c.p1
 obtain⟨h1,h2,⟨ls,h3,h4,TW⟩,⟨es,clk,h5,h6⟩,h7⟩:=h
 refine⟨⟨ls,?_,h4,TW⟩,es,clk,ho.at_ h5 (by omega),fun k hk=> ?_⟩
 ·have hs:=(h3.only ho (fun k hk=>⟨.inr (.inl hk),by have hh:k=w.heap.size+1:=hk;omega⟩)).slice (fun k hk=> ?_)
  ·exact hs.ev (Ev.ee _ fun k hk=> .inl hk)
  ·rcases hk with hk|hk|hk|hk|hk
   ·have:=hM k hk;omega
   ·omega
   ·omega
   ·omega
   ·omega
 ·rw[h6,if_pos (by omega)]
  congr 2;omega
end
theorem Ig(x:cG)(h:fm x){M:Nat→Prop}{w:World}(hM:Bd M w)(hG:Gd w){P p b:Nat}(c:IJ w P p b){i:Nat}{o:dz}(ho:x.objs[i]? =some o):
 ∃(k ln:Nat),∀(W:World)(sv v va:Value)(o0 o1:Obj)(j:Nat),hZ x M w P p b sv o0 o1 W i j v→ae M w va o.cz→Calls Tryz.prog 42 #[.pointer (some ⟨p,0,none⟩), .agg #[.int .i64 o.id, .int .i64 o.cls, .int .i64 o.ver,va]] W fun e w'=>∃(us:List au)(uv:Value),e= .returned (.tuple #[.agg #[.int .i64 o.id, .int .i64 (k:Int), .int .i64 (ln:Int),uv], .bool true])∧mc x i ⟨o.id,(k:Int),(ln:Int),us⟩∧ae (bc v (Cz M w b P)) w' uv us∧hZ x M w P p b sv o0 o1 w' i j v∧ag (fun k=>k=b) W w':=by
 obtain⟨hid,k,v',l,hk⟩:=h.objs i o ho
 refine⟨k,l.changes.length,fun W sv v va o0 o1 j hs hva=> ?_⟩
 have aw:=c.b1
 refine(Eo x.lines h.sch k l hk.line o v' x.objs.length (by have:=h.len;omega) hk.cls hk.ver hk.le (h.Tq ho hk) hk.cz (bc v (Cz M w b P)) w W (hs.bd c hM) hG hs.bx.1 p b c.pb (.inl (.inr (.inr (.inl rfl)))) (by omega) sv va hs.book (hva.ev (hs.ev c))).mono ?_
 rintro e w'⟨⟨us,uv,rfl,yg,aU⟩,Ob,hU⟩
 exact⟨us,uv,rfl,⟨o,k,v',l,us,ho,hk,yg,rfl⟩,aU,hs.DR c Ob hU,hU⟩
theorem Ih(x:cG)(h:fm x)(M:Nat→Prop)(w:World)(hM:Bd M w)(hG:Gd w)(lv ov rv:Value)(sC:ae M w lv x.lines)(vM:ae M w ov x.objs)(rJ:ae M w rv x.roots):
 Calls Tryz.prog 22 #[.agg #[lv,ov,rv, .int .i64 x.next]] w (aF w fun u w'=>∃lt pm,u= .tuple #[.agg #[lt, .map (some pm)], .int .i64 0]∧KJ x M w' lt pm):=by
 obtain⟨i0,dF,dM,db,dL⟩:=info_parts La
 have OT:Hid (∀W,Below w.heap.size w W→_):=(show∀W,_→_ from fun W hb=>xO x.lines h.sch M W (hM.below hb) (hG.tb.below hb) lv (sC.below hb))
 have zQ:Hid (∀W,Below w.heap.size w W→_):=(show∀W,_→_ from fun W hb=>Ez x h M W lv ov rv (sC.below hb) (vM.below hb) (rJ.below hb))
 have Ct:Hid (∀W,Below w.heap.size w W→w.heap.size+2≤W.heap.size→_):=(show∀W,_→_→_ from fun W hb hz=>NF x.lines (fun i=>M i∨i=w.heap.size+1) W (fun i hi=>by rcases hi with hi|hi;(have:=hM i hi;omega);omega) lv (sC.ev ⟨ag.aj hb,fun i hi=>hi.imp_right fun e=>by omega⟩))
 have Og:Hid (∀(P p b:Nat),IJ w P p b→∀(i:Nat)(o:dz),x.objs[i]? =some o→_):=(show∀(P p b:Nat),_→∀(i:Nat)(o:dz),_→_ from fun P p b c i o ho=>Ig x h hM hG c ho)
 have ZU:Hid (∀W lt pm,Below w.heap.size w W→KJ x M W lt pm→_):=(show∀W lt pm,_→_→_ from fun W lt pm hb hg=>Ie x h M W (hM.below hb) (hG.tb.below hb) lt rv pm hg (rJ.below hb))
 have HO:Hid (∀i o,x.objs[i]? =some o→_):=(show∀i o,_→_ from fun i o ho=>iy vM ho)
 have HOI:Hid (∀(i:Nat)o,x.objs[i]? =some o→o.id=(i:Int)+1):=(show∀(i:Nat)o,_→_ from fun i o ho=>(h.objs i o ho).1)
 have kU:=hD hM
 have Iy:=h.len
 obtain⟨la,lc,rfl,_⟩:=sC.open_
 obtain⟨oa,oc,rfl,VH,hom,_⟩:=vM.open_
 obtain⟨ra,rc,rfl,_⟩:=rJ.open_
 have LG:=hD sC
 clear sC vM rJ hM hG h
 have HNN:Hid (∀W v P p b sv o0 o1 W',hZ x M w P p b sv o0 o1 W x.objs.length x.objs.length v→IJ w P p b→ag (fun k=>k=w.heap.size+1) W W'→KJ x M W' v P):=(show∀W v P p b sv o0 o1 W',_→_→_→_ from fun W v P p b sv o0 o1 W' h1 h2 h3=>h1.fin h2 kU.out h3)
 generalize hn:x.objs.length=n at*
 have HN:=hD hn;clear hn
 have Cc:=fun w=>kN 65 w
 obtain⟨q0,Rh⟩:∃q0,q0=fw (.slice la x.lines.length lc) (.slice oa n oc) (.slice ra x.roots.length rc) x.next:=⟨_,rfl⟩
 obtain⟨q1,SJ⟩:∃q1:Obj,q1= .cells #[.slice none 0 0, .map none] 67 (0,0):=⟨_,rfl⟩
 have HQ0:=hD Rh
 have Xj:=hD SJ
 have nj:Hid (∀W,Bx w [q0,q1] W→W.heap[w.heap.size]? =some (fw (.slice la x.lines.length lc) (.slice oa n oc) (.slice ra x.roots.length rc) x.next)):=(show∀W,_→_ from fun W hb=>by rw[←HQ0.out];exact hb.bJ rfl)
 have nN:Hid (∀W,Bx w [q0,q1] W→W.heap[w.heap.size+1]? =some (.cells #[.slice none 0 0, .map none] 67 (0,0))):=(show∀W,_→_ from fun W hb=>by rw[←Xj.out];exact hb.bh rfl)
 clear Rh SJ
 go_enter Tryz.func22,Tryz.ntmps22
 go_upto_region 1 with fail
 obtain⟨W0,OD⟩:∃W0:World,W0=(w.alloc (fw (.slice la x.lines.length lc) (.slice oa n oc) (.slice ra x.roots.length rc) x.next)).alloc (.cells #[.slice none 0 0, .map none] 67):=⟨_,rfl⟩
 have cQ:Hid (Bx w [q0,q1] W0):=(show Bx _ _ _ from by rw[OD,HQ0.out,Xj.out];exact Bx.eO w _ _)
 unfold fw at OD
 rw[←OD]
 clear OD
 obtain⟨c0,c1,c2,c3⟩:=ab (nj.out _ cQ.out)
 go_wp2_with fail
 refine(OT.out _ cQ.out.1).mono ?_
 rintro e w1⟨rfl,aw⟩
 have aO:=hD (cQ.out.below aw)
 clear aw c0 c1 c2 c3
 obtain⟨c0,c1,c2,c3⟩:=ab (nj.out _ aO.out)
 go_wp2_with fail
 refine(zQ.out _ aO.out.1).mono ?_
 rintro e w2⟨rfl,aM⟩
 have aA:=hD (aO.out.below aM)
 clear aM c0 c1 c2 c3
 obtain⟨c0,c1,c2,c3⟩:=ab (nj.out _ aA.out)
 have iJ:=aA.out.b8
 simp only[List.length_cons,List.length_nil]at iJ
 go_wp2_with fail
 refine(Ct.out _ aA.out.1 (by omega)).mono ?_
 rintro e w3⟨p,b,rfl,tp,aw,Cr,vI,bP,PA,sN⟩
 have bO:=hD (aA.out.below sN)
 have RE:=hD PA
 have HC:Hid (IJ w w3.heap.size p b):=(show IJ _ _ _ _ from⟨Cr,by omega,vI,by omega,bP⟩)
 clear PA sN c0 c1 c2 c3
 obtain⟨c0,c1,c2,c3⟩:=ab (nj.out _ bO.out)
 go_upto_region 8 with fail
 obtain⟨W7,vD⟩:∃W7:World,W7=(w3.alloc (.map #[] 0)).alloc (gU (.slice none 0 0) w3.heap.size):=⟨_,rfl⟩
 have eT:Hid (hZ x M w w3.heap.size p b (.slice la x.lines.length lc) q0 q1 W7 0 0 (.slice none 0 0)):=(show hZ _ _ _ _ _ _ _ _ _ _ _ _ _ from by
  have yd:Below w3.heap.size w3 W7:=by rw[vD];exact((Below.refl _ _).alloc (Nat.le_refl _) _).alloc (by simp) _
  refine⟨bO.out.below yd,(RE.out _ (fun i hi=> ?_)).ev (Ev.aj yd) (yd.block _ vI) (yd.block _ bP),⟨[],aK.nil _ _ _ _,rfl,fun k o h=>by simp at h⟩,⟨[],0,?_,fun n=> ?_⟩,?_⟩
  ·have gz:=HC.out.b1
   rcases hi with(hi|hi|hi|hi|hi)|hi
   ·exact .inl (.inl hi)
   ·exact .inl (.inr hi)
   ·right;omega
   ·right;omega
   ·right;omega
   ·cases hi
  ·show W7.heap[w3.heap.size]? =_
   rw[vD];exact(((Below.refl _ _).alloc (Nat.le_refl _) _).block w3.heap.size (by simp)).trans (heap_alloc_new w3 _)
  ·rw[if_neg (by omega)];rfl
  ·rw[vD]
   have:=heap_alloc_new (w3.alloc (.map #[] 0)) (gU (.slice none 0 0) w3.heap.size)
   simpa using this)
 unfold gU at vD
 rw[←vD]
 clear vD tp aw Cr vI bP RE c0 c1 c2 c3
 generalize w3.heap.size=P at*
 obtain⟨c0,c1,c2,c3⟩:=ab (nj.out _ eT.out.bx)
 go_wp2_with fail
 clear c0 c1 c2 c3
 go_loopg [3,8,9,10,11,34]n(fun g r3 _ _ _ _ iv wr=>∃(i:Nat)(v:Value),i≤n∧g=n-i∧iv= .int .i64 i∧r3= .int .i64 0∧Hid (hZ x M w P p b (.slice la x.lines.length lc) q0 q1 wr i i v))
 case atStart=>exact⟨0,_,Nat.zero_le _,rfl,rfl,rfl,eT⟩
 case round=>
  obtain⟨i,v,hi,rfl,rfl,rfl,HS⟩:=hrel
  have hva:∃a c,v= .slice a i c:=by
   obtain⟨ls,h3,h4,_⟩:=HS.out.late
   obtain⟨a,c,e,_⟩:=h3.open_
   rw[h4]at e
   exact⟨a,c,e⟩
  obtain⟨a,c,rfl⟩:=hva
  have hPl:=HS.out.lt
  have YH:Hid (¬bc (.slice a i c) (Cz M w b P) wr.heap.size):=(show¬_ from fun h=>Nat.lt_irrefl _ (HS.out.bd HC.out kU.out _ h))
  have hbP:=HC.out.b2
  by_cases aT:i<n
  ·obtain⟨o,ho⟩:∃o,x.objs[i]? =some o:=⟨_,List.getElem?_eq_getElem (by rw[HN.out];exact aT)⟩
   obtain⟨b',off,cap,va,vc,hv,bZ,dk,ao⟩:=HO.out i o ho
   obtain⟨rfl,rfl⟩:oa=some ⟨b',off,none⟩∧oc=cap:=by first|simpa using hv|(rw[HN.out]at hv;simpa using hv)
   obtain⟨g0,g1,g2,g3⟩:=ao wr HS.out.bx.1
   have hoi:=HOI.out i o ho
   obtain⟨k,ln,hl⟩:=Og.out P p b HC.out i o ho
   have HL:=hD (fun ob=>hl (wr.alloc ob) (.slice la x.lines.length lc) (.slice a i c) (.slice va o.cz.length vc) q0 q1 i (HS.out.below HC.out ((Below.refl _ _).alloc (Nat.le_refl _) ob)) dk)
   obtain⟨oi,XR,ov,os⟩:=o
   dsimp only at*
   subst hoi
   clear ao hv ho hl dk
   go_wp2_with fail
   refine(HL.out _).mono ?_
   rintro e w4⟨us,uv,rfl,mj,aU,bK,hU⟩
   have wq:=aU
   obtain⟨ua,uc,rfl,_⟩:=wq.open_
   have hcp:w4.heap[wr.heap.size]? =some (eh ⟨(i:Int)+1,XR,ov,os⟩ (.slice va os.length vc)):=hU.at_ (heap_alloc_new wr _) (by omega)
   have XG:wr.heap.size<w4.heap.size:=(Array.getElem?_eq_some_iff.1 hcp).1
   have qbm:=hD bK
   have eM:=hD aU
   have nP:=hD mj
   have HCP:=hD hcp
   clear aU bK hU mj hcp g0 g1 g2 g3
   go_upto_region 14 with fail
   obtain⟨W5,jQ⟩:∃W5:World,W5=w4.alloc (eh ⟨(i:Int)+1,(k:Int),(ln:Int),us⟩ (.slice ua us.length uc)):=⟨_,rfl⟩
   have hz5:w4.heap.size+1≤W5.heap.size:=by rw[jQ];simp
   have sL:Hid (hZ x M w P p b (.slice la x.lines.length lc) q0 q1 W5 i i (.slice a i c)):=(show hZ _ _ _ _ _ _ _ _ _ _ _ _ _ from by rw[jQ];exact qbm.out.below HC.out ((Below.refl _ _).alloc (Nat.le_refl _) _))
   have HN5:Hid (W5.heap[w4.heap.size]? =some (eh ⟨(i:Int)+1,(k:Int),(ln:Int),us⟩ (.slice ua us.length uc))):=(show _=_ from by rw[jQ];exact heap_alloc_new w4 _)
   have qbn:Hid (W5.heap[wr.heap.size]? =some (eh ⟨(i:Int)+1,XR,ov,os⟩ (.slice va os.length vc))):=(show _=_ from by rw[jQ];exact(Below.heap_alloc w4 _ _ XG).trans HCP.out)
   have RJ:Hid (∀o',ae (bc (.slice a i c) (Cz M w b P)) (W5.alloc o') (.slice ua us.length uc) us):=(show∀o',ae _ _ _ _ from fun o'=>by rw[jQ];exact eM.out.below (((Below.refl _ _).alloc (Nat.le_refl _) _).alloc (by simp) o'))
   unfold eh at jQ
   rw[←jQ]
   clear jQ
   have qds:=sL.out.lt
   obtain⟨p0,p1⟩:=af sL.out.g
   obtain⟨n0,n1,n2,n3⟩:=ab HN5.out
   obtain⟨ls,bn,hlen,V6⟩:=sL.out.late
   have kn:=hD bn
   have jJ:=hD hlen
   have qbo:=hD V6
   clear bn hlen V6
   have IE:i≤10:=by omega
   have eR:Hid (∀o',az.rep (α:=dz) (bc (.slice a i c) (Cz M w b P)) (W5.alloc o') [.int .i64 ((i:Int)+1), .int .i64 (k:Int), .int .i64 (ln:Int), .slice ua us.length uc] ⟨(i:Int)+1,(k:Int),(ln:Int),us⟩):=(show∀o',_ from fun o'=>⟨_,rfl,RJ.out o'⟩)
   go_upto_region 15 with(
    at_builtin
    refine aQ (α:=dz) rfl _ _ _ rfl (Cz M w b P) (P+2) 56 i0 _ 48 Tryz.underlying32 dF dM db dL rfl (by decide) (.slice a i c) ls rfl (kn.out.alloc _) (fun _=>True) _ _ ⟨(i:Int)+1,(k:Int),(ln:Int),us⟩ rfl (ct _ _ _ _ rfl trivial) (eR.out _) (by rw[jJ.out];unfold maxLen;omega) (by rw[jJ.out];omega) (by simp;omega) ?_
    rw[jJ.out]
    intro a2 c2 w6 bj dj aM
    have CH:=hD (sL.out.next HC.out (o:=⟨(i:Int)+1,(k:Int),(ln:Int),us⟩) nP.out _ jJ.out qbo.out bj dj aM)
    have hp6:w6.heap[P+1]? =some (gU (.slice a i c) P):=(aM.block _ (by omega)).trans ((Below.heap_alloc W5 _ _ (by omega)).trans sL.out.g)
    have p6:=(af hp6).1
    have f6:=aa hp6 0
    have hc6:w6.heap[wr.heap.size]? =some (eh ⟨(i:Int)+1,XR,ov,os⟩ (.slice va os.length vc)):=(dj.only.block _ (by simp;omega) YH.out).trans ((Below.heap_alloc W5 _ _ (by omega)).trans qbn.out)
    have HC6:Hid ((w6.setCell ⟨P+1,0,none⟩ (.slice a2 (i+1) c2)).heap[wr.heap.size]? =some (eh ⟨(i:Int)+1,XR,ov,os⟩ (.slice va os.length vc))):=(show _=_ from(heap_setCell_other _ _ _ _ (by show wr.heap.size≠P+1;omega)).trans hc6)
    clear bj dj aM hp6 hc6)
   obtain⟨W7',V7⟩:∃W7':World,W7'=w6.setCell ⟨P+1,0,none⟩ (.slice a2 (i+1) c2):=⟨_,rfl⟩
   rw[←V7]at CH HC6⊢
   clear V7 p6 f6 p0 p1 n0 n1 n2 n3
   obtain⟨p0,p1⟩:=af CH.out.g
   obtain⟨n0,n1,n2,n3⟩:=ab HC6.out
   obtain⟨W8,mo,V8⟩:=CH.out.put HC.out
   have qbp:=hD V8
   clear V8
   go_wp2_with fail
   go_roundg(n-(i+1))
   case measure=>omega
   case rel=>exact⟨i+1,_,by omega,rfl,by go_num,rfl,qbp⟩
  ·obtain rfl:i=n:=by omega
   obtain⟨p0,p1⟩:=af HS.out.g
   obtain⟨c0,c1,c2,c3⟩:=ab (nj.out _ HS.out.bx)
   have HGR:=hD (HNN.out wr _ P p b _ _ _ wr HS.out HC.out (ag.refl _ _))
   go_wp2_with fail
   refine(ZU.out _ _ _ HS.out.bx.1 HGR.out).mono ?_
   rintro e w7⟨rfl,oP⟩
   have CI:=hD (HS.out.below HC.out oP)
   clear oP p0 p1 c0 c1 c2 c3
   obtain⟨p0,p1⟩:=af CI.out.g
   obtain⟨r0,r1⟩:=af (nN.out _ CI.out.bx)
   have f0:=aa (nN.out _ CI.out.bx) 0
   have f1:=aa (nN.out _ CI.out.bx) 1
   have qdt:P+1≠w.heap.size+1:=by have:=HC.out.b1;omega
   have kR:Hid (∀W',W'=(w7.setCell ⟨w.heap.size+1,0,none⟩ (.slice a i c)).setCell ⟨w.heap.size+1,1,none⟩ (.map (some P))→(∃lt pm,Value.tuple #[.agg #[.slice a i c, .map (some P)], .int .i64 0]= .tuple #[.agg #[lt, .map (some pm)], .int .i64 0]∧KJ x M W' lt pm)∧Below w.heap.size w W'):=(show∀W',_→_ from fun W' gX=>by
    refine⟨⟨_,_,rfl,HNN.out w7 _ P p b _ _ _ W' CI.out HC.out ?_⟩,?_⟩
    ·rw[gX];exact((ag.refl (fun k=>k=w.heap.size+1) w7).setCell (p:=⟨w.heap.size+1,0,none⟩) (.inl rfl) _).setCell (p:=⟨w.heap.size+1,1,none⟩) (.inl rfl) _
    ·rw[gX];exact(CI.out.bx.1.setCell (by simp) _).setCell (by simp) _)
   go_wp2_with fail
   exact bodyPost_ret (v:= .tuple #[.agg #[.slice a i c, .map (some P)], .int .i64 0]) (by simp[results,Tryz.results22,go_sem,r0,r1,f0,f1]) rfl ⟨_,rfl,kR.out _ rfl⟩
end Go.Proofs.YtlkjnefenialbaaGreatDoor
