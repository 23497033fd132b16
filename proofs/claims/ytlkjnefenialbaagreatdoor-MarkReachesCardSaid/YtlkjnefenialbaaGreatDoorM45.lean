/- What schema.Right, Find, Check and Carry answer; no condition beyond each theorem's own. -/
import Derived.Test.YtlkjnefenialbaaGreatDoorM44
import Derived.LoopIn
import Derived.TacticsIn
import Derived.RegionIn
import Derived.Sort.CutIn
set_option linter.unusedVariables false
set_option linter.unusedSimpArgs false
set_option maxHeartbeats 8000000
set_option maxRecDepth 100000
namespace Go.Proofs.YtlkjnefenialbaaGreatDoor
open Go.RowKit Go.Shelf
section
attribute [local go_sem]Oper.semAt_some
theorem mY(nm:ByteArray)(fv cv:Value)(w:World):Calls Tryz.prog 94 #[.agg #[.string nm,fv,cv]] w fun e w'=>e= .returned (.func (.func 121) #[] #[.pointer (some ⟨w.heap.size,0,none⟩)])∧w.alloc (bY nm fv cv)=w':=by
 have Is:∀(fn:Fn)(first cap:Array Value)(w:World),(Instr.makeFunc fn first cap).run Tryz.prog w= .ok (.func fn first cap) w:=fun _ _ _ _=>rfl
 go_enter Tryz.func94,Tryz.ntmps94
 go_wp2_with fail
 go_ret
 exact⟨rfl,rfl⟩
def oK(M S:Nat→Prop)(w:World):Nat→Prop:=fun i=>M i∨S i∨Ml w 1 i
def mZ(l:aE)(N:Nat→Prop)(i:Nat)(args:Array Value)(j:Nat)(A:World):Prop:=j=i+1∧i≤l.changes.length∧∃jc,args= #[.agg #[.string l.first.name,jc], .int .i64 0]∧ae N A jc (aI l i).fields
structure qo(l:aE)(N:Nat→Prop)(p:Nat)(w0 w:World)(fv cv:Value)(i:Nat)(fvc:Value)(A:World):Prop where
 below:Below w0.heap.size w0 A
 line:A.heap[p]? =some (bY l.first.name fv cv)
 cls:A.heap[w.heap.size+2]? =some (cg l.first.name fvc)
 sl:ae N A fvc (aI l i).fields
section
variable {l:aE}{M S:Nat→Prop}{p:Nat}{w0 w:World}{fv cv:Value}{i:Nat}{fvc:Value}{A B:World}
theorem qo.size(h:qo l (oK M S w) p w0 w fv cv i fvc A):w.heap.size+2<A.heap.size:=(Array.getElem?_eq_some_iff.1 h.cls).1
theorem qo.round(h:qo l (oK M S w) p w0 w fv cv i fvc A)(ho:ag (Wg S w) A B)(hS:∀i,S i→w0.heap.size≤i∧i<w.heap.size)(hw:w0.heap.size≤w.heap.size)(hp:p<w.heap.size)(Xv:¬S p):qo l (oK M S w) p w0 w fv cv i fvc B:=by
 have hz:=h.size
 refine⟨⟨ho.os.trans h.below.os,ho.tape.trans h.below.tape,ho.output.trans h.below.output,Nat.le_trans h.below.size ho.size,fun j hj=>(ho.block j (by omega) (fun Xw=> ?_)).trans (h.below.block j hj)⟩,ho.at_ h.line (fun h=> ?_),ho.at_ h.cls (fun h=> ?_),h.sl.ev ⟨ho.mono fun j hj=> ?_,fun j hj=> .inl hj⟩⟩
 ·rcases Xw with Xw|Xw
  ·have:=(hS j Xw).1;omega
  ·omega
 ·rcases h with h|h
  ·exact Xv h
  ·omega
 ·rcases h with h|h
  ·have:=(hS _ h).2;omega
  ·omega
 ·rcases hj with hj|hj
  ·exact .inr (.inl hj)
  ·exact .inr (.inr ⟨by omega,by omega⟩)
theorem qo.own(h:qo l (oK M S w) p w0 w fv cv i fvc A)(hb:Below A.heap.size A B)(hw:w0.heap.size≤w.heap.size)(hp:p<w.heap.size):qo l (oK M S w) p w0 w fv cv i fvc B:=by
 have hz:=h.size
 exact⟨h.below.trans (hb.mono (by omega)),(hb.block p (by omega)).trans h.line,(hb.block _ hz).trans h.cls,h.sl.below hb⟩
theorem Qg(hM:Bd M w0)(hS:∀i,S i→w0.heap.size≤i∧i<w.heap.size)(hw:w0.heap.size≤w.heap.size)(hA:w.heap.size+2<A.heap.size):Bd (oK M S w) A:=fun i hi=>by
 rcases hi with hi|hi|hi
 ·have:=hM i hi;omega
 ·have:=(hS i hi).2;omega
 ·have:=hi.2;omega
theorem Qh(hS:∀i,S i→w0.heap.size≤i∧i<w.heap.size)(hw:w0.heap.size≤w.heap.size)(hb:Below w0.heap.size w0 A):Ev M w0 (oK M S w) A:=⟨ag.aj hb,fun i hi=>by
 rcases hi with hi|hi|hi
 ·exact .inl hi
 ·exact .inr (hS i hi).1
 ·exact .inr (by have:=hi.1;omega)⟩
theorem qo.next(h:qo l (oK M S w) p w0 w fv cv i fvc A){Vs:Value}{j:Nat}(hs:ae (oK M S w) A Vs (aI l j).fields)(hw:w0.heap.size≤w.heap.size)(hp:p<w.heap.size)
 (hB:B=(A.setCell ⟨w.heap.size+2,0,none⟩ (.string l.first.name)).setCell ⟨w.heap.size+2,1,none⟩ Vs):qo l (oK M S w) p w0 w fv cv j Vs B∧ag (PR w 1) A B:=by
 subst hB
 have ho:ag (PR w 1) A ((A.setCell ⟨w.heap.size+2,0,none⟩ (.string l.first.name)).setCell ⟨w.heap.size+2,1,none⟩ Vs):=((ag.refl (PR w 1) A).setCell (p:=⟨w.heap.size+2,0,none⟩) (.inl ⟨by simp,by simp⟩) _).setCell (p:=⟨w.heap.size+2,1,none⟩) (.inl ⟨by simp,by simp⟩) _
 refine⟨⟨h.below.trans ((((Below.refl _ _).setCell (by show w0.heap.size≤w.heap.size+2;omega) _).setCell (by show w0.heap.size≤w.heap.size+2;omega) _)),ho.at_ h.line (fun h=>by have:=h.1;omega),sV h.cls _ _,hs.ev ⟨ho.mono fun j hj=> .inr (.inr ⟨by have:=hj.1;omega,by have:=hj.2;omega⟩),fun j hj=> .inl hj⟩⟩,ho⟩
end
theorem lN(l:aE)(hl:du l)(M S:Nat→Prop)(p:Nat)(w0 w:World)(hM:Bd M w0)(hw:Below w0.heap.size w0 w)(hT:Tb w0)(fv cv:Value)(bz:ae M w0 fv l.first.fields)(bE:ae M w0 cv l.changes)
 (hp:w.heap[p]? =some (bY l.first.name fv cv))(Xv:¬S p)(hS:∀i,S i→w0.heap.size≤i∧i<w.heap.size):
 KR Tryz.prog 121 #[.pointer (some ⟨p,0,none⟩)] w S 1 0 (mZ l (oK M S w)) (fun i=>i=l.changes.length+1):=by
 intro J Jx W hz hb hJ Pe hY h0
 have HJ:=hD hJ
 have HJX:=hD Pe
 have HY:=hD hY
 have CD:=hw.size
 have gy:p<w.heap.size:=(Array.getElem?_eq_some_iff.1 hp).1
 have NU:Hid (W.heap[p]? =some (bY l.first.name fv cv)):=(show _=_ from(hb.block p gy).trans hp)
 have FP:Hid (Below w0.heap.size w0 W):=(show Below _ _ _ from hw.trans (hb.mono CD))
 have h5:=hl.len
 have HR:Hid (∀A,Below w0.heap.size w0 A→Calls Tryz.prog 95 #[.agg #[.string l.first.name,fv]] A fun e w'=>e= .returned (.bool true)∧Below A.heap.size A w'):=(show∀A,_→_ from fun A hb=>by
  have h:=eY M fv A l.first (bz.below hb) (bQ hl.first.small)
  rw[hl.first.right]at h;exact h)
 have oZ:Hid (∀(i:Nat)(x:aq)A fvc,l.changes[i]? =some x→Below w0.heap.size w0 A→w.heap.size+2<A.heap.size→ae (oK M S w) A fvc (aI l i).fields→Calls Tryz.prog 122 #[.agg #[.string l.first.name,fvc], .agg #[.int .i64 x.kind, .string x.field, .string x.name, .string x.more, .int .i64 x.type.kind, .int .i64 x.type.of, .string x.expr, .string x.other]] A (aF A fun v w'=>∃jc,v= .tuple #[.agg #[.string l.first.name,jc], .int .i64 0]∧ae (oK M S w) w' jc (aI l (i+1)).fields)):=(show∀(i:Nat)(x:aq)A fvc,_→_→_→_→_ from fun i x A fvc hx hb hA hs=>by
  obtain⟨h1,h2,h3⟩:=hl.step hx
  have h:=Hx (oK M S w) A (Qg hM hS CD hA) (aI l i) (hl.mL i) x h1 h2 fvc hs (hT.below hb)
  rw[hl.name i]at h
  rw[h3]
  exact h)
 have x9:Hid (∀k x,l.changes[k]? =some x→_):=(show∀k x,_→_ from fun k x h=>pS bE h)
 have Vt:Hid (∀A,Below w0.heap.size w0 A→ae (oK M S w) A fv (aI l 0).fields):=(show∀A,_→_ from fun A hb=>bz.ev (Qh hS CD hb))
 have Us:=hD h0
 obtain⟨fa,fc,rfl,_⟩:=bz.open_
 obtain⟨ca,cc,rfl,_⟩:=bE.open_
 obtain⟨l0,l1,l2⟩:=ay NU.out
 clear hJ Pe hY h0 hT hp hb bz bE hw hl
 refine callsIn_of_wp Tryz.func121 rfl trivial ?_ rfl
 simp only[Tryz.ntmps121,List.size_toArray,List.length_cons,List.length_nil,Nat.reduceAdd,Nat.reduceSub,Array.replicate_succ,Array.replicate_zero,List.push_toArray,List.append_toArray,List.nil_append,List.cons_append]
 gi_wp2_with fail
 obtain⟨W1,ib⟩:∃W1:World,W1=W.alloc (cg l.first.name (.slice fa l.first.fields.length fc)):=⟨_,rfl⟩
 have Ov:Below W.heap.size W W1:=by rw[ib];exact(Below.refl _ _).alloc (Nat.le_refl _) _
 have hB1:Below w0.heap.size w0 W1:=FP.out.trans (Ov.mono (by omega))
 have Pn:Hid (qo l (oK M S w) p w0 w (.slice fa l.first.fields.length fc) (.slice ca l.changes.length cc) 0 (.slice fa l.first.fields.length fc) W1):=(show qo _ _ _ _ _ _ _ _ _ _ from⟨hB1,(Ov.block p (by omega)).trans NU.out,by rw[ib,←hz];exact heap_alloc_new W _,Vt.out W1 hB1⟩)
 have Pf:Hid (J 0 W1):=(show J 0 W1 from HJ.out 0 W W1 Us.out (ag.aj Ov))
 unfold cg at ib
 rw[←ib]
 clear ib Ov hB1 l0 l1 l2
 refine⟨trivial,rfl,(callsIn_wide.2 (HR.out _ Pn.out.below)).mono ?_⟩
 rintro e w1⟨rfl,aw⟩
 have HV2:=hD (Pn.out.own aw CD gy)
 have HJ2:Hid (J 0 w1):=(show J 0 w1 from HJ.out 0 W1 w1 Pf.out (ag.aj aw))
 obtain⟨c0,c1⟩:=af HV2.out.cls
 obtain⟨fn,tmps,assign,body,hy,hR⟩:=HY.out 0 #[.agg #[.string l.first.name, .slice fa l.first.fields.length fc], .int .i64 0] 1 w1 HJ2.out ⟨rfl,Nat.zero_le _,_,rfl,HV2.out.sl⟩
 have mr:=hD hR
 clear hR aw
 gi_wp2_with fail
 refine⟨rfl,mr.out.mono ?_⟩
 rintro e W3(⟨rfl,Pg,zF⟩|⟨rfl,Ck⟩)
 ·have SD:=hD Pg
  have UM:=hD (HV2.out.round zF hS CD gy Xv)
  obtain⟨l0,l1,l2⟩:=ay UM.out.line
  clear Pg zF hy c0 c1
  gi_wp2_with fail
  gi_loopw [4,6,24](fun e4 _ k wr=>∃(i n cap:Nat)(a:Option Addr),e4= .int .i64 0∧k= .int .i64 i∧i≤l.changes.length∧Hid (J (i+1) wr)∧Hid (qo l (oK M S w) p w0 w (.slice fa l.first.fields.length fc) (.slice ca l.changes.length cc) i (.slice a n cap) wr))(fun _ _ k _=>l.changes.length-(intOf k).toNat)
  case atStart=>exact⟨0,l.first.fields.length,fc,fa,rfl,rfl,Nat.zero_le _,SD,UM⟩
  case round=>
   obtain⟨i,n,cap,a,rfl,rfl,hi,HJi,Xx⟩:=hrel
   clear l0 l1 l2
   by_cases aT:i<l.changes.length
   ·obtain⟨x,hx⟩:∃x,l.changes[i]? =some x:=⟨_,List.getElem?_eq_getElem aT⟩
    obtain⟨b,off,dE,rH,bZ,ao⟩:=x9.out i x hx
    obtain⟨rfl,rfl⟩:ca=some ⟨b,off,none⟩∧cc=dE:=by simpa using rH
    obtain⟨q0,q1,q2,q3,q4,q5,q6,q7⟩:=ao wr Xx.out.below
    have hzr:=Xx.out.size
    have Xy:=fun o=>Xx.out.own ((Below.refl wr.heap.size wr).alloc (Nat.le_refl _) o) CD gy
    have d0:=fun o=>(af (Xy o).cls).1
    have d1:=fun o=>(af (Xy o).cls).2
    have Vu:=hD (Xy (qE x))
    have Xz:Hid (J (i+1) (wr.alloc (qE x))):=(show J _ _ from HJ.out _ wr _ HJi.out (ag.aj ((Below.refl wr.heap.size wr).alloc (Nat.le_refl _) _)))
    have aS:=hD (oZ.out i x (wr.alloc (qE x)) _ hx Vu.out.below Vu.out.size Vu.out.sl)
    unfold qE at Vu Xz aS
    clear rH ao hx Xy
    gi_wp2_with fail
    refine⟨trivial,rfl,(callsIn_wide.2 aS.out).mono ?_⟩
    rintro e w6⟨_,rfl,⟨Vs,rfl,WB⟩,qy⟩
    obtain⟨ya,yc,rfl,_⟩:=WB.open_
    have SQ:=hD (Vu.out.own qy CD gy)
    have HJ6:Hid (J (i+1) w6):=(show J _ _ from HJ.out _ _ w6 Xz.out (ag.aj qy))
    have RF:=hD WB
    obtain⟨m0,m1⟩:=af SQ.out.cls
    have f0:=aa SQ.out.cls 0
    have f1:=aa SQ.out.cls 1
    obtain⟨W7,vD⟩:∃W7:World,W7=(w6.setCell ⟨w.heap.size+2,0,none⟩ (.string l.first.name)).setCell ⟨w.heap.size+2,1,none⟩ (.slice ya (aI l (i+1)).fields.length yc):=⟨_,rfl⟩
    obtain⟨hv7,Le⟩:=SQ.out.next (j:=i+1) RF.out CD gy vD
    have Vv:=hD hv7
    have HJ7:Hid (J (i+1) W7):=(show J _ _ from HJ.out _ _ W7 HJ6.out Le)
    obtain⟨fn,tmps,assign,body,hy,hR⟩:=HY.out (i+1) #[.agg #[.string l.first.name, .slice ya (aI l (i+1)).fields.length yc], .int .i64 0] (i+1+1) W7 HJ7.out ⟨rfl,aT,_,rfl,Vv.out.sl⟩
    have QX:=hD hR
    obtain⟨s0,s1⟩:=af Vv.out.cls
    have rG:=hD vD
    clear WB qy hv7 Le hR d0 d1 q0 q1 q2 q3 q4 q5 q6 q7 vD
    gi_upto_region 8 with fail
    rw[←rG.out]
    clear m0 m1 f0 f1
    gi_wp2_with fail
    refine⟨rfl,QX.out.mono ?_⟩
    rintro e W9(⟨rfl,hJ9,hk9⟩|⟨rfl,Vw⟩)
    ·have RD:=hD hJ9
     have HV9:=hD (Vv.out.round hk9 hS CD gy Xv)
     clear hJ9 hk9 hy s0 s1
     gi_wp2_with fail
     go_roundw
     case rel=>exact⟨i+1,_,yc,ya,rfl,by go_num,aT,RD,HV9⟩
     case measure=>simp[intOf];omega
    ·have qag:=hD Vw
     clear Vw hy
     gi_wp2_with fail
     refine bodyPost_ret (results_none rfl _ _ _) rfl ?_
     exact⟨⟨_,rfl⟩, .inr qag.out⟩
   ·obtain rfl:i=l.changes.length:=by omega
    have HJe:=HJi
    clear Xx HJi oZ x9 HR HY Vt NU FP SD UM
    gi_wp2_with fail
    refine bodyPost_end (results_none rfl _ _ _) rfl ?_
    exact⟨⟨_,rfl⟩, .inl ⟨_,rfl,HJe.out⟩⟩
 ·have LD:=hD Ck
  clear Ck hy
  gi_wp2_with fail
  refine bodyPost_ret (results_none rfl _ _ _) rfl ?_
  exact⟨⟨_,rfl⟩, .inr LD.out⟩
end
theorem nb {l:aE}{N:Nat→Prop}{i:Nat}{args:Array Value}{j:Nat}{A:World}(h:mZ l N i args j A):args.size=2:=by obtain⟨_,_,_,rfl,_⟩:=h;rfl
theorem Hy(l:aE)(hl:du l)(M:Nat→Prop)(w:World)(hM:Bd M w)(hT:Tb w)(fv cv:Value)(bz:ae M w fv l.first.fields)(bE:ae M w cv l.changes):
 Calls Tryz.prog 66 #[.agg #[.string l.first.name,fv,cv]] w fun e w'=>e= .returned (.bool true)∧Below w.heap.size w w':=by
 have h5:=hl.len
 have vu:Hid (∀p W,Below w.heap.size w W→W.heap[p]? =some (bY l.first.name fv cv)→KR Tryz.prog 121 #[.pointer (some ⟨p,0,none⟩)] W (fun _=>False) 1 0 (mZ l (oK M (fun _=>False) W)) (fun i=>i=l.changes.length+1)):=(show∀p W,_→_→_ from fun p W h1 h2=>
  lN l hl M (fun _=>False) p w W hM h1 hT fv cv bz bE h2 (fun h=>h) (fun i h=>h.elim))
 obtain⟨fa,fc,rfl,_⟩:=bz.open_
 obtain⟨ca,cc,rfl,_⟩:=bE.open_
 have WO:(l.changes.length:Int)≤12:=by omega
 clear bz bE hM hT hl
 refine callsIn_wide.1 (callsIn_of_wp_marks (n:=0) Tryz.func66 rfl trivial (wpIn_wide.2 ?_) rfl)
 simp only[Tryz.ntmps66,List.size_toArray,List.length_cons,List.length_nil,Nat.reduceAdd,Nat.reduceSub,Array.replicate_succ,Array.replicate_zero,List.push_toArray,List.append_toArray,List.nil_append,List.cons_append]
 go_wp2_with fail
 refine(mY _ _ _ _).mono ?_
 rintro e w2⟨rfl,rfl⟩
 go_wp2_with fail
 obtain⟨w2,kV⟩:∃w2:World,w2=((w.alloc (bY l.first.name (.slice fa l.first.fields.length fc) (.slice ca l.changes.length cc))).alloc (IH false)).alloc (bY l.first.name (.slice fa l.first.fields.length fc) (.slice ca l.changes.length cc)):=⟨_,rfl⟩
 have aA:Hid (Bx w [bY l.first.name (.slice fa l.first.fields.length fc) (.slice ca l.changes.length cc),IH false,bY l.first.name (.slice fa l.first.fields.length fc) (.slice ca l.changes.length cc)] w2):=(show Bx _ _ _ by rw[kV];exact Bx.fB w _ _ _)
 have dL:w2.heap.size=w.heap.size+3:=by rw[kV];simp
 unfold bY at kV⊢
 unfold IH at kV
 rw[←kV]
 clear kV
 have N8:=Lib.hid (vu.out _ w2 aA.out.1 (aA.out.df rfl))
 refine wpIn_wide.1 (oV rfl (enters_of Tryz.func121 (by kernel_rfl) rfl) (fun _=>False) 1 0 (mZ l (oK M (fun _=>False) w2)) (fun i=>i=l.changes.length+1) N8.out (fun i args i' W h=>nb h) (fun i hi=>hi.elim)
  (fun _ W=>Bx w [bY l.first.name (.slice fa l.first.fields.length fc) (.slice ca l.changes.length cc),IH false,bY l.first.name (.slice fa l.first.fields.length fc) (.slice ca l.changes.length cc)] W) (fun _ _=>False) (fun i A B h ho=>h.only ho (fun j hj=>by have:=hj.1;simp;omega)) (fun c A B h _=>h) (show Bx _ _ _ from aA.out) ?hround ?hdone ?hstop)
 case hstop=>intro c W h;exact h.elim
 case hround=>
  intro k i args i' W hI Ip cB
  obtain⟨rfl,hi,jc,rfl,_⟩:=Ip
  have HI:=Lib.hid hI
  clear hI
  gi_wp2_with(rw[Oper.semAt_eq _ _ _ (fun c h=>by cases h)];go_simp;try go_bits)
  refine⟨ag.refl _ _,fun W2 fK IQ=> ?_⟩
  have mi:Hid (Bx w [bY l.first.name (.slice fa l.first.fields.length fc) (.slice ca l.changes.length cc),IH false,bY l.first.name (.slice fa l.first.fields.length fc) (.slice ca l.changes.length cc)] W2):=(show Bx _ _ _ from HI.out.only fK (fun j hj=>by have:j=w2.heap.size+1:=hj;simp;omega))
  clear fK
  gi_wp2_with(rw[Oper.semAt_eq _ _ _ (fun c h=>by cases h)];go_simp;try go_bits)
  exact⟨ag.refl _ _,mi.out⟩
 case hdone=>
  intro i W hE hI hD
  have HI:=Lib.hid hI
  have HD:=Lib.hid hD
  clear hI hD
  have b0:W.cell? ⟨w.heap.size+1,0,none⟩=some (.bool false):=one_cell (HI.out.bh rfl)
  have f0:=aa (HI.out.bh rfl) 0
  go_wp2_with fail
  obtain⟨W',gX⟩:∃W':World,W'=W.setCell ⟨w.heap.size+1,0,none⟩ (.bool true):=⟨_,rfl⟩
  have o1:ag (fun j=>j=w.heap.size+1) W W':=by rw[gX];exact(ag.refl (fun j=>j=w.heap.size+1) W).setCell (p:=⟨w.heap.size+1,0,none⟩) (.inl rfl) _
  have g1:W'.heap[w.heap.size+1]? =some (IH true):=by
   rw[gX]
   have:=heap_setCell_same W (w.heap.size+1) 0 _ _ (.bool true) (HI.out.bh rfl)
   simpa [IH]using this
  rw[←gX]
  have gd:=o1.at_ HD.out (by omega)
  refine⟨by simp, .inl ⟨_,_,rfl,run_takeDeferred gd,?_⟩⟩
  obtain⟨W2,sP⟩:∃W2:World,W2=W'.putObj w2.heap.size (.deferred none):=⟨_,rfl⟩
  have o2:ag (fun j=>j=w2.heap.size) W' W2:=by rw[sP];exact(ag.refl (fun j=>j=w2.heap.size) W').putObj (.inl rfl) _
  have k1:=one_cell (o2.at_ g1 (by omega))
  rw[←sP]
  refine⟨.bool true,by simp[results,Tryz.results66,go_sem,k1],rfl,?_⟩
  exact cA (cA HI.out.1 HI.out.1.size o1 (fun j hj=>by have:j=w.heap.size+1:=hj;omega)) (Nat.le_trans HI.out.1.size o1.size) o2 (fun j hj=>by have:j=w2.heap.size:=hj;omega)
def km(n:Int):Obj:= .cells #[.int .i64 n] 3 (0,0)
def KS(w:World):Nat→Prop:=fun j=>j=w.heap.size+1+1∨j=w.heap.size+1+1+1
def Wh(l:aE)(ver:Nat)(N:Nat→Prop)(w:World)(c:Code)(W:World):Prop:=
 c= .ret∧Below w.heap.size w W∧∃a n cap,W.heap[w.heap.size+1+1]? =some (cg l.first.name (.slice a n cap))∧ae N W (.slice a n cap) (aI l ver).fields
theorem Wh.only {l:aE}{ver:Nat}{N:Nat→Prop}{w A B:World}{c:Code}{S:Nat→Prop}(h:Wh l ver N w c A)(ho:ag S A B)(hS:∀j,S j→w.heap.size+3≤j∧N j):Wh l ver N w c B:=by
 obtain⟨h1,h2,a,n,cap,h3,h4⟩:=h
 exact⟨h1,cA h2 h2.size ho (fun j hj=>by have:=(hS j hj).1;omega),a,n,cap,ho.at_ h3 (fun h=>by have:=(hS _ h).1;omega),h4.ev ⟨ho.mono fun j hj=>(hS j hj).2,fun j hj=> .inl hj⟩⟩
theorem NB(l:aE)(hl:du l)(ver:Nat)(hv:ver≤l.changes.length)(M:Nat→Prop)(w:World)(hM:Bd M w)(hT:Tb w)(fv cv:Value)(bz:ae M w fv l.first.fields)(bE:ae M w cv l.changes):
 Calls Tryz.prog 127 #[.agg #[.string l.first.name,fv,cv], .int .i64 ver] w (aF w fun v w'=>∃jc,v= .agg #[.string l.first.name,jc]∧ae M w' jc (aI l ver).fields):=by
 have h5:=hl.len
 have vu:Hid (∀p W,Below w.heap.size w W→w.heap.size+5=W.heap.size→p=w.heap.size+1+1+1+1→W.heap[p]? =some (bY l.first.name fv cv)→KR Tryz.prog 121 #[.pointer (some ⟨p,0,none⟩)] W (KS w) 1 0 (mZ l (oK M (KS w) W)) (fun i=>i=l.changes.length+1)):=(show∀p W,_→_→_→_→_ from fun p W h1 h3 h4 h2=>
  lN l hl M (KS w) p w W hM h1 hT fv cv bz bE h2 (fun h=>by rcases h with h|h<;>omega) (fun i h=>by rcases h with h|h<;>omega))
 obtain⟨fa,fc,rfl,_⟩:=bz.open_
 obtain⟨ca,cc,rfl,_⟩:=bE.open_
 clear bz bE hM hT hl
 obtain⟨os,MF⟩:∃os:Int→List Obj,os=fun k=>[bY l.first.name (.slice fa l.first.fields.length fc) (.slice ca l.changes.length cc),km ver,cg ⟨#[]⟩ (.slice none 0 0),km k,bY l.first.name (.slice fa l.first.fields.length fc) (.slice ca l.changes.length cc)]:=⟨_,rfl⟩
 refine callsIn_wide.1 (callsIn_of_wp_marks (n:=0) Tryz.func127 rfl trivial (wpIn_wide.2 ?_) rfl)
 simp only[Tryz.ntmps127,List.size_toArray,List.length_cons,List.length_nil,Nat.reduceAdd,Nat.reduceSub,Array.replicate_succ,Array.replicate_zero,List.push_toArray,List.append_toArray,List.nil_append,List.cons_append]
 go_wp2_with fail
 refine(mY _ _ _ _).mono ?_
 rintro e w2⟨rfl,rfl⟩
 go_wp2_with fail
 obtain⟨w2,kV⟩:∃w2:World,w2=((((w.alloc (bY l.first.name (.slice fa l.first.fields.length fc) (.slice ca l.changes.length cc))).alloc (km ver)).alloc (cg ⟨#[]⟩ (.slice none 0 0))).alloc (km 0)).alloc (bY l.first.name (.slice fa l.first.fields.length fc) (.slice ca l.changes.length cc)):=⟨_,rfl⟩
 have aA:Hid (Bx w (os 0) w2):=(show Bx _ _ _ by rw[kV,MF];exact Bx.S5 w _ _ _ _ _)
 have dL:w2.heap.size=w.heap.size+5:=by rw[kV];simp
 unfold bY at kV⊢
 unfold km cg at kV
 rw[←kV]
 clear kV
 have N8:=Lib.hid (vu.out _ w2 aA.out.1 dL.symm rfl (by have h:=aA.out.at4 (o:=bY l.first.name (.slice fa l.first.fields.length fc) (.slice ca l.changes.length cc)) (by rw[MF];rfl);exact h))
 refine wpIn_wide.1 (oV rfl (enters_of Tryz.func121 (by kernel_rfl) rfl) (KS w) 1 0 (mZ l (oK M (KS w) w2)) (fun i=>i=l.changes.length+1) N8.out (fun i args i' W h=>nb h) (fun i hi=>by rcases hi with hi|hi<;>omega)
  (fun i W=>i≤ver∧Bx w (os i) W) (Wh l ver (oK M (KS w) w2) w) (fun i A B h ho=>⟨h.1,h.2.only ho (fun j hj=>by have:=hj.1;rw[MF];simp;omega)⟩) (fun c A B h ho=>h.only ho (fun j hj=>⟨by have:=hj.1;omega, .inr (.inr hj)⟩)) ⟨Nat.zero_le _,aA.out⟩ ?hround ?hdone ?hstop)
 case hdone=>
  intro i W hE hI hD
  exfalso
  have:=hI.1
  omega
 case hround=>
  intro k i args i' W hI Ip cB
  obtain⟨rfl,hi,jc,rfl,aU⟩:=Ip
  obtain⟨hiv,kr⟩:=hI
  obtain⟨ya,yc,rfl,_⟩:=aU.open_
  have HI:=Lib.hid kr
  have eM:=Lib.hid aU
  clear kr aU
  gi_wp2_with(rw[Oper.semAt_eq _ _ _ (fun c h=>by cases h)];go_simp;try go_bits)
  refine⟨(ag.refl _ W).alloc _,fun W2 fK IQ=> ?_⟩
  have mi:Hid (Bx w (os i) W2):=(show Bx _ _ _ from(HI.out.alloc _).only fK (fun j hj=>by have:j=w2.heap.size+1:=hj;rw[MF];simp;omega))
  have NX:=Lib.hid (fK.at_ (heap_alloc_new W (cg l.first.name (.slice ya (aI l i).fields.length yc))) (by show¬W.heap.size=w2.heap.size+1;omega))
  have L4:Hid (ae (oK M (KS w) w2) W2 (.slice ya (aI l i).fields.length yc) (aI l i).fields):=(show ae _ _ _ _ from eM.out.ev ⟨((ag.refl _ W).alloc _).trans (fK.mono fun j hj=> .inr (.inr (by have:j=w2.heap.size+1:=hj;exact⟨by omega,by omega⟩))),fun j hj=> .inl hj⟩)
  obtain⟨p0,p1⟩:=af NX.out
  have v0:W2.cell? ⟨w.heap.size+1,0,none⟩=some (.int .i64 ver):=one_cell (mi.out.bh (by rw[MF];rfl))
  have t0:W2.cell? ⟨w.heap.size+1+1+1,0,none⟩=some (.int .i64 i):=one_cell (mi.out.Gr (by rw[MF];rfl))
  have t1:=aa (mi.out.Gr (o:=km i) (by rw[MF];rfl)) 0
  have qv:=mi.out.df (o:=cg ⟨#[]⟩ (.slice none 0 0)) (by rw[MF];rfl)
  have vH:=Lib.hid qv
  obtain⟨r0,r1⟩:=af qv
  have f0:=aa qv 0
  have f1:=aa qv 1
  clear fK qv
  by_cases he:i=ver
  ·subst he
   gi_wp2_with(rw[Oper.semAt_eq _ _ _ (fun c h=>by cases h)];go_simp;try go_bits)
   obtain⟨B,hB⟩:∃B:World,B=(W2.setCell ⟨w.heap.size+1+1,0,none⟩ (.string l.first.name)).setCell ⟨w.heap.size+1+1,1,none⟩ (.slice ya (aI l i).fields.length yc):=⟨_,rfl⟩
   have o1:ag (KS w) W2 B:=by rw[hB];exact((ag.refl (KS w) W2).setCell (p:=⟨w.heap.size+1+1,0,none⟩) (.inl (.inl rfl)) _).setCell (p:=⟨w.heap.size+1+1,1,none⟩) (.inl (.inl rfl)) _
   have g1:B.heap[w.heap.size+1+1]? =some (cg l.first.name (.slice ya (aI l i).fields.length yc)):=by rw[hB];exact sV vH.out _ _
   rw[←hB]
   exact⟨o1,rfl,cA mi.out.1 mi.out.1.size o1 (fun j hj=>by rcases hj with hj|hj<;>omega),ya,_,yc,g1,L4.out.ev ⟨o1.mono fun j hj=> .inr (.inl hj),fun j hj=> .inl hj⟩⟩
  ·have he2:((i:Int)==(ver:Int))=false:=by simp;omega
   gi_wp2_with(rw[Oper.semAt_eq _ _ _ (fun c h=>by cases h)];go_simp;try go_bits)
   obtain⟨B,hB⟩:∃B:World,B=W2.setCell ⟨w.heap.size+1+1+1,0,none⟩ (.int .i64 ((i:Int)+1)):=⟨_,rfl⟩
   have o1:ag (KS w) W2 B:=by rw[hB];exact(ag.refl (KS w) W2).setCell (p:=⟨w.heap.size+1+1+1,0,none⟩) (.inl (.inr rfl)) _
   have g1:Bx w (os ((i+1:Nat):Int)) B:=by
    have h:=mi.out.set 3 0 (cs:= #[.int .i64 (i:Int)]) (t:=3) (by rw[MF];rfl) (.int .i64 ((i:Int)+1))
    rw[hB]
    rw[MF]at h⊢
    exact h
   rw[←hB]
   exact⟨o1,by omega,g1⟩
 case hstop=>
  intro c W hX hD
  obtain⟨rfl,hb,a,n,cap,h1,h2⟩:=hX
  have HD:=Lib.hid hD
  refine wpIn_wide.2 ?_
  dsimp only
  go_wp2_with fail
  obtain⟨W2,sP⟩:∃W2:World,W2=W.putObj w2.heap.size (.deferred none):=⟨_,rfl⟩
  have o2:ag (fun j=>j=w2.heap.size) W W2:=by rw[sP];exact(ag.refl (fun j=>j=w2.heap.size) W).putObj (.inl rfl) _
  obtain⟨k0,k1⟩:=af (o2.at_ h1 (by omega))
  refine⟨by simp, .inl ⟨_,_,rfl,run_takeDeferred HD.out,?_⟩⟩
  rw[←sP]
  refine⟨.agg #[.string l.first.name, .slice a n cap],by simp[results,Tryz.results127,go_sem,k0,k1],_,rfl,⟨_,rfl,(h2.ev ⟨o2.mono fun j hj=> .inr (.inr (by have:j=w2.heap.size:=hj;exact⟨by omega,by omega⟩)),fun j hj=> .inl hj⟩).ev (Ev.ee W2 fun j hj=> .inl hj)⟩,?_⟩
  exact cA hb hb.size o2 (fun j hj=>by have:j=w2.heap.size:=hj;omega)
theorem KT(M:Nat→Prop)(v:Value)(w:World)(ls:List aE)(name:ByteArray)(hs:ae M w v ls)(h8:ls.length≤8)(n:Nat)(hn:dC ls name=n):
 Calls Tryz.prog 65 #[.agg #[v], .string name] w fun e w'=>e= .returned (.tuple #[.int .i64 n, .bool true])∧Below w.heap.size w w':=by
 have HL:Hid (∀k l,ls[k]? =some l→_):=(show∀k l,_→_ from fun k l h=>eE hs h)
 obtain⟨a,bu,rfl,cq,hm,_⟩:=hs.open_
 have HN:=hD hn
 clear hs hn
 go_enter Tryz.func65,Tryz.ntmps65
 go_wp2_with fail
 go_loopg [4,5,6,7,11]ls.length(fun g r4 r5 _ _ iv wr=>∃k:Nat,k≤ls.length∧g=ls.length-k∧iv= .int .i64 k∧r4= .int .i64 0∧r5= .bool false∧Hid (Bx w [eW (.slice a ls.length bu)] wr)∧Hid (∀y∈ls.take k,bD y.first.name name=false))
 case atStart=>exact⟨0,Nat.zero_le _,rfl,rfl,rfl,rfl,(show Bx _ _ _ from Bx.fA w _),(show∀y∈_,_ from fun y hy=>by simp at hy)⟩
 case round=>
  obtain⟨k,hk,rfl,rfl,rfl,rfl,HX,HK⟩:=hrel
  have oN:=one_cell (HX.out.bJ rfl)
  by_cases aT:k<ls.length
  ·obtain⟨l,hl⟩:∃l,ls[k]? =some l:=⟨_,List.getElem?_eq_getElem aT⟩
   obtain⟨b,off,cap,fa,fc,ca,cc,hv,bZ,_,_,_,ao⟩:=HL.out k l hl
   obtain⟨rfl,rfl⟩:a=some ⟨b,off,none⟩∧bu=cap:=by simpa using hv
   obtain⟨q0,q1,q2⟩:=ao wr HX.out.1
   have jN:=hD (HX.out.alloc (.cells #[.string l.first.name, .slice fa l.first.fields.length fc, .slice ca l.changes.length cc] 94))
   clear ao hv
   have zW:=hD hl;clear hl
   by_cases hq:(l.first.name.toList==name.toList)=true
   ·have e0:dC ls name=k:=idxOf_hit (p:=fun l:aE=>bD l.first.name name) HK.out zW.out hq
    have O9:=hD e0
    clear e0
    go_wp2_with fail
    go_ret2
    exact⟨tB (by have:=O9.out;have:=HN.out;omega) rfl,jN.out.1⟩
   ·go_wp2_with fail
    go_roundg(ls.length-(k+1))
    case measure=>omega
    case rel=>
     refine⟨k+1,by omega,rfl,by go_num,rfl,rfl,jN,(show∀y∈ls.take (k+1),_ from fun y hy=> ?_)⟩
     rw[List.take_add_one,zW.out]at hy
     rcases List.mem_append.1 hy with hy|hy
     ·exact HK.out y hy
     ·simp at hy;subst hy;simpa [bD]using hq
  ·exfalso
   have e0:dC ls name= -1:=jt (p:=fun l:aE=>bD l.first.name name) (by have:=HK.out;rw[show k=ls.length from by omega,List.take_length]at this;exact this)
   have:=HN.out
   omega
theorem xO(ls:List aE)(h:dV ls)(M:Nat→Prop)(w:World)(hM:Bd M w)(hT:Tb w)(v:Value)(hs:ae M w v ls):
 Calls Tryz.prog 39 #[.agg #[v]] w fun e w'=>e= .returned (.tuple #[.int .i64 0, .int .i64 0])∧Below w.heap.size w w':=by
 have h4:=h.len
 have HL:Hid (∀k l,ls[k]? =some l→_):=(show∀k l,_→_ from fun k l h=>eE hs h)
 have dZ:Hid (∀(k:Nat)(l:aE)W(fv cv:Value),ls[k]? =some l→Below w.heap.size w W→ae M w fv l.first.fields→ae M w cv l.changes→_):=(show∀(k:Nat)(l:aE)W(fv cv:Value),_→_→_→_→_ from fun k l W fv cv hk hb h1 h2=>Hy l (h.lines l (List.mem_of_getElem? hk)) M W (hM.below hb) (hT.below hb) fv cv (h1.below hb) (h2.below hb))
 have HF:Hid (∀(k:Nat)(l:aE)W,ls[k]? =some l→Below w.heap.size w W→_):=(show∀(k:Nat)(l:aE)W,_→_→_ from fun k l W hk hb=>KT M v W ls l.first.name (hs.below hb) (by omega) k (h.apart k l hk))
 obtain⟨a,bu,rfl,cq,hm,_⟩:=hs.open_
 have h8:(ls.length:Int)≤8:=by omega
 clear hs h
 go_enter Tryz.func39,Tryz.ntmps39
 go_wp2_with fail
 go_loopg [2,3,4,5,6,7,15]ls.length(fun g r2 r3 _ _ _ _ iv wr=>∃k:Nat,k≤ls.length∧g=ls.length-k∧iv= .int .i64 k∧r2= .int .i64 0∧r3= .int .i64 0∧Hid (Bx w [eW (.slice a ls.length bu)] wr))
 case atStart=>exact⟨0,Nat.zero_le _,rfl,rfl,rfl,rfl,(show Bx _ _ _ from Bx.fA w _)⟩
 case round=>
  obtain⟨k,hk,rfl,rfl,rfl,rfl,HX⟩:=hrel
  have oN:=one_cell (HX.out.bJ rfl)
  by_cases aT:k<ls.length
  ·obtain⟨l,hl⟩:∃l,ls[k]? =some l:=⟨_,List.getElem?_eq_getElem aT⟩
   obtain⟨b,off,cap,fa,fc,ca,cc,hv,bZ,pj,gz,_,ao⟩:=HL.out k l hl
   obtain⟨rfl,rfl⟩:a=some ⟨b,off,none⟩∧bu=cap:=by simpa using hv
   obtain⟨q0,q1,q2⟩:=ao wr HX.out.1
   have N4:Hid (∀W,Below w.heap.size w W→_):=(show∀W,_→_ from fun W hb=>dZ.out k l W _ _ hl hb pj gz)
   have oO:=hD (fun W hb=>HF.out k l W hl hb)
   have QR:=fun o=>one_cell ((HX.out.alloc o).bJ rfl)
   clear pj gz hv hl ao
   go_upto_region 6 with fail
   obtain⟨W5,jQ⟩:∃W5:World,W5=wr.alloc (.cells #[.string l.first.name, .slice fa l.first.fields.length fc, .slice ca l.changes.length cc] 94):=⟨_,rfl⟩
   have zS:Hid (Bx w [eW (.slice (some ⟨b,off,none⟩) ls.length bu)] W5):=(show Bx _ _ _ by rw[jQ];exact HX.out.alloc _)
   have Vx:Hid (W5.heap[wr.heap.size]? =some (bY l.first.name (.slice fa l.first.fields.length fc) (.slice ca l.changes.length cc))):=(show _=_ by rw[jQ];exact heap_alloc_new wr _)
   rw[←jQ]
   clear jQ q0 q1 q2 oN QR
   generalize wr.heap.size=Q at*
   have oN:=one_cell (zS.out.bJ rfl)
   obtain⟨q0,q1,q2⟩:=ay Vx.out
   go_wp2_with fail
   refine(oO.out _ zS.out.1).mono ?_
   rintro e w6⟨rfl,qy⟩
   have SN:=hD (zS.out.below qy)
   have Xs:=hD ((qy.block Q (Array.getElem?_eq_some_iff.1 Vx.out).1).trans Vx.out)
   clear qy q0 q1 q2 oN
   obtain⟨q0,q1,q2⟩:=ay Xs.out
   go_wp2_with fail
   refine(N4.out _ SN.out.1).mono ?_
   rintro e w7⟨rfl,oP⟩
   have Z9:=hD (SN.out.below oP)
   clear oP
   go_wp2_with fail
   go_roundg(ls.length-(k+1))
   case measure=>omega
   case rel=>exact⟨k+1,by omega,rfl,by go_num,rfl,rfl,Z9⟩
  ·obtain rfl:k=ls.length:=by omega
   go_wp2_with fail
   go_ret2
   exact⟨rfl,HX.out.1⟩
theorem uT(ls:List aE)(h:dV ls)(n:Nat)(l:aE)(hn:ls[n]? =some l)(M:Nat→Prop)(w:World)(hM:Bd M w)(hT:Tb w)(v:Value)(hs:ae M w v ls):
 Calls Tryz.prog 72 #[.agg #[v], .int .i64 n] w fun e w'=>(∃fa fc ca cc,e= .returned (.tuple #[.agg #[.string l.first.name, .slice fa l.first.fields.length fc, .slice ca l.changes.length cc], .int .i64 0])∧ae M w (.slice fa l.first.fields.length fc) l.first.fields∧ae M w (.slice ca l.changes.length cc) l.changes)∧Below w.heap.size w w':=by
 have HC:Hid (∀W,Below w.heap.size w W→_):=(show∀W,_→_ from fun W hb=>xO ls h M W (hM.below hb) (hT.below hb) v (hs.below hb))
 have aT:=(List.getElem?_eq_some_iff.1 hn).1
 obtain⟨b,off,cap,fa,fc,ca,cc,rfl,bZ,pj,gz,_,ao⟩:=eE hs hn
 have oO:=hD pj
 have wA:=hD gz
 have vj:=hD ao
 have cQ:=hD (Bx.eO w (eW (.slice (some ⟨b,off,none⟩) ls.length cap)) (bY ⟨#[]⟩ (.slice none 0 0) (.slice none 0 0)))
 have dF:(0:Int)≤(n:Int):=Int.natCast_nonneg _
 have O0:(n:Int)<(ls.length:Int):=by omega
 clear hs h hn pj gz ao hM hT
 go_enter Tryz.func72,Tryz.ntmps72
 go_wp2_with fail
 refine(HC.out _ cQ.out.1).mono ?_
 rintro e w1⟨rfl,aw⟩
 have aO:=hD (cQ.out.below aw)
 have oN:=one_cell (aO.out.bJ rfl)
 obtain⟨q0,q1,q2⟩:=vj.out w1 aO.out.1
 obtain⟨r0,r1,r2⟩:=ay (aO.out.bh rfl)
 have f0:=aa (aO.out.bh rfl) 0
 have f1:=aa (aO.out.bh rfl) 1
 have f2:=aa (aO.out.bh rfl) 2
 clear aw
 go_wp2_with fail
 refine bodyPost_ret (v:= .tuple #[.agg #[.string l.first.name, .slice fa l.first.fields.length fc, .slice ca l.changes.length cc], .int .i64 0]) (by simp[results,Tryz.results72,go_sem,r0,r1,r2]) rfl ⟨⟨fa,fc,ca,cc,rfl,oO.out,wA.out⟩,lM aO.out.1 (by omega)⟩
theorem KU(ls:List aE)(h:dV ls)(n:Nat)(l:aE)(hn:ls[n]? =some l)(M:Nat→Prop)(w:World)(hM:Bd M w)(hT:Tb w)(v:Value)(hs:ae M w v ls):
 Calls Tryz.prog 49 #[.agg #[v], .int .i64 n] w fun e w'=>e= .returned (.tuple #[.int .i64 l.changes.length, .int .i64 0])∧Below w.heap.size w w':=by
 have HC:Hid (∀W,Below w.heap.size w W→_):=(show∀W,_→_ from fun W hb=>uT ls h n l hn M W (hM.below hb) (hT.below hb) v (hs.below hb))
 obtain⟨a,bu,rfl,cq,hm,_⟩:=hs.open_
 have cQ:=hD (Bx.fA w (eW (.slice a ls.length bu)))
 clear hs h hn hM hT
 go_enter Tryz.func49,Tryz.ntmps49
 go_wp2_with fail
 refine(HC.out _ cQ.out.1).mono ?_
 rintro e w1⟨⟨fa,fc,ca,cc,rfl,_,_⟩,aw⟩
 have aO:=hD (cQ.out.below aw)
 clear aw
 go_wp2_with fail
 go_ret2
 exact⟨rfl,(aO.out.alloc _).1⟩
theorem Qi(ls:List aE)(h:dV ls)(n:Nat)(l:aE)(hn:ls[n]? =some l)(ver:Nat)(hv:ver≤l.changes.length)(M:Nat→Prop)(w:World)(hM:Bd M w)(hT:Tb w)(v:Value)(hs:ae M w v ls):
 Calls Tryz.prog 96 #[.agg #[v], .int .i64 n, .int .i64 ver] w (aF w fun v w'=>∃jc,v= .tuple #[.agg #[.string l.first.name,jc], .int .i64 0]∧ae M w' jc (aI l ver).fields):=by
 have vo:=h.lines l (List.mem_of_getElem? hn)
 have HC:Hid (∀W,Below w.heap.size w W→w.heap.size+2≤W.heap.size→_):=(show∀W,_→_→_ from fun W hb hz=>uT ls h n l hn (eP M w 2) W (dS hM hz) (hT.below hb) v (hs.ev (dR hb)))
 have HMD:Hid (∀W fv cv,Below w.heap.size w W→w.heap.size+2≤W.heap.size→ae (eP M w 2) W fv l.first.fields→ae (eP M w 2) W cv l.changes→_):=(show∀W fv cv,_→_→_→_→_ from fun W fv cv hb hz h1 h2=>NB l vo ver hv (eP M w 2) W (dS hM hz) (hT.below hb) fv cv h1 h2)
 have h8:=((aZ (aI l ver)).1 (vo.mL ver).right).2.1
 have Lv:Hid (∀W fv,w.heap.size+2≤W.heap.size→ae (eP M w 2) W fv (aI l ver).fields→_):=(show∀W fv,_→_→_ from fun W fv hz h1=>vR l.first.name (aI l ver).fields (by omega) (eP M w 2) W fv (dS hM hz) h1)
 obtain⟨a,bu,rfl,cq,hm,_⟩:=hs.open_
 have cQ:=hD (Bx.eO w (eW (.slice a ls.length bu)) (cg ⟨#[]⟩ (.slice none 0 0)))
 have dF:(0:Int)≤(ver:Int):=Int.natCast_nonneg _
 have O0:(ver:Int)≤(l.changes.length:Int):=by omega
 clear hs h hn hT vo
 have kU:=hD hM
 clear hM
 go_enter Tryz.func96,Tryz.ntmps96
 go_wp2_with fail
 refine(HC.out _ cQ.out.1 cQ.out.b8).mono ?_
 rintro e w1⟨⟨fa,fc,ca,cc,rfl,pj,gz⟩,aw⟩
 have aO:=hD (cQ.out.below aw)
 have HMC:Hid (∀o,_):=(show∀o,_ from fun o=>HMD.out (w1.alloc o) _ _ (aO.out.alloc o).1 (by have:=aO.out.b8;simp at this⊢;omega) (pj.below (aw.alloc aw.size o)) (gz.below (aw.alloc aw.size o)))
 clear aw pj gz
 go_wp2_with fail
 refine(HMC.out _).mono ?_
 rintro e w2⟨_,rfl,⟨fv,rfl,aU⟩,aM⟩
 obtain⟨ya,yc,rfl,_⟩:=aU.open_
 have aA:=hD ((aO.out.alloc _).below aM)
 have EL:=hD (Lv.out w2 _ aA.out.b8 aU)
 clear aM aU
 go_wp2_with fail
 refine(EL.out).mono ?_
 rintro e w3⟨_,rfl,⟨fv3,rfl,RG⟩,bP⟩
 obtain⟨za,zc,rfl,_⟩:=RG.open_
 have bO:=hD (aA.out.below bP)
 have jr:=hD RG
 obtain⟨r0,r1⟩:=af (bO.out.bh rfl)
 have f0:=aa (bO.out.bh rfl) 0
 have f1:=aa (bO.out.bh rfl) 1
 clear bP RG
 go_wp2_with fail
 refine bodyPost_ret (v:= .tuple #[.agg #[.string l.first.name, .slice za (aI l ver).fields.length zc], .int .i64 0]) (by simp[results,Tryz.results96,go_sem,r0,r1]) rfl ⟨_,rfl,⟨_,rfl,?_⟩,(bO.out.1.setCell (by show w.heap.size≤w.heap.size+1;omega) _).setCell (by show w.heap.size≤w.heap.size+1;omega) _⟩
 exact(jr.out.ev (((Ev.refl _ _).setCell (.inl (.inr ⟨by show w.heap.size≤w.heap.size+1;omega,by show w.heap.size+1<w.heap.size+2;omega⟩)) _).setCell (.inl (.inr ⟨by show w.heap.size≤w.heap.size+1;omega,by show w.heap.size+1<w.heap.size+2;omega⟩)) _)).ev (Ev.ee _ fun i hi=> .inl hi)
def vZ(n:Int):Obj:= .cells #[.int .i64 n] 37 (0,0)
def dT(l:aE)(fr te i:Nat):List aq:=(l.changes.drop fr).take (min i te-fr)
structure iW(l:aE)(fr te:Nat)(many:Int)(vs:List au)(N:Nat→Prop)(V R H F T L:Nat)(fv cv:Value)(i:Nat)(W:World):Prop where
 gv:W.heap[V]? =some (km i)
 gr:W.heap[R]? =some (km fr)
 gf:W.heap[F]? =some (vZ 0)
 gt:W.heap[T]? =some (km te)
 gl:W.heap[L]? =some (bY l.first.name fv cv)
 gh:∃us a n cap,W.heap[H]? =some (Cv (.slice a n cap))∧ae N W (.slice a n cap) us∧gM (aI l fr) (dT l fr te i) many vs us
def nI(V H F:Nat):Nat→Prop:=fun j=>j=V∨j=H∨j=F
structure BW(V R H F T L:Nat):Prop where
 vr:V≠R
 vh:V≠H
 vf:V≠F
 vt:V≠T
 vl:V≠L
 hr:H≠R
 hf:H≠F
 ht:H≠T
 hl:H≠L
 fr:F≠R
 ft:F≠T
 fl:F≠L
section
variable {l:aE}{fr te:Nat}{many:Int}{vs:List au}{N:Nat→Prop}{V R H F T L:Nat}{fv cv:Value}{i:Nat}{W W':World}
theorem iW.only {S:Nat→Prop}(h:iW l fr te many vs N V R H F T L fv cv i W)(ho:ag S W W')(hS:∀j,S j→j≠V∧j≠R∧j≠H∧j≠F∧j≠T∧j≠L)(hN:∀j,S j→N j):iW l fr te many vs N V R H F T L fv cv i W':=by
 obtain⟨us,a,n,cap,h1,h2,h3⟩:=h.gh
 exact⟨ho.at_ h.gv (fun h=>(hS _ h).1 rfl),ho.at_ h.gr (fun h=>(hS _ h).2.1 rfl),ho.at_ h.gf (fun h=>(hS _ h).2.2.2.1 rfl),ho.at_ h.gt (fun h=>(hS _ h).2.2.2.2.1 rfl),ho.at_ h.gl (fun h=>(hS _ h).2.2.2.2.2 rfl),us,a,n,cap,ho.at_ h1 (fun h=>(hS _ h).2.2.1 rfl),h2.ev ⟨ho.mono hN,fun j hj=> .inl hj⟩,h3⟩
theorem iW.below(h:iW l fr te many vs N V R H F T L fv cv i W)(hb:Below W.heap.size W W'):iW l fr te many vs N V R H F T L fv cv i W':=
 h.only (S:=fun _=>False) (ag.aj hb) (fun _ h=>h.elim) (fun _ h=>h.elim)
theorem iW.tick(h:iW l fr te many vs N V R H F T L fv cv i W)(hn:BW V R H F T L)(hN:∀j,nI V H F j→N j){j:Nat}(hc:dT l fr te j=dT l fr te i)(hW:W'=W.setCell ⟨V,0,none⟩ (.int .i64 j)):iW l fr te many vs N V R H F T L fv cv j W'∧ag (nI V H F) W W':=by
 have ho:ag (fun j=>j=V) W W':=by rw[hW];exact(ag.refl (fun j=>j=V) W).setCell (p:=⟨V,0,none⟩) (.inl rfl) _
 obtain⟨us,a,n,cap,h1,h2,h3⟩:=h.gh
 refine⟨⟨?_,ho.at_ h.gr (fun h=>hn.vr h.symm),ho.at_ h.gf (fun h=>hn.vf h.symm),ho.at_ h.gt (fun h=>hn.vt h.symm),ho.at_ h.gl (fun h=>hn.vl h.symm),us,a,n,cap,ho.at_ h1 (fun h=>hn.vh h.symm),h2.ev ⟨ho.mono fun j hj=>hN j (.inl hj),fun j hj=> .inl hj⟩,by rw[hc];exact h3⟩,ho.mono fun j hj=> .inl hj⟩
 have:=heap_setCell_same W V 0 _ _ (.int .i64 j) h.gv
 rw[hW];simpa [km]using this
theorem iW.PI(h:iW l fr te many vs N V R H F T L fv cv i W)(hn:BW V R H F T L)(hN:∀j,nI V H F j→N j)(hW:W'=W.setCell ⟨F,0,none⟩ (.int .i64 0)):iW l fr te many vs N V R H F T L fv cv i W'∧ag (nI V H F) W W':=by
 have ho:ag (fun j=>j=F) W W':=by rw[hW];exact(ag.refl (fun j=>j=F) W).setCell (p:=⟨F,0,none⟩) (.inl rfl) _
 obtain⟨us,a,n,cap,h1,h2,h3⟩:=h.gh
 refine⟨⟨ho.at_ h.gv hn.vf,ho.at_ h.gr (fun h=>hn.fr h.symm),?_,ho.at_ h.gt (fun h=>hn.ft h.symm),ho.at_ h.gl (fun h=>hn.fl h.symm),us,a,n,cap,ho.at_ h1 hn.hf,h2.ev ⟨ho.mono fun j hj=>hN j (.inr (.inr hj)),fun j hj=> .inl hj⟩,h3⟩,ho.mono fun j hj=> .inr (.inr hj)⟩
 have:=heap_setCell_same W F 0 _ _ (.int .i64 0) h.gf
 rw[hW];simpa [vZ]using this
theorem iW.hold(h:iW l fr te many vs N V R H F T L fv cv i W)(hn:BW V R H F T L)(hN:∀j,nI V H F j→N j){us:List au}{a:Option Addr}{n cap:Nat}(hs:ae N W (.slice a n cap) us)(hc:gM (aI l fr) (dT l fr te (i+1)) many vs us)
 (hW:W'=(W.setCell ⟨H,0,none⟩ (.slice a n cap)).setCell ⟨F,0,none⟩ (.int .i64 0)):(∃W1,W1=W'.setCell ⟨V,0,none⟩ (.int .i64 ((i+1:Nat):Int))∧iW l fr te many vs N V R H F T L fv cv (i+1) W1∧ag (nI V H F) W W1)∧(W'.heap[V]? =some (km i)∧W'.heap[F]? =some (vZ 0)∧W'.heap[T]? =some (km te)):=by
 have h1:ag (nI V H F) W (W.setCell ⟨H,0,none⟩ (.slice a n cap)):=(ag.refl (nI V H F) W).setCell (p:=⟨H,0,none⟩) (.inl (.inr (.inl rfl))) _
 have ho:ag (fun j=>j=H∨j=F) W W':=by rw[hW];exact((ag.refl (fun j=>j=H∨j=F) W).setCell (p:=⟨H,0,none⟩) (.inl (.inl rfl)) _).setCell (p:=⟨F,0,none⟩) (.inl (.inr rfl)) _
 obtain⟨_,a0,n0,c0,h0,_,_⟩:=h.gh
 have gH:W'.heap[H]? =some (Cv (.slice a n cap)):=by
  have e1:=heap_setCell_same W H 0 _ _ (.slice a n cap) h0
  rw[hW]
  refine(heap_setCell_other _ _ _ _ (by show H≠F;exact hn.hf)).trans ?_
  simpa [Cv]using e1
 have gF:W'.heap[F]? =some (vZ 0):=by
  have e0:(W.setCell ⟨H,0,none⟩ (.slice a n cap)).heap[F]? =some (vZ 0):=(heap_setCell_other _ _ _ _ (by show F≠H;exact fun h=>hn.hf h.symm)).trans h.gf
  have e1:=heap_setCell_same _ F 0 _ _ (.int .i64 0) e0
  rw[hW];simpa [vZ]using e1
 have gV:=ho.at_ h.gv (fun h=>h.elim hn.vh hn.vf)
 have gT:=ho.at_ h.gt (fun h=>h.elim (fun h=>hn.ht h.symm) (fun h=>hn.ft h.symm))
 have gR:=ho.at_ h.gr (fun h=>h.elim (fun h=>hn.hr h.symm) (fun h=>hn.fr h.symm))
 have gL:=ho.at_ h.gl (fun h=>h.elim (fun h=>hn.hl h.symm) (fun h=>hn.fl h.symm))
 have hoS:ag (nI V H F) W W':=ho.mono fun j hj=> .inr hj
 obtain⟨W1,ib⟩:∃W1:World,W1=W'.setCell ⟨V,0,none⟩ (.int .i64 ((i+1:Nat):Int)):=⟨_,rfl⟩
 have o1:ag (fun j=>j=V) W' W1:=by rw[ib];exact(ag.refl (fun j=>j=V) W').setCell (p:=⟨V,0,none⟩) (.inl rfl) _
 have gV1:W1.heap[V]? =some (km ((i+1:Nat):Int)):=by
  have:=heap_setCell_same W' V 0 _ _ (.int .i64 ((i+1:Nat):Int)) gV
  rw[ib];simpa [km]using this
 have Vy:ag (nI V H F) W W1:=hoS.trans (o1.mono fun j hj=> .inl hj)
 exact⟨⟨W1,ib,⟨gV1,o1.at_ gR (fun h=>hn.vr h.symm),o1.at_ gF (fun h=>hn.vf h.symm),o1.at_ gT (fun h=>hn.vt h.symm),o1.at_ gL (fun h=>hn.vl h.symm),us,a,n,cap,o1.at_ gH (fun h=>hn.vh h.symm),hs.ev ⟨Vy.mono hN,fun j hj=> .inl hj⟩,hc⟩,Vy⟩,gV,gF,gT⟩
end
theorem xP {l:aE}{fr te i:Nat}(h:i≤fr):dT l fr te i=[]:=by unfold dT;rw[show min i te-fr=0 by omega];rfl
theorem nd {l:aE}{fr te i:Nat}(h:i<fr∨te≤i):dT l fr te (i+1)=dT l fr te i:=by
 unfold dT
 rcases h with h|h
 ·rw[show min (i+1) te-fr=0 by omega,show min i te-fr=0 by omega]
 ·rw[show min (i+1) te=min i te by omega]
theorem BX {l:aE}{fr te i:Nat}{x:aq}(h1:fr≤i)(h2:i<te)(hx:l.changes[i]? =some x):dT l fr te (i+1)=dT l fr te i++[x]:=by
 unfold dT
 rw[show min (i+1) te-fr=(i-fr)+1 by omega,show min i te-fr=i-fr by omega,List.take_add_one]
 congr 1
 rw[List.getElem?_drop,show fr+(i-fr)=i by omega,hx];rfl
theorem El {l:aE}(hl:du l){fr te i:Nat}(h1:fr≤i)(h2:i≤te):cu (aI l fr) (dT l fr te i) (aI l i):=by
 have h:=(hl.from_ fr).at_ (i-fr)
 rw[mM,show fr+(i-fr)=i by omega]at h
 unfold dT
 rw[show min i te=i by omega]
 exact h
def uU(l:aE)(fr te:Nat)(many:Int)(vs:List au)(N:Nat→Prop)(V R H F T L:Nat)(fv cv:Value)(i:Nat)(W wx:World):Prop:=
 (∃W1,W1=wx.setCell ⟨V,0,none⟩ (.int .i64 ((i+1:Nat):Int))∧iW l fr te many vs N V R H F T L fv cv (i+1) W1∧ag (nI V H F) W W1)∧(wx.heap[V]? =some (km i)∧wx.heap[F]? =some (vZ 0)∧wx.heap[T]? =some (km te))
theorem iW.OH {l:aE}{fr te:Nat}{many:Int}{vs:List au}{N:Nat→Prop}{V R H F T L:Nat}{fv cv:Value}{i:Nat}{W wx:World}(h:iW l fr te many vs N V R H F T L fv cv i wx)(hn:BW V R H F T L)(hN:∀j,nI V H F j→N j)(ho:ag (nI V H F) W wx)(hc:dT l fr te (i+1)=dT l fr te i):uU l fr te many vs N V R H F T L fv cv i W wx:=by
 obtain⟨h1,h2⟩:=h.tick hn hN hc (W':=wx.setCell ⟨V,0,none⟩ (.int .i64 ((i+1:Nat):Int))) rfl
 exact⟨⟨_,rfl,h1,ho.trans h2⟩,h.gv,h.gf,h.gt⟩
theorem Hz(l:aE)(hl:du l)(fr te i:Nat)(Mw:fr≤te)(hte:te≤l.changes.length)(hi:i≤te)(many:Int)(hm:many≤100000)(vs:List au)(M N:Nat→Prop)(V R H F T L:Nat)(fv cv fvc:Value)(hn:BW V R H F T L)(w0 W:World)
 (hS:∀j,nI V H F j→N j)(hSw:∀j,nI V H F j→w0.heap.size≤j)(hN:Bd N W)(mw:Below w0.heap.size w0 W)(hG:Gd w0)(bE:ae M w0 cv l.changes)(aU:ae N W fvc (aI l i).fields)(bK:iW l fr te many vs N V R H F T L fv cv i W):
 Calls Tryz.prog 106 #[.agg #[.string l.first.name,fvc], .pointer (some ⟨V,0,none⟩), .pointer (some ⟨R,0,none⟩), .pointer (some ⟨H,0,none⟩), .pointer (some ⟨F,0,none⟩), .pointer (some ⟨T,0,none⟩), .pointer (some ⟨L,0,none⟩)] W fun e W'=>e= .returned (.bool (decide (i+1≤te)))∧iW l fr te many vs N V R H F T L fv cv (i+1) W'∧ag (nI V H F) W W':=by
 have hi5:(i:Int)≤5:=by have:=hl.len;omega
 obtain⟨MG,MH,rfl,_⟩:=aU.open_
 obtain⟨W1,ib⟩:∃W1:World,W1=W.alloc (cg l.first.name (.slice MG (aI l i).fields.length MH)):=⟨_,rfl⟩
 have EH:Below W.heap.size W W1:=by rw[ib];exact(Below.refl _ _).alloc (Nat.le_refl _) _
 have eT:Hid (iW l fr te many vs N V R H F T L fv cv i W1):=(show iW _ _ _ _ _ _ _ _ _ _ _ _ _ _ _ _ from bK.below EH)
 have HQ:Hid (W1.heap[W.heap.size]? =some (cg l.first.name (.slice MG (aI l i).fields.length MH))):=(show _=_ by rw[ib];exact heap_alloc_new W _)
 have eM:Hid (ae N W1 (.slice MG (aI l i).fields.length MH) (aI l i).fields):=(show ae _ _ _ _ from aU.below EH)
 have lR:Hid (Below w0.heap.size w0 W1):=(show Below _ _ _ from mw.trans (EH.mono mw.size))
 have nh:Hid (ag (nI V H F) W W1):=(show ag _ _ _ from ag.aj EH)
 have EN:Hid (Bd N W1):=(show Bd _ _ from hN.below EH)
 have hQz:W.heap.size<W1.heap.size:=(Array.getElem?_eq_some_iff.1 HQ.out).1
 have XA:Hid (∀j,nI V H F j→j≠W.heap.size):=(show∀j,_→_ from fun j hj h=>by
  have h2:=hN j (hS j hj)
  omega)
 generalize hQ:W.heap.size=Q at HQ hQz XA
 have OT:Hid (∀A us hv,Below w0.heap.size w0 A→ae N A (.slice MG (aI l i).fields.length MH) (aI l i).fields→ae N A hv us→aW (aI l i).fields many us→Calls Tryz.prog 107 #[.agg #[.string l.first.name, .slice MG (aI l i).fields.length MH],hv] A fun e w'=>e= .returned (.tuple #[.int .i64 0, .int .i64 0])∧Below A.heap.size A w'):=(show∀A us hv,_→_→_→_→_ from fun A us hv h1 h2 h3 h4=>by
  have h:=kl (aI l i) (hl.mL i).right (bQ (hl.mL i).small) many hm us h4 N A _ hv h2 h3 (hG.tb.below h1)
  rw[hl.name i]at h
  exact h)
 have HVX:Hid (∀x A us hv,l.changes[i]? =some x→Below w0.heap.size w0 A→Bd N A→ae N A (.slice MG (aI l i).fields.length MH) (aI l i).fields→ae N A hv us→aW (aI l i).fields many us→Calls Tryz.prog 108 #[.agg #[.string l.first.name, .slice MG (aI l i).fields.length MH], .agg #[.int .i64 x.kind, .string x.field, .string x.name, .string x.more, .int .i64 x.type.kind, .int .i64 x.type.of, .string x.expr, .string x.other],hv] A (aF A fun v w'=>∃us' uv,v= .tuple #[uv, .int .i64 0]∧fC (aI l i) x many us us'∧ae N w' uv us')):=(show∀x A us hv,_→_→_→_→_→_→_ from fun x A us hv hx h1 hA h2 h3 h4=>by
  obtain⟨g1,g2,_⟩:=hl.step hx
  have h:=KQ N A hA (aI l i) (hl.mL i) many hm x g1 g2 _ hv us h2 h3 h4 (hG.below h1)
  rw[hl.name i]at h
  exact h)
 have x9:Hid (∀x,l.changes[i]? =some x→_):=(show∀x,_→_ from fun x h=>pS bE h)
 have HCS:Hid (fr≤i→cu (aI l fr) (dT l fr te i) (aI l i)):=(show _→_ from fun h=>El hl h hi)
 have Z7:=hD ib
 have RF:=hD hS
 have zX:=hD hn
 have Vf:=hD hSw
 have Vz:=hD hQ
 clear EH bK aU ib hQ bE hG hl mw hN hS hSw hn
 go_enter Tryz.func106,Tryz.ntmps106
 go_upto_region 1 with fail
 have ib:=Z7.out
 unfold cg at ib
 rw[←ib,Vz.out]
 clear ib
 have v0:=one_cell eT.out.gv
 have r0:=one_cell eT.out.gr
 go_upto_if 11 with fail
 go_cut [](fun wx=>Hid (iW l fr te many vs N V R H F T L fv cv i wx∧ag (nI V H F) W1 wx))
 case first=>
  by_cases he:i=fr
  ·have e1:((i:Int)==(fr:Int))=true:=by simp;omega
   obtain⟨us,ha,hn',hc',RH,VA,SR⟩:=eT.out.gh
   have L2:aW (aI l i).fields many us:=by
    have h:=SR.1
    rw[xP (by omega)]at h
    rw[he];exact h
   have wA:=hD (OT.out W1 us _ lR.out eM.out VA L2)
   have h0:=one_cell RH
   obtain⟨q0,q1⟩:=af HQ.out
   clear RH VA SR L2 he
   go_wp2_with fail
   refine(wA.out).mono ?_
   rintro e w3⟨rfl,bP⟩
   have jr:=hD (eT.out.below bP)
   have sB:=hD (ag.aj (S:=nI V H F) bP)
   have k0:=one_cell jr.out.gf
   have f0:=aa jr.out.gf 0
   clear bP
   go_wp2_with fail
   go_meet
   have hf:=jr.out.PI zX.out (fun j hj=>RF.out j hj) (W':=w3.setCell ⟨F,0,none⟩ (.int .i64 0)) rfl
   exact(show _∧_ from⟨hf.1,sB.out.trans hf.2⟩)
  ·have e1:((i:Int)==(fr:Int))=false:=by simp;omega
   go_wp2_with fail
   go_meet
   exact(show _∧_ from⟨eT.out,ag.refl _ _⟩)
 case rest=>
  obtain⟨wx,Cj⟩:∃wx:World,wx=wc:=⟨_,rfl⟩
  subst Cj
  have eB:=hD hcut.out.1
  have wj:=hD hcut.out.2
  have HQ2:Hid (wx.heap[Q]? =some (cg l.first.name (.slice MG (aI l i).fields.length MH))):=(show _=_ from wj.out.at_ HQ.out (fun h=>XA.out _ h rfl))
  have L4:Hid (ae N wx (.slice MG (aI l i).fields.length MH) (aI l i).fields):=(show ae _ _ _ _ from eM.out.ev ⟨wj.out.mono RF.out,fun j hj=> .inl hj⟩)
  have aA:Hid (Below w0.heap.size w0 wx):=(show Below _ _ _ from cA lR.out lR.out.size wj.out (fun j hj=>Vf.out j hj))
  have qah:Hid (Bd N wx):=(show Bd _ _ from fun j hj=>Nat.lt_of_lt_of_le (EN.out j hj) wj.out.size)
  have sB:Hid (ag (nI V H F) W wx):=(show ag _ _ _ from nh.out.trans wj.out)
  clear hcut v0 r0
  have v0:=one_cell eB.out.gv
  have r0:=one_cell eB.out.gr
  have f0:=one_cell eB.out.gf
  have t0:=one_cell eB.out.gt
  by_cases IX:fr≤i
  ·have e1:(fr:Int)≤(i:Int):=by omega
   by_cases hit:i<te
   ·have e2:(i:Int)<(te:Int):=by omega
    go_upto_if 29 with fail
    go_cut [](fun wy=>Hid (uU l fr te many vs N V R H F T L fv cv i W wy))
    case first=>
     obtain⟨x,hx⟩:∃x,l.changes[i]? =some x:=⟨_,List.getElem?_eq_getElem (by omega)⟩
     obtain⟨b,off,dE,rH,bZ,ao⟩:=x9.out x hx
     obtain⟨us,ha,hn',hc',RH,VA,SR⟩:=eB.out.gh
     have IP:=HCS.out IX
     have L2:aW (aI l i).fields many us:=by rw[IP.cls];exact SR.1
     have HUC:=hD SR
     have WI:=hD IP
     have ZG:=hD hx
     have It:=hD (HVX.out x wx.drew us _ hx aA.out.drew (qah.out.below (w':=wx.drew) (Below.refl _ _).drew) (L4.out.ev ((Ev.refl _ _).drew)) (VA.ev ((Ev.refl _ _).drew)) L2)
     have XB:=hD RH
     have h0:=one_cell RH
     have k0:=aa RH 0
     obtain⟨q0,q1⟩:=af HQ2.out
     have hKS:∀W',ag (fun j=>j=H∨j=F) wx W'→(W'.cell? ⟨Q,0,none⟩=some (.string l.first.name)∧W'.cell? ⟨Q,1,none⟩=some (.slice MG (aI l i).fields.length MH)∧W'.cell? ⟨L,2,none⟩=some cv∧W'.cell? ⟨V,0,none⟩=some (.int .i64 i)∧W'.cell? ⟨b,off+i*8,none⟩=some (.int .i64 x.kind)∧W'.cell? ⟨b,off+i*8+1,none⟩=some (.string x.field)∧W'.cell? ⟨b,off+i*8+2,none⟩=some (.string x.name)∧W'.cell? ⟨b,off+i*8+3,none⟩=some (.string x.more)∧W'.cell? ⟨b,off+i*8+4,none⟩=some (.int .i64 x.type.kind)∧W'.cell? ⟨b,off+i*8+5,none⟩=some (.int .i64 x.type.of)∧W'.cell? ⟨b,off+i*8+6,none⟩=some (.string x.expr)∧W'.cell? ⟨b,off+i*8+7,none⟩=some (.string x.other)):=fun W' ho=>by
      obtain⟨y0,y1⟩:=af (ho.at_ HQ2.out (fun h=>h.elim (fun h=>XA.out H (.inr (.inl rfl)) h.symm) (fun h=>XA.out F (.inr (.inr rfl)) h.symm)))
      have y2:=(ay (ho.at_ eB.out.gl (fun h=>h.elim (fun h=>zX.out.hl h.symm) (fun h=>zX.out.fl h.symm)))).2.2
      have y3:=one_cell (ho.at_ eB.out.gv (fun h=>h.elim (fun h=>zX.out.vh h) (fun h=>zX.out.vf h)))
      obtain⟨z0,z1,z2,z3,z4,z5,z6,z7⟩:=ao wx aA.out
      have kr:b<wx.heap.size:=Nat.lt_of_lt_of_le bZ aA.out.size
      have hne:¬(b=H∨b=F):=fun h=>h.elim (fun h=>by have:=Vf.out H (.inr (.inl rfl));omega) (fun h=>by have:=Vf.out F (.inr (.inr rfl));omega)
      have g:∀o,W'.cell? ⟨b,o,none⟩=wx.cell? ⟨b,o,none⟩:=fun o=>ho.cell (p:=⟨b,o,none⟩) kr hne
      exact⟨y0,y1,y2,y3,(g _).trans z0,(g _).trans z1,(g _).trans z2,(g _).trans z3,(g _).trans z4,(g _).trans z5,(g _).trans z6,(g _).trans z7⟩
     have HKS:=hD hKS
     have HJ:Hid (ag (fun j=>j=H∨j=F) wx wx):=(show ag _ _ _ from ag.refl _ _)
     obtain⟨y0,y1,y2,y3,z0,z1,z2,z3,z4,z5,z6,z7⟩:=hKS wx HJ.out
     have i0:(0:Int)≤(i:Int):=Int.natCast_nonneg _
     have i1:(i:Int)<(l.changes.length:Int):=by omega
     subst rH
     have kf:=aa eB.out.gf 0
     have nHF:=zX.out.hf
     have nFH:F≠H:=fun h=>nHF h.symm
     clear ao RH VA SR L2 IP hx q0 q1 hKS bZ
     go_upto_region 4 with fail
     clear HKS HJ
     go_region_law(first
      |(go_simp
        go_at_call 108
        refine It.out.mono ?_
        rintro en w4⟨_,rfl,⟨us2,uv,rfl,SE,Pz⟩,eS⟩
        obtain⟨ua,uc,rfl,_⟩:=Pz.open_
        have fJ:Hid (Below wx.heap.size wx w4):=(show Below _ _ _ from(Below.refl wx.heap.size wx).drew.trans eS)
        have ez:Hid (ag (fun j=>j=H∨j=F) wx w4):=(show ag _ _ _ from ag.aj fJ.out)
        have od:=hD (eB.out.below fJ.out)
        have HL4:=hD Pz
        have HV4:=hD SE
        have h4:=one_cell ((fJ.out.block H (Array.getElem?_eq_some_iff.1 XB.out).1).trans XB.out)
        have k4:=aa ((fJ.out.block H (Array.getElem?_eq_some_iff.1 XB.out).1).trans XB.out) 0
        have f4:=one_cell od.out.gf
        have g4:=aa od.out.gf 0
        clear SE Pz eS))
     all_goals(go_wp2_with fail;go_meet)
     all_goals
      have qai:gM (aI l fr) (dT l fr te (i+1)) many vs us2:=by rw[BX IX hit ZG.out];exact gM.snoc WI.out HUC.out HV4.out
      obtain⟨⟨W9,e9,s9,o9⟩,g9⟩:=od.out.hold zX.out RF.out HL4.out qai rfl
      exact(show uU _ _ _ _ _ _ _ _ _ _ _ _ _ _ _ _ _ from⟨⟨W9,e9,s9,(sB.out.trans (ag.aj fJ.out)).trans o9⟩,g9⟩)
    case rest=>
     obtain⟨wy,QT⟩:∃wy:World,wy=wc:=⟨_,rfl⟩
     subst QT
     have HM:=hD hcut.out
     obtain⟨⟨W5,h5,Ca,th⟩,gv,gf,gt⟩:=hcut.out
     have tq:=hD Ca
     have IM:=hD th
     have nN:=hD h5
     have v5:=one_cell gv
     have VB:=aa gv 0
     clear hcut h5 Ca th gf gt gv v0 r0 f0 t0
     go_upto_region 6 with fail
     have jQ:=nN.out
     rw[show((i+1:Nat):Int)=(i:Int)+1 by omega]at jQ
     rw[←jQ]
     clear jQ nN v5 VB HM
     have v6:=one_cell tq.out.gv
     have f6:=one_cell tq.out.gf
     have t6:=one_cell tq.out.gt
     rw[show((i+1:Nat):Int)=(i:Int)+1 by omega]at v6
     by_cases hle:i+1≤te
     ·have e6:(i:Int)+1≤(te:Int):=by omega
      go_wp2_with fail
      all_goals
       go_ret
       exact⟨by simp[hle],tq.out,IM.out⟩
     ·have e6:(te:Int)<(i:Int)+1:=by omega
      go_wp2_with fail
      all_goals
       go_ret
       exact⟨by simp[hle],tq.out,IM.out⟩
   ·have e2:(te:Int)≤(i:Int):=by omega
    go_upto_if 29 with fail
    go_cut [](fun wy=>Hid (uU l fr te many vs N V R H F T L fv cv i W wy))
    case first=>
     go_wp2_with fail
     go_meet
     exact(show uU _ _ _ _ _ _ _ _ _ _ _ _ _ _ _ _ _ from eB.out.OH zX.out RF.out sB.out (nd (by omega)))
    case rest=>
     obtain⟨wy,QT⟩:∃wy:World,wy=wc:=⟨_,rfl⟩
     subst QT
     have HM:=hD hcut.out
     obtain⟨⟨W5,h5,Ca,th⟩,gv,gf,gt⟩:=hcut.out
     have tq:=hD Ca
     have IM:=hD th
     have nN:=hD h5
     have v5:=one_cell gv
     have VB:=aa gv 0
     clear hcut h5 Ca th gf gt gv v0 r0 f0 t0
     go_upto_region 6 with fail
     have jQ:=nN.out
     rw[show((i+1:Nat):Int)=(i:Int)+1 by omega]at jQ
     rw[←jQ]
     clear jQ nN v5 VB HM
     have v6:=one_cell tq.out.gv
     have f6:=one_cell tq.out.gf
     have t6:=one_cell tq.out.gt
     rw[show((i+1:Nat):Int)=(i:Int)+1 by omega]at v6
     by_cases hle:i+1≤te
     ·have e6:(i:Int)+1≤(te:Int):=by omega
      go_wp2_with fail
      all_goals
       go_ret
       exact⟨by simp[hle],tq.out,IM.out⟩
     ·have e6:(te:Int)<(i:Int)+1:=by omega
      go_wp2_with fail
      all_goals
       go_ret
       exact⟨by simp[hle],tq.out,IM.out⟩
  ·have e1:(i:Int)<(fr:Int):=by omega
   go_upto_if 29 with fail
   go_cut [](fun wy=>Hid (uU l fr te many vs N V R H F T L fv cv i W wy))
   case first=>
    go_wp2_with fail
    go_meet
    exact(show uU _ _ _ _ _ _ _ _ _ _ _ _ _ _ _ _ _ from eB.out.OH zX.out RF.out sB.out (nd (by omega)))
   case rest=>
    obtain⟨wy,QT⟩:∃wy:World,wy=wc:=⟨_,rfl⟩
    subst QT
    have HM:=hD hcut.out
    obtain⟨⟨W5,h5,Ca,th⟩,gv,gf,gt⟩:=hcut.out
    have tq:=hD Ca
    have IM:=hD th
    have nN:=hD h5
    have v5:=one_cell gv
    have VB:=aa gv 0
    clear hcut h5 Ca th gf gt gv v0 r0 f0 t0
    go_upto_region 6 with fail
    have jQ:=nN.out
    rw[show((i+1:Nat):Int)=(i:Int)+1 by omega]at jQ
    rw[←jQ]
    clear jQ nN v5 VB HM
    have v6:=one_cell tq.out.gv
    have f6:=one_cell tq.out.gf
    have t6:=one_cell tq.out.gt
    rw[show((i+1:Nat):Int)=(i:Int)+1 by omega]at v6
    by_cases hle:i+1≤te
    ·have e6:(i:Int)+1≤(te:Int):=by omega
     go_wp2_with fail
     all_goals
      go_ret
      exact⟨by simp[hle],tq.out,IM.out⟩
    ·have e6:(te:Int)<(i:Int)+1:=by omega
     go_wp2_with fail
     all_goals
      go_ret
      exact⟨by simp[hle],tq.out,IM.out⟩
end Go.Proofs.YtlkjnefenialbaaGreatDoor
