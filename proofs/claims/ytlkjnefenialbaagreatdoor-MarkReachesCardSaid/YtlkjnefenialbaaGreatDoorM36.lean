/- What expr.Parse answers; no condition beyond each theorem's own. -/
import Derived.Test.YtlkjnefenialbaaGreatDoorM35
import Derived.OwnWalkIn
set_option linter.unusedVariables false
set_option linter.unusedSimpArgs false
set_option maxHeartbeats 8000000
set_option maxRecDepth 100000
namespace Go.Proofs.YtlkjnefenialbaaGreatDoor
open Go.RowKit
theorem Bs(w:World)(o:Obj):(w.alloc o).heap.size=w.heap.size+1:=by simp
theorem Bt:(Tryz.prog.info? 291).map (fun i=>(i.zero,i.size,i.bytes))=some (some (.agg #[.int .i64 0, .int .i64 0, .string ⟨#[]⟩, .int .i64 0]),4,40):=by kernel_rfl
theorem Hj(s:ByteArray)(w:World):Calls Tryz.prog 196 #[.string s] w fun e w'=>e= .returned (.func (.func 214) #[] #[.pointer (some ⟨w.heap.size,0,none⟩)])∧w.alloc (.cells #[.string s] 9)=w':=by
 have Is:∀(fn:Fn)(first cap:Array Value)(w:World),(Instr.makeFunc fn first cap).run Tryz.prog w= .ok (.func fn first cap) w:=fun _ _ _ _=>rfl
 go_enter Tryz.func196,Tryz.ntmps196
 go_wp2_with fail
 go_ret
 exact⟨rfl,rfl⟩
def Hk(b bm:Nat)(sz:Nat)(T:List Tok)(w:World)(i:Nat)(W:World):Prop:=
 ∃lv,W.heap[b]? =some (.cells #[lv, .int .i64 0, .int .i64 sz, .map (some bm)] 286 (0,0))∧aK (fun _=>False) (w.heap.size+2) 291 W lv ((T.take i).map eJ)∧ag (fun j=>j=b) w W∧dK W bm
theorem Hk.only {b bm sz:Nat}{T:List Tok}{w:World}{i:Nat}{A B:World}(h:Hk b bm sz T w i A)(ho:ag (Ml w 0) A B)(hb:b<w.heap.size)(hm:bm<w.heap.size):Hk b bm sz T w i B:=by
 obtain⟨lv,h1,h2,h3,h4⟩:=h
 refine⟨lv,ho.at_ h1 (fun h=>by have:=h.1;omega),?_,?_,h4.only ho (fun h=>by have:=h.1;omega)⟩
 ·obtain⟨css,k1,k2,k3⟩:=h2
  refine⟨css,⟨k1.1,?_⟩,k2,k3⟩
  rcases k1.2 with h0|⟨g,cap,cur,e1,e2,e3,e4⟩
  ·exact .inl h0
  ·exact .inr ⟨g,cap,cur,e1,e2,ho.at_ e3 (fun h=>by have:=h.2;omega),e4⟩
 ·exact h3.cD ho fun i hi aT=>by have:=hi.1;omega
theorem aK.swap {α:Type} [az α]{M M':Nat→Prop}{base:Nat}{e:TypeId}{w:World}{v:Value}{xs:List α}(h:aK M base e w v xs)(hS:∀{M M':Nat→Prop}{cs:List Value}{x:α},az.rep M w cs x→az.rep M' w cs x):aK M' base e w v xs:=by
 obtain⟨css,k1,k2,k3⟩:=h
 exact⟨css,k1,k2,fun i cs x hc hx=>hS (k3 i cs x hc hx)⟩
theorem Hl {b bm sz i rI:Nat}{T:List Tok}{w2 W2 W3:World}{o:Obj}{a2:Option Addr}{lv:Value}{t:Tok}(hU:ag (fun j=>j=b) w2 W2)(IA:dK W2 bm)(hb:b<w2.heap.size)(hne:bm≠b)(Oq:bm<w2.heap.size)(h3:Below (w2.heap.size+2) (W2.alloc o) W3)(hz:w2.heap.size+2≤W2.heap.size)
 (Cr:W3.heap[b]? =some (.cells #[lv, .int .i64 0, .int .i64 sz, .map (some bm)] 286 (0,0))){n:Nat}(bn:aK (fun _=>False) (w2.heap.size+2) 291 W3 (.slice a2 n rI) ((T.take i).map eJ++[eJ t]))(hT:(T.take (i+1)).map eJ=(T.take i).map eJ++[eJ t]):
 ag (Cu (fun j=>j=b) w2 0) W2 (W3.setCell ⟨b,0,none⟩ (.slice a2 n rI))∧Hk b bm sz T w2 (i+1) (W3.setCell ⟨b,0,none⟩ (.slice a2 n rI)):=by
 have o3:ag (fun j=>w2.heap.size+2≤j) W2 W3:=by
  have h1:ag (fun j=>w2.heap.size+2≤j) W2 (W2.alloc o):=(ag.refl _ W2).alloc o
  refine h1.trans ⟨h3.os,h3.tape,h3.output,h3.size,fun j hj hS=>h3.block j (by omega)⟩
 have o4:ag (fun j=>j=b) W3 (W3.setCell ⟨b,0,none⟩ (.slice a2 n rI)):=(ag.refl (fun j=>j=b) W3).setCell (p:=⟨b,0,none⟩) (.inl rfl) _
 have o5:ag (Cu (fun j=>j=b) w2 0) W2 (W3.setCell ⟨b,0,none⟩ (.slice a2 n rI)):=(o3.mono fun j hj=> .inr hj).trans (o4.mono fun j hj=> .inl hj)
 refine⟨o5,_,by simpa using heap_setCell_same W3 b 0 _ _ (.slice a2 n rI) Cr,?_,?_,IA.only o5 (fun h=>by rcases h with h|h;exact hne h;omega)⟩
 ·rw[hT]
  exact bn.Aa o4 (fun j hj=>by have:j=b:=hj;omega) (fun h=>h)
 ·exact hU.cD o5 fun j hj aT=>by rcases hj with hj|hj;exact hj;omega
theorem iO {B:Nat}{S:Nat→Prop}{w w2 W:World}(h:Below B w w2)(hB:B≤w2.heap.size)(k:ag S w2 W)(hS:∀i,S i→B≤i):Below B w W:=
 ⟨k.os.trans h.os,k.tape.trans h.tape,k.output.trans h.output,Nat.le_trans h.size k.size,fun i hi=>(k.block i (by omega) (fun hs=>by have:=hS i hs;omega)).trans (h.block i hi)⟩
theorem Hm {w w4 W':World}{xk xn:Int}{xs:ByteArray}{sl:Value}(h0:w4.heap[w.heap.size]? =some (Cw 0 0 ⟨#[]⟩ (.slice none 0 0)))(h1:w4.heap[w.heap.size+1]? =some (qF 3 (.int .i64 0)))(h2:w4.heap[w.heap.size+1+1]? =some (qF 37 (.int .i64 0)))
 (hW:W'=(((((w4.setCell ⟨w.heap.size,0,none⟩ (.int .i64 xk)).setCell ⟨w.heap.size,1,none⟩ (.int .i64 xn)).setCell ⟨w.heap.size,2,none⟩ (.string xs)).setCell ⟨w.heap.size,3,none⟩ sl).setCell ⟨w.heap.size+1,0,none⟩ (.int .i64 0)).setCell ⟨w.heap.size+1+1,0,none⟩ (.int .i64 0)):
 W'.heap[w.heap.size]? =some (Cw xk xn xs sl)∧W'.heap[w.heap.size+1]? =some (qF 3 (.int .i64 0))∧W'.heap[w.heap.size+1+1]? =some (qF 37 (.int .i64 0))∧ag (fun j=>w.heap.size≤j∧j<w.heap.size+3) w4 W':=by
 obtain⟨C,hC⟩:∃C:World,C=(((w4.setCell ⟨w.heap.size,0,none⟩ (.int .i64 xk)).setCell ⟨w.heap.size,1,none⟩ (.int .i64 xn)).setCell ⟨w.heap.size,2,none⟩ (.string xs)).setCell ⟨w.heap.size,3,none⟩ sl:=⟨_,rfl⟩
 have oC:ag (fun i=>i=w.heap.size) w4 C:=by rw[hC];exact((((ag.refl (fun i=>i=w.heap.size) w4).setCell (p:=⟨w.heap.size,0,none⟩) (.inl rfl) _).setCell (p:=⟨w.heap.size,1,none⟩) (.inl rfl) _).setCell (p:=⟨w.heap.size,2,none⟩) (.inl rfl) _).setCell (p:=⟨w.heap.size,3,none⟩) (.inl rfl) _
 have gC:=iu (o:=0) h0 (.int .i64 xk) (.int .i64 xn) (.string xs) sl
 simp only[Nat.zero_add]at gC
 rw[←hC]at gC hW
 have ZM:=oC.at_ h1 (by omega)
 have ZN:=oC.at_ h2 (by omega)
 obtain⟨D,hD⟩:∃D:World,D=C.setCell ⟨w.heap.size+1,0,none⟩ (.int .i64 0):=⟨_,rfl⟩
 have oD:ag (fun i=>i=w.heap.size+1) C D:=by rw[hD];exact(ag.refl (fun i=>i=w.heap.size+1) C).setCell (p:=⟨w.heap.size+1,0,none⟩) (.inl rfl) _
 have Vb:=heap_setCell_same C (w.heap.size+1) 0 _ _ (.int .i64 0) ZM
 rw[←hD]at Vb hW
 have oE:ag (fun i=>i=w.heap.size+1+1) D W':=by rw[hW];exact(ag.refl (fun i=>i=w.heap.size+1+1) D).setCell (p:=⟨w.heap.size+1+1,0,none⟩) (.inl rfl) _
 have Vc:=heap_setCell_same D (w.heap.size+1+1) 0 _ _ (.int .i64 0) (oD.at_ ZN (by omega))
 rw[←hW]at Vc
 refine⟨oE.at_ (oD.at_ (by simpa [Cw]using gC) (by omega)) (by omega),oE.at_ (by simpa [qF]using Vb) (by omega),by simpa [qF]using Vc,?_⟩
 exact((oC.mono fun i hi=>by have:i=w.heap.size:=hi;omega).trans (oD.mono fun i hi=>by have:i=w.heap.size+1:=hi;omega)).trans (oE.mono fun i hi=>by have:i=w.heap.size+1+1:=hi;omega)
def Kt(w:World)(x:an)(v:Value)(w':World):Prop:=∃u,v= .tuple #[u, .int .i64 0, .int .i64 0]∧bI (eA w) w' u x
theorem Hn(s:ByteArray)(x:an)(T:List Tok)(hs:s.size≤200)(hT:j4 s 0 T)(mh:oq T)(hk:∀t∈T,1≤t.kind∧t.kind≤4)(hl:T.length≤200)(hp:ic 60 1 T=some (x,[]))(QU:fX x=true)(hxd:ju x≤8)(fH:dA x≤40)(w:World)(hTb:Tb w):
 Calls Tryz.prog 166 #[.string s] w (aF w (Kt w x)):=by
 have QC:=Lib.hid hT
 have Xa:=Lib.hid hTb
 have HK:=Lib.hid hk
 clear hT hTb hk
 refine callsIn_wide.1 (callsIn_of_wp_marks (n:=0) Tryz.func166 rfl trivial (wpIn_wide.2 ?_) rfl)
 simp only[Tryz.ntmps166,List.size_toArray,List.length_cons,List.length_nil,Nat.reduceAdd,Nat.reduceSub,Array.replicate_succ,Array.replicate_zero,List.push_toArray,List.append_toArray,List.nil_append,List.cons_append]
 go_wp2_with fail
 refine(rZ _).mono ?_
 rintro e w1⟨bm,rfl,IA,Oq,aw⟩
 have aO:=Lib.hid ((Bx.fB w (Cw 0 0 ⟨#[]⟩ (.slice none 0 0)) (qF 3 (.int .i64 0)) (qF 37 (.int .i64 0))).below aw)
 have Qz:=Lib.hid IA
 have EN:Hid (bm<w1.heap.size):=(show _<_ from(Array.getElem?_eq_some_iff.1 IA).1)
 clear aw IA
 go_wp2_with fail
 refine(Hj s _).mono ?_
 rintro e w2⟨rfl,rfl⟩
 go_wp2_with fail
 obtain⟨w2,kV⟩:∃w2:World,w2=(w1.alloc (.cells #[.slice none 0 0, .int .i64 0, .int .i64 s.size, .map (some bm)] 286)).alloc (.cells #[.string s] 9):=⟨_,rfl⟩
 have aA:Hid (Bx w [Cw 0 0 ⟨#[]⟩ (.slice none 0 0),qF 3 (.int .i64 0),qF 37 (.int .i64 0)] w2):=(show Bx _ _ _ by rw[kV];exact(aO.out.alloc _).alloc _)
 have Ve:Hid (dK w2 bm):=(show dK _ _ by rw[kV];exact Qz.out.below (((Below.refl _ _).alloc (Nat.le_refl _) _).alloc (by simp) _))
 have HPB:Hid (w2.heap[w1.heap.size]? =some (.cells #[.slice none 0 0, .int .i64 0, .int .i64 s.size, .map (some bm)] 286 (0,0))):=(show _=_ by rw[kV];exact(Bx.eO w1 _ _).bJ rfl)
 have my:Hid (w2.heap[w1.heap.size+1]? =some (.cells #[.string s] 9 (0,0))):=(show _=_ by rw[kV];exact(Bx.eO w1 _ _).bh rfl)
 have dL:w2.heap.size=w1.heap.size+1+1:=by rw[kV];simp
 have db:=aO.out.b8
 rw[←kV]
 have Pw:Hid (bm<w2.heap.size):=(show _<_ from(Array.getElem?_eq_some_iff.1 Ve.out).1)
 clear kV Qz
 simp only[List.length_cons,List.length_nil]at db
 have vu:Hid (Ds Tryz.prog 214 #[.pointer (some ⟨w1.heap.size+1,0,none⟩)] w2 (fun i=>i=w1.heap.size) 0 0 (DF T) (fun i=>i=T.length)):=(show Ds _ _ _ _ _ _ _ _ _ from
  DG s hs T QC.out (w1.heap.size+1) w w2 aA.out.1 Xa.out (by have:=my.out;simp[World.cell?,this]) (by omega) _ (by omega) (fun i hi=>by rw[hi];omega))
 refine wpIn_wide.1 (re rfl (enters_of Tryz.func214 (by kernel_rfl) rfl) (fun i=>i=w1.heap.size) 0 0 (DF T) (fun i=>i=T.length) vu.out (fun i args i' W h=>by obtain⟨t,_,rfl,_⟩:=h;rfl) (fun i hi=>by rw[hi];omega)
  (Hk w1.heap.size bm s.size T w2) (fun _ _=>False) (fun i A B h ho=>h.only ho (by omega) Pw.out) (fun c A B h _=>h) ?h0 ?hround ?hdone ?hstop)
 case h0=>
  exact⟨_,HPB.out,aK.nil _ _ _ _,ag.refl _ _,Ve.out⟩
 case hround=>
  intro l i args i' W hI Ip cB
  obtain⟨t,ht,rfl,rfl,R8⟩:=Ip
  obtain⟨lv,Cr,bn,hU,IA⟩:=hI
  simp only[iZ]
  gi_wp2_with(rw[Oper.semAt_eq _ _ _ (fun c h=>by cases h)];go_simp;try go_bits)
  have hP:Hk w1.heap.size bm s.size T w2 i W:=⟨_,Cr,bn,hU,IA⟩
  refine⟨(ag.refl _ W).alloc _,fun W2 fK IQ=> ?_⟩
  have hP2:=(hP.only ((ag.refl (Ml w2 0) W).alloc _) (by omega) Pw.out).only (fK.mono fun i hi=>(show Ml w2 0 i from by have:i=w2.heap.size+1:=hi;exact⟨by omega,by omega⟩)) (by omega) Pw.out
  have LF:=fK.at_ (heap_alloc_new W _) (by show¬W.heap.size=w2.heap.size+1;omega)
  obtain⟨lv,Cr,bn,hU,IA⟩:=hP2
  obtain⟨a,cap,rfl,lQ,u7⟩:=bn.open_
  have ZO:=Lib.hid Cr
  have kn:=Lib.hid bn
  have ko:=Lib.hid hU
  have ZP:=Lib.hid IA
  have WV:=Lib.hid LF
  obtain⟨q0,q1,q2,q3⟩:=ab LF
  obtain⟨p0,p1,p2,p3⟩:=ab Cr
  have ni:((t.kind:Int)==0)=false:=by simp;omega
  obtain⟨i0,dF,ZQ,ZR,ZS⟩:=info_parts Bt
  have xY:=(List.getElem?_eq_some_iff.1 ht).1
  have nf:Hid ((T.take (i+1)).map eJ=(T.take i).map eJ++[eJ t]):=(show _=_ by rw[List.take_add_one,ht];simp)
  simp only[List.length_map,List.length_take]at lQ p0
  rw[Nat.min_eq_left (by omega)]at lQ p0
  have sO:Hid ((bL t.s).size≤200):=(show _≤_ from by have:=(mh t (List.mem_of_getElem? ht)).1;simpa [bL,ByteArray.size]using this)
  have dZ:Hid (((T.take i).map eJ).length=i):=(show _=_ by simp;omega)
  have cw:Hid (aK (fun _=>False) (w2.heap.size+2) 291 W2 (.slice a i cap) ((T.take i).map eJ)):=(show aK _ _ _ _ _ _ from by have h:=kn.out;rw[dZ.out]at h;exact h)
  have ZT:Hid (W2.heap[w1.heap.size]? =some (.cells #[.slice a i cap, .int .i64 0, .int .i64 s.size, .map (some bm)] 286 (0,0))):=(show _=_ from by have h:=ZO.out;rw[dZ.out]at h;exact h)
  simp only[Bs]at IQ
  clear Cr bn hU IA LF hP ht fK
  gi_wp2_with(first
   |(gi_at_builtin
     go_loud(refine nT (α:=tH) rfl _ _ _ rfl (fun _=>False) (w2.heap.size+2) 291 i0 _ 40 Tryz.underlying280 dF ZQ ZR ZS rfl (by decide) (.slice a i cap) ((T.take i).map eJ) rfl (cw.out.alloc _) (fun _=>True) _ _ (eJ t) rfl (iw _ _ _ _ 4 rfl IQ trivial) ⟨rfl,sO.out⟩ (by rw[dZ.out];unfold maxLen;omega) (by rw[dZ.out];omega) (by show _≤(W2.alloc _).heap.size;simp;omega) ?_)
     rw[dZ.out]
     intro a2 c2 W3 iR vx bP
     have nk:=Lib.hid iR
     have bO:=Lib.hid bP
     have Rs:Hid (W3.heap[w1.heap.size]? =some (.cells #[.slice a i cap, .int .i64 0, .int .i64 s.size, .map (some bm)] 286 (0,0))):=(show _=_ from(bP.block _ (by omega)).trans ((Below.heap_alloc W2 _ _ (by omega)).trans ZT.out))
     have p0':=(ab Rs.out).1
     have f0':=aa Rs.out 0
     clear iR vx bP)
   |(rw[Oper.semAt_eq _ _ _ (fun c h=>by cases h)];go_simp;try go_bits))
  exact Hl ko.out ZP.out (by omega) (by have:=EN.out;omega) Pw.out bO.out (by omega) Rs.out nk.out nf.out
 case hdone=>
  intro i W hE hI hD
  obtain rfl:i=T.length:=hE
  obtain⟨lv,Cr,bn,hU,IA⟩:=hI
  rw[List.take_length]at bn
  have EH:=aA.out.1.size
  have hsW:=hU.size
  have HPX:Hid (dN w1.heap.size bm lv s.size T W 0):=(show dN _ _ _ _ _ _ _ from⟨Cr,(bn.swap (M':=aG w1.heap.size) (fun h=>h)).slice (fun j hj=>by have:j=w1.heap.size:=hj;omega),IA,by have:=EN.out;omega,hl,Nat.zero_le _,HK.out⟩)
  have ZU:=Lib.hid (Ks w1.heap.size bm lv s.size T mh x hp W HPX.out)
  have ko:=Lib.hid hU
  have HD:=Lib.hid hD
  clear Cr bn hU IA hD hp
  go_wp2_with fail
  refine(ZU.out).mono ?_
  rintro e w3⟨_,rfl,ek,wH⟩
  have HR:Hid (∀W' v,Below w3.heap.size w3 W'→bI (eA W) w3 v x→_):=(show∀W' v,_→_→_ from fun W' v hb ha=>xB x QU hxd fH (eA W) W' v (fun j hj=>by
   have:j<W.heap.size:=hj
   have h1:=wH.size
   have h2:=hb.size
   omega) (ha.below hb) (Xa.out.below ((iO (iO aA.out.1 EH ko.out (fun j hj=>by omega)) (by omega) wH (fun j hj=>by have:j=w1.heap.size:=hj;omega)).trans (hb.mono (by have:=wH.size;omega)))))
  obtain⟨xk,xn,xs,xl⟩:=x
  have vi:=Lib.hid ek
  obtain⟨cs,rfl,bw⟩:=ek
  obtain⟨av,rfl,aU,iD⟩:=bS.iff.1 bw
  obtain⟨xa,xc,rfl,_⟩:=aU.open_
  have eM:=Lib.hid aU
  have R0:=wH.at_ (ko.out.at_ (aA.out.bJ rfl) (by omega)) (by unfold aG;omega)
  have R1:=wH.at_ (ko.out.at_ (aA.out.bh rfl) (by omega)) (by unfold aG;omega)
  have R2:=wH.at_ (ko.out.at_ (aA.out.df rfl) (by omega)) (by unfold aG;omega)
  have HD3:=Lib.hid (wH.at_ HD.out (by unfold aG;omega))
  have bO:Hid (Below w.heap.size w w3):=(show Below _ _ _ from iO (iO aA.out.1 EH ko.out (fun j hj=>by omega)) (by omega) wH (fun j hj=>by have:j=w1.heap.size:=hj;omega))
  have ME:=Lib.hid R0
  have mr:=Lib.hid R1
  have vH:=Lib.hid R2
  have Iu:=wH.size
  clear bw aU wH QU hxd fH R0 R1 R2
  go_wp2_with fail
  refine(HR.out _ _ ((Below.refl _ _).alloc (Nat.le_refl _) _) vi.out).mono ?_
  rintro e w4⟨rfl,eS⟩
  have Rt:Hid (w4.heap[w3.heap.size]? =some (Cw xk xn xs (.slice xa xl.length xc))):=(show _=_ from boxed eS)
  have fJ:=Lib.hid (aL eS)
  obtain⟨q0,q1,q2,q3⟩:=ab Rt.out
  have lt0:w.heap.size<w3.heap.size:=by omega
  have lt1:w.heap.size+1<w3.heap.size:=by omega
  have lt2:w.heap.size+1+1<w3.heap.size:=by omega
  have IB:=Lib.hid ((fJ.out.block _ lt0).trans ME.out)
  have Ru:=Lib.hid ((fJ.out.block _ lt1).trans mr.out)
  have Rv:=Lib.hid ((fJ.out.block _ lt2).trans vH.out)
  have HD4:=Lib.hid ((fJ.out.block _ (Array.getElem?_eq_some_iff.1 HD3.out).1).trans HD3.out)
  obtain⟨r0,r1,r2,r3⟩:=ab IB.out
  have f0:=aa IB.out 0
  have f1:=aa IB.out 1
  have f2:=aa IB.out 2
  have f3:=aa IB.out 3
  have s0:=aa Ru.out 0
  have s1:=aa Rv.out 0
  have m0:w4.cell? ⟨w.heap.size+1,0,none⟩=some (.int .i64 0):=by simp[World.cell?,Ru.out,qF]
  have m1:w4.cell? ⟨w.heap.size+1+1,0,none⟩=some (.int .i64 0):=by simp[World.cell?,Rv.out,qF]
  clear eS HR
  go_wp2_with fail
  obtain⟨W',gX⟩:∃W':World,W'=(((((w4.setCell ⟨w.heap.size,0,none⟩ (.int .i64 xk)).setCell ⟨w.heap.size,1,none⟩ (.int .i64 xn)).setCell ⟨w.heap.size,2,none⟩ (.string xs)).setCell ⟨w.heap.size,3,none⟩ (.slice xa xl.length xc)).setCell ⟨w.heap.size+1,0,none⟩ (.int .i64 0)).setCell ⟨w.heap.size+1+1,0,none⟩ (.int .i64 0):=⟨_,rfl⟩
  rw[←gX]
  obtain⟨g0,g1,g2,g3⟩:=Hm IB.out Ru.out Rv.out gX
  have gd:=g3.at_ HD4.out (by omega)
  refine⟨by simp, .inl ⟨_,_,rfl,run_takeDeferred gd,?_⟩⟩
  obtain⟨W2,sP⟩:∃W2:World,W2=W'.putObj w2.heap.size (.deferred none):=⟨_,rfl⟩
  rw[←sP]
  have o2:ag (fun j=>j=w2.heap.size) W' W2:=by rw[sP];exact(ag.refl (fun j=>j=w2.heap.size) W').putObj (.inl rfl) _
  have o4:ag (fun j=>w.heap.size≤j∧j≤w2.heap.size) w4 W2:=(g3.mono fun j hj=>⟨hj.1,by omega⟩).trans (o2.mono fun j hj=>by have:j=w2.heap.size:=hj;omega)
  have k0:=o2.at_ g0 (by omega)
  have k1:=o2.at_ g1 (by omega)
  have k2:=o2.at_ g2 (by omega)
  have h2W:w2.heap.size<W.heap.size:=(Array.getElem?_eq_some_iff.1 HD.out).1
  obtain⟨a0,a1,a2,a3⟩:=ab k0
  have a4:W2.cell? ⟨w.heap.size+1,0,none⟩=some (.int .i64 0):=by simp[World.cell?,k1,qF]
  have a5:W2.cell? ⟨w.heap.size+1+1,0,none⟩=some (.int .i64 0):=by simp[World.cell?,k2,qF]
  refine⟨.tuple #[.agg #[.int .i64 xk, .int .i64 xn, .string xs, .slice xa xl.length xc], .int .i64 0, .int .i64 0],by simp[results,Tryz.results166,go_sem,a0,a1,a2,a3,a4,a5],(show aF _ _ _ _ from⟨_,rfl,⟨_,rfl,⟨_,rfl,bS.iff.2 ⟨_,rfl,?_,iD⟩⟩⟩,?_⟩)⟩
  ·refine ae.ev (eM.out.below fJ.out) ⟨o4.mono fun j hj=> ?_,fun j hj=> .inl ?_⟩
   ·show j<W.heap.size;omega
   ·have h1:j<w.heap.size:=hj
    show j<W.heap.size;omega
  ·exact iO (bO.out.trans (fJ.out.mono (by omega))) (by have:=fJ.out.size;omega) o4 (fun j hj=>hj.1)
 case hstop=>intro c W h;exact h.elim
end Go.Proofs.YtlkjnefenialbaaGreatDoor
