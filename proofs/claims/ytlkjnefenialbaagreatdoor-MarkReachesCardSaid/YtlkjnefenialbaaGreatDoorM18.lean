/- What could, Refs, WorldObj and the generator's world answer; no condition beyond each theorem's own. -/
import Derived.Test.YtlkjnefenialbaaGreatDoorM15
import Derived.Test.YtlkjnefenialbaaGreatDoorM17
import Derived.OwnWalkIn
import Derived.WalkMore
import Derived.BigQuiet
set_option linter.unusedVariables false
set_option linter.unusedSimpArgs false
set_option maxHeartbeats 8000000
set_option maxRecDepth 100000
namespace Go.Proofs.YtlkjnefenialbaaGreatDoor
section
open Go.RowKit Go.Shelf
theorem Bx.only {w A B:World}{os:List Obj}{S:Nat→Prop}(h:Bx w os A)(ho:ag S A B)(hS:∀i,S i→w.heap.size+os.length≤i):Bx w os B:=by
 obtain⟨h1,h2,h3⟩:=h
 refine⟨⟨ho.os.trans h1.os,ho.tape.trans h1.tape,ho.output.trans h1.output,Nat.le_trans h1.size ho.size,fun i hi=>(ho.block i (by omega) (fun hs=>by have:=hS i hs;omega)).trans (h1.block i hi)⟩,Nat.le_trans h2 ho.size,fun i o hi=> ?_⟩
 have hl:=(List.getElem?_eq_some_iff.1 hi).1
 exact ho.at_ (h3 i o hi) (fun hs=>by have:=hS _ hs;omega)
theorem cA {B:Nat}{S:Nat→Prop}{w w2 W:World}(h:Below B w w2)(hB:B≤w2.heap.size)(k:ag S w2 W)(hS:∀i,S i→B≤i):Below B w W:=
 ⟨k.os.trans h.os,k.tape.trans h.tape,k.output.trans h.output,Nat.le_trans h.size k.size,fun i hi=>(k.block i (by omega) (fun hs=>by have:=hS i hs;omega)).trans (h.block i hi)⟩
def IH(b:Bool):Obj:= .cells #[.bool b] 4 (0,0)
def eh(x:dz)(vv:Value):Obj:= .cells #[.int .i64 x.id, .int .i64 x.cls, .int .i64 x.ver,vv] 56 (0,0)
def Cv(vv:Value):Obj:= .cells #[vv] 54 (0,0)
structure M4(many:Int)(x:dz):Prop where
 id1:1≤x.id
 id2:x.id≤100000
 c1:0≤x.cls
 c2:x.cls<8
 v1:0≤x.ver
 v2:x.ver≤12
 cz:∃fs,aW fs many x.cz
 len:x.cz.length≤8
theorem JN(x:dz)(many:Int)(hm:many≤100000)(hx:M4 many x)(M:Nat→Prop)(w:World)(hM:Bd M w)(vv:Value)(dk:ae M w vv x.cz)(hT:Tb w):
 Calls Tryz.prog 50 #[.agg #[.int .i64 x.id, .int .i64 x.cls, .int .i64 x.ver,vv]] w fun e w'=>e= .returned (.bool true)∧Below w.heap.size w w':=by
 have N8:Hid (∀p W,Below w.heap.size w W→W.heap[p]? =some (Cv vv)→Ds Tryz.prog 76 #[.pointer (some ⟨p,0,none⟩)] W (fun _=>False) 0 0 (um x.cz (yK M w)) (fun i=>i=x.cz.length)):=(show∀p W,_→_→_ from fun p W h1 h2=>AJ x.cz M (fun _=>False) p w W h1 vv dk h2 (fun _ h=>h.elim))
 obtain⟨fs,bz⟩:=hx.cz
 have HR:Hid (∀W(i:Nat)v u N,x.cz[i]? =some v→Below w.heap.size w W→bI N W u v→_):=(show∀W(i:Nat)v u N,_→_→_→_ from fun W i v u N hi hb hu=>by
  obtain⟨f,_,hf⟩:=eF bz v (List.mem_of_getElem? hi)
  exact uf hf hm hu (hT.below hb))
 have NZ:Hid (∀W(i:Nat)v u,x.cz[i]? =some v→Below w.heap.size w W→bI M W u v→_):=(show∀W(i:Nat)v u,_→_→_→_ from fun W i v u hi hb hu=>by
  obtain⟨f,_,hf⟩:=eF bz v (List.mem_of_getElem? hi)
  exact JM hf hm (hM.below hb) hu (hT.below hb))
 have e1:=hx.id1
 have e2:=hx.id2
 have e3:=hx.c1
 have e4:=hx.c2
 have e5:=hx.v1
 have e6:=hx.v2
 have e7:=hx.len
 obtain⟨xi,xc,xv,xs⟩:=x
 dsimp only at*
 obtain⟨a,bu,rfl,cq,po,_⟩:=dk.open_
 generalize hn:xs.length=n at*
 have dZ:=Lib.hid hn;clear hn
 have e8:(n:Int)≤8:=by omega
 clear dk bz hx hM hT
 refine callsIn_wide.1 (callsIn_of_wp_marks (n:=0) Tryz.func50 rfl trivial (wpIn_wide.2 ?_) rfl)
 simp only[Tryz.ntmps50,List.size_toArray,List.length_cons,List.length_nil,Nat.reduceAdd,Nat.reduceSub,Array.replicate_succ,Array.replicate_zero,List.push_toArray,List.append_toArray,List.nil_append,List.cons_append]
 go_wp2_with fail
 refine wp_scope_straight ?_
 go_wp2_with fail
 refine wp_label ?_
 simp only[Exit.then]
 go_wp2_with fail
 refine(Fv _ _ _ _).mono ?_
 rintro e w2⟨rfl,rfl⟩
 go_wp2_with fail
 obtain⟨w2,kV⟩:∃w2:World,w2=((w.alloc (eh ⟨xi,xc,xv,xs⟩ (.slice a n bu))).alloc (IH true)).alloc (Cv (.slice a n bu)):=⟨_,rfl⟩
 have aA:Hid (Bx w [eh ⟨xi,xc,xv,xs⟩ (.slice a n bu),IH true,Cv (.slice a n bu)] w2):=(show Bx _ _ _ by rw[kV];exact Bx.fB w _ _ _)
 have dL:w2.heap.size=w.heap.size+3:=by rw[kV];simp
 unfold eh IH Cv at kV
 rw[←kV]
 clear kV
 have vu:=Lib.hid (N8.out _ w2 aA.out.1 (aA.out.df rfl))
 refine wpIn_wide.1 (re rfl (enters_of Tryz.func76 (by kernel_rfl) rfl) (fun _=>False) 0 0 (um xs (yK M w)) (fun i=>i=n) vu.out (fun i args i' W h=>by obtain⟨_,v,u,_,rfl,_⟩:=h;rfl) (fun i hi=>hi.elim)
  (fun _ W=>Bx w [eh ⟨xi,xc,xv,xs⟩ (.slice a n bu),IH true,Cv (.slice a n bu)] W) (fun _ _=>False) (fun i A B h ho=>h.only ho (fun j hj=>by have:=hj.1;simp;omega)) (fun c A B h _=>h) (show Bx _ _ _ from aA.out) ?hround ?hdone ?hstop)
 case hstop=>intro c W h;exact h.elim
 case hround=>
  intro l i args i' W hI Ip cB
  obtain⟨rfl,v,u,hv,rfl,hu⟩:=Ip
  have HI:=Lib.hid hI
  have HV:=Lib.hid hv
  have HU:=Lib.hid hu
  obtain⟨vk,vn,vs,vl⟩:=v
  obtain⟨va,vc,rfl,_⟩:=cj hu
  clear hI hv hu
  gi_wp2_with(rw[Oper.semAt_eq _ _ _ (fun c h=>by cases h)];go_simp;try go_bits)
  refine⟨(ag.refl _ W).alloc _,fun W2 fK IQ=> ?_⟩
  have nh:Hid (ag (yK M w) W W2):=(show ag _ _ _ from((ag.refl _ W).alloc _).trans (fK.mono fun j hj=> .inr (by have:j=w2.heap.size+1:=hj;omega)))
  have mi:Hid (Bx w [eh ⟨xi,xc,xv,xs⟩ (.slice a n bu),IH true,Cv (.slice a n bu)] W2):=(show Bx _ _ _ from(HI.out.alloc _).only fK (fun j hj=>by have:j=w2.heap.size+1:=hj;simp;omega))
  have WU:Hid (bI (yK M w) W2 (.agg #[.int .i64 vk, .int .i64 vn, .string vs, .slice va vl.length vc]) (au.mk vk vn vs vl)):=(show bI _ _ _ _ from HU.out.ev ⟨nh.out,fun j hj=> .inl hj⟩)
  have LF:=fK.at_ (heap_alloc_new W (fD vk vn vs (.slice va vl.length vc))) (by show¬W.heap.size=w2.heap.size+1;omega)
  obtain⟨q0,q1,q2,q3⟩:=ab LF
  have WV:=Lib.hid LF
  clear LF fK nh
  gi_wp2_with(rw[Oper.semAt_eq _ _ _ (fun c h=>by cases h)];go_simp;try go_bits)
  refine⟨trivial,rfl,(CallsIn.inRound l (callsIn_wide.2 (HR.out W2 i _ _ _ HV.out mi.out.1 WU.out))).mono ?_⟩
  rintro e w3⟨rfl,bP⟩
  have rF:=Lib.hid (mi.out.below bP)
  have HU3:=Lib.hid (WU.out.below bP)
  have sB:=Lib.hid (ag.aj (S:=Cu (fun _=>False) w2 0) bP)
  have vb:=bP.size
  obtain⟨p0,p1,p2,p3⟩:=ab ((bP.block _ (Array.getElem?_eq_some_iff.1 WV.out).1).trans WV.out)
  have Pd:=Lib.hid (NZ.out w3 i _ _ HV.out rF.out.1 (HU3.out.ev (Ev.ee w3 fun j hj=> .inl hj)))
  clear bP q0 q1 q2 q3
  gi_wp2_with(rw[Oper.semAt_eq _ _ _ (fun c h=>by cases h)];go_simp;try go_bits)
  refine⟨trivial,rfl,(CallsIn.inRound l (callsIn_wide.2 Pd.out)).mono ?_⟩
  rintro e w4⟨rfl,eS⟩
  have HI4:=Lib.hid (rF.out.below eS)
  have Ph:=Lib.hid (sB.out.trans (ag.aj eS))
  clear eS
  gi_wp2_with(rw[Oper.semAt_eq _ _ _ (fun c h=>by cases h)];go_simp;try go_bits)
  exact⟨Ph.out,HI4.out⟩
 case hdone=>
  intro i W hE hI hD
  have HI:=Lib.hid hI
  have HD:=Lib.hid hD
  clear hI hD
  have b0:W.cell? ⟨w.heap.size+1,0,none⟩=some (.bool true):=one_cell (HI.out.bh rfl)
  go_wp2_with fail
  rw[Exit.noGoto_ret]
  refine⟨by simp, .inl ⟨_,_,rfl,run_takeDeferred HD.out,?_⟩⟩
  refine⟨.bool true,by simp[results,Tryz.results50,go_sem],rfl,?_⟩
  exact cA HI.out.1 HI.out.1.size ((ag.refl (fun j=>j=w2.heap.size) W).putObj (.inl rfl) _) (fun j hj=>by have:j=w2.heap.size:=hj;omega)
end
section
open Go.RowKit
theorem AK {c:ai}(h:aH c=true):∀f∈c.fields,aB f.type=true:=by
 intro f hf
 obtain⟨j,hj⟩:=List.getElem?_of_mem hf
 have:=((aZ c).1 h).2.2 j f (List.getElem?_eq_some_iff.1 hj).1 hj
 simp only[aY,Bool.and_eq_true]at this
 exact this.1.1.2
def rh(x:iE)(vv:Value):Obj:= .cells #[.int .i64 x.cls, .int .i64 x.ver,vv, .int .i64 x.skip] 59 (0,0)
theorem AL(ls:List aE)(h:dV ls)(h1:0<ls.length)(x:iE)(hx:I6 x.cls∧I6 x.ver∧∀y∈x.cz,I6 y)(id many:Int)(zA:many≤1000)(M:Nat→Prop)(w:World)(hM:Bd M w)(lv vv:Value)(hs:ae M w lv ls)(hv:ae (α:=Int) M w vv x.cz):
 Calls Tryz.prog 18 #[.agg #[lv], .int .i64 id, .agg #[.int .i64 x.cls, .int .i64 x.ver,vv, .int .i64 x.skip], .int .i64 many] w (aF w fun u w'=>∃(k v:Nat)(l:aE)(vs:List au)(uv:Value),u= .agg #[.int .i64 id, .int .i64 (k:Int), .int .i64 (v:Int),uv]∧mN ls many ⟨id,(k:Int),(v:Int),vs⟩ k v l∧ae M w' uv vs):=by
 have h4:=h.len
 have hk:=bU x.cls ls.length h1
 obtain⟨l,hl⟩:∃l,ls[aD x.cls ls.length]? =some l:=⟨_,List.getElem?_eq_getElem hk⟩
 have vo:=h.lines l (List.mem_of_getElem? hl)
 have hc5:=vo.len
 have hvr:=bU x.ver (l.changes.length+1) (by omega)
 have Iq:Hid (∀W,Calls Tryz.prog 21 #[.int .i64 x.cls, .int .i64 (ls.length:Int)] W fun e w'=>e= .returned (.int .i64 (aD x.cls ls.length:Int))∧W=w'):=(show∀W,_ from fun W=>by
  have h:=jx x.cls (ls.length:Int) W hx.1 (by omega) (by omega)
  simpa using h)
 have NX:Hid (∀W,Calls Tryz.prog 21 #[.int .i64 x.ver, .int .i64 ((l.changes.length:Int)+1)] W fun e w'=>e= .returned (.int .i64 (aD x.ver (l.changes.length+1):Int))∧W=w'):=(show∀W,_ from fun W=>by
  have h:=jx x.ver ((l.changes.length:Int)+1) W hx.2.1 (by omega) (by omega)
  rw[show((l.changes.length:Int)+1).toNat=l.changes.length+1 from by omega]at h
  exact h)
 have vF:Hid (∀W,Below w.heap.size w W→w.heap.size+4≤W.heap.size→_):=(show∀W,_→_→_ from fun W hb hz=>M0 ls h (eP M w 4) W (dS hM hz) lv (hs.ev (dR hb)) (aD x.cls ls.length) l hl (aD x.ver (l.changes.length+1)) (by omega) (aI l (aD x.ver (l.changes.length+1))) (vo.at_ _))
 have ng:=vo.mL (aD x.ver (l.changes.length+1))
 have Pj:=(aZ _).1 ng.right
 have HVA:Hid (∀W fv,Below w.heap.size w W→w.heap.size+4≤W.heap.size→ae (eP M w 4) W fv (aI l (aD x.ver (l.changes.length+1))).fields→_):=(show∀W fv,_→_→_→_ from fun W fv hb hz hf=>by
  have hh:=C4 (eP M w 4) W (dS hM hz) (aI l (aD x.ver (l.changes.length+1))) fv vv x.cz many hf (hv.ev (dR hb)) hx.2.2 Pj.2.1 (AK ng.right) zA
  rw[vo.name]at hh
  exact hh)
 have HLC:=hD (eE hs hl)
 have qz:=hD hl
 obtain⟨la,lc,rfl,EK,_⟩:=hs.open_
 obtain⟨va,vc,rfl,_⟩:=hv.open_
 clear hs hv hM hx h vo ng Pj hl
 generalize aD x.cls ls.length=k at*
 generalize aD x.ver (l.changes.length+1)=v at*
 obtain⟨xc,xv,xs,xk⟩:=x
 dsimp only at*
 have cQ:=hD (Bx.fB w (eW (.slice la ls.length lc)) (rh ⟨xc,xv,xs,xk⟩ (.slice va xs.length vc)) (eh ⟨0,0,0,[]⟩ (.slice none 0 0)))
 go_enter Tryz.func18,Tryz.ntmps18
 go_wp2_with fail
 refine(Iq.out _).mono ?_
 rintro e w1⟨rfl,rfl⟩
 go_upto_region 2 with fail
 obtain⟨W2,sP⟩:∃W2:World,W2=(((w.alloc (eW (.slice la ls.length lc))).alloc (rh ⟨xc,xv,xs,xk⟩ (.slice va xs.length vc))).alloc (eh ⟨0,0,0,[]⟩ (.slice none 0 0))).alloc (eh ⟨id,(k:Int),0,[]⟩ (.slice none 0 0)):=⟨_,rfl⟩
 have aA:Hid (Bx w [eW (.slice la ls.length lc),rh ⟨xc,xv,xs,xk⟩ (.slice va xs.length vc),eh ⟨0,0,0,[]⟩ (.slice none 0 0),eh ⟨id,(k:Int),0,[]⟩ (.slice none 0 0)] W2):=(show Bx _ _ _ by rw[sP];exact Bx.MW w _ _ _ _)
 unfold eW rh eh at sP
 rw[←sP]
 clear sP
 obtain⟨b,off,cap,fa,fc,ca,cc,Ut,YZ,pj,gz,mf,ao⟩:=HLC.out
 obtain⟨rfl,rfl⟩:la=some ⟨b,off,none⟩∧lc=cap:=by simpa using Ut
 obtain⟨q0,q1,q2⟩:=ao W2 aA.out.1
 have y0:=one_cell (aA.out.bJ rfl)
 obtain⟨x0,x1,x2,x3⟩:=ab (aA.out.bh rfl)
 obtain⟨o0,o1,o2,o3⟩:=ab (aA.out.Gr rfl)
 have f2:=aa (aA.out.Gr rfl) 2
 have i0:(0:Int)≤(k:Int):=Int.natCast_nonneg _
 have i1:(k:Int)<(ls.length:Int):=by omega
 have i3:IntKind.i64.wrap ((l.changes.length:Int)+1)=(l.changes.length:Int)+1:=IntWalk.i64_in _ (by omega)
 clear Ut pj gz ao
 go_cut [](fun wx=>Hid (Bx w [eW (.slice (some ⟨b,off,none⟩) ls.length lc),rh ⟨xc,xv,xs,xk⟩ (.slice va xs.length vc),eh ⟨0,0,0,[]⟩ (.slice none 0 0),eh ⟨id,(k:Int),(v:Int),[]⟩ (.slice none 0 0)] wx))
 case first=>
  go_region_law(first
   |(go_simp
     go_at_call 21
     refine(NX.out _).mono ?_
     rintro e w'⟨rfl,rfl⟩))
  all_goals(go_wp2_with fail;go_meet)
  all_goals exact(show Bx _ _ _ from by first
   |simpa [eh]using aA.out.drew.set 3 2 rfl (.int .i64 (v:Int))
   |simpa [eh]using(aA.out.set 3 2 rfl (.int .i64 (v:Int))).drew)
 case rest=>
  have bO:=hcut
  clear q0 q1 q2 y0 x0 x1 x2 x3 o0 o1 o2 o3 f2
  obtain⟨W3,sy⟩:∃W3:World,W3=wc:=⟨_,rfl⟩
  subst sy
  have y0:=one_cell (bO.out.bJ rfl)
  obtain⟨o0,o1,o2,o3⟩:=ab (bO.out.Gr rfl)
  go_wp2_with fail
  refine(vF.out _ bO.out.1 (by have:=bO.out.b8;exact this)).mono ?_
  rintro e w4⟨_,rfl,⟨fv,rfl,hf⟩,eS⟩
  have Uo:=hf
  obtain⟨ga,gc,rfl,_⟩:=Uo.open_
  have fJ:=hD (bO.out.below eS)
  have HF4:=hD hf
  clear hf eS y0 o0 o1 o2 o3
  have h3:=fun o=>ab ((fJ.out.alloc o).Gr rfl)
  have g3:=fun o=>aa ((fJ.out.alloc o).Gr rfl) 3
  have x3:=fun o=>ab ((fJ.out.alloc o).bh rfl)
  go_upto_region 4 with fail
  obtain⟨W4,qA⟩:∃W4:World,W4=w4.alloc (cg l.first.name (.slice ga (aI l v).fields.length gc)):=⟨_,rfl⟩
  have nK:Hid (Bx w [eW (.slice (some ⟨b,off,none⟩) ls.length lc),rh ⟨xc,xv,xs,xk⟩ (.slice va xs.length vc),eh ⟨0,0,0,[]⟩ (.slice none 0 0),eh ⟨id,(k:Int),(v:Int),[]⟩ (.slice none 0 0)] W4):=(show Bx _ _ _ from by rw[qA];exact fJ.out.alloc _)
  have WW:Hid (W4.heap[w4.heap.size]? =some (cg l.first.name (.slice ga (aI l v).fields.length gc))):=(show _=_ from by rw[qA];exact heap_alloc_new w4 _)
  have HF5:Hid (ae (eP M w 4) W4 (.slice ga (aI l v).fields.length gc) (aI l v).fields):=(show ae _ _ _ _ from by rw[qA];exact HF4.out.below ((Below.refl _ w4).alloc (Nat.le_refl _) _))
  unfold cg at qA
  rw[←qA]
  clear qA h3 g3 x3
  obtain⟨c0,c1⟩:=af WW.out
  obtain⟨x0,x1,x2,x3⟩:=ab (nK.out.bh rfl)
  go_wp2_with fail
  refine(HVA.out _ _ nK.out.1 (by have:=nK.out.b8;exact this) HF5.out).mono ?_
  rintro e w6⟨_,rfl,⟨vs,Uk,aU⟩,qy⟩
  have wq:=aU
  obtain⟨ua,uc,rfl,_⟩:=wq.open_
  have vJ:=hD (nK.out.below qy)
  have FY:=hD aU
  have N9:=hD Uk
  clear aU qy Uk c0 c1 x0 x1 x2 x3
  obtain⟨o0,o1,o2,o3⟩:=ab (vJ.out.Gr rfl)
  have f3:=aa (vJ.out.Gr rfl) 3
  obtain⟨r0,r1,r2,r3⟩:=ab (vJ.out.df rfl)
  have f20:=aa (vJ.out.df rfl) 0
  have f21:=aa (vJ.out.df rfl) 1
  have f22:=aa (vJ.out.df rfl) 2
  have f23:=aa (vJ.out.df rfl) 3
  have kR:Hid (∀W',W'=((((w6.setCell ⟨w.heap.size+1+1+1,3,none⟩ (.slice ua vs.length uc)).setCell ⟨w.heap.size+1+1,0,none⟩ (.int .i64 id)).setCell ⟨w.heap.size+1+1,1,none⟩ (.int .i64 (k:Int))).setCell ⟨w.heap.size+1+1,2,none⟩ (.int .i64 (v:Int))).setCell ⟨w.heap.size+1+1,3,none⟩ (.slice ua vs.length uc)→(∃(k2 v2:Nat)(l2:aE)(vs2:List au)(uv:Value),Value.agg #[.int .i64 id, .int .i64 (k:Int), .int .i64 (v:Int), .slice ua vs.length uc]= .agg #[.int .i64 id, .int .i64 (k2:Int), .int .i64 (v2:Int),uv]∧mN ls many ⟨id,(k2:Int),(v2:Int),vs2⟩ k2 v2 l2∧ae M W' uv vs2)∧Below w.heap.size w W'):=(show∀W',_→_ from fun W' gX=>by
   have E:Ev (eP M w 4) w6 M W':=by
    rw[gX]
    exact(((((Ev.ee w6 fun i hi=> .inl hi).setCell (.inl (.inr ⟨by simp;omega,by simp⟩)) _).setCell (.inl (.inr ⟨by simp;omega,by simp⟩)) _).setCell (.inl (.inr ⟨by simp;omega,by simp⟩)) _).setCell (.inl (.inr ⟨by simp;omega,by simp⟩)) _).setCell (.inl (.inr ⟨by simp;omega,by simp⟩)) _
   refine⟨⟨k,v,l,vs,_,rfl,⟨rfl,rfl,qz.out,by omega,N9.out⟩,FY.out.ev E⟩,?_⟩
   rw[gX]
   exact((((vJ.out.1.setCell (by simp;omega) _).setCell (by simp;omega) _).setCell (by simp;omega) _).setCell (by simp;omega) _).setCell (by simp;omega) _)
  go_wp2_with fail
  exact bodyPost_ret (v:= .agg #[.int .i64 id, .int .i64 (k:Int), .int .i64 (v:Int), .slice ua vs.length uc]) (by simp[results,Tryz.results18,go_sem,r0,r1,r2,r3,f20,f21,f22,f23]) rfl ⟨_,rfl,kR.out _ rfl⟩
end
section
open Go.RowKit Go.Shelf
theorem rj {t:aJ}{many:Int}{v:au}(h:cX t many v)(k:Int):(bT k v).length≤12:=by
 unfold bT
 split
 ·simp
 ·rw[List.length_map]
  refine Nat.le_trans (List.length_filter_le _ _) ?_
  rcases h with⟨_,l,rfl,hl,_⟩|⟨_,h1⟩
  ·exact hl
  ·rcases h1 with⟨_,n,rfl,_⟩|⟨_,s,rfl,_⟩|⟨_,rfl|⟨n,rfl,_⟩⟩<;>simp[au.list]
def S9(v:Value):Obj:= .cells #[v] 27 (0,0)
structure sH(w w2:World)(vs:List au)(i:Nat)(lv:Value)(W:World):Prop where
 blk:W.heap[w.heap.size+1]? =some (S9 lv)
 acc:aK (α:=Int) (fun _=>False) (w2.heap.size+2) 3 W lv ((vs.take i).flatMap (bT 3))
 below:Below w.heap.size w W
 len:((vs.take i).flatMap (bT 3)).length≤12*i
theorem yL {M M':Nat→Prop}{w w':World}{cs:List Value}{x:Int}(h:az.rep M w cs x):az.rep M' w' cs x:=h
section
variable {w w2 W A B:World}{vs:List au}{i:Nat}{lv:Value}{S:Nat→Prop}
theorem sH.only(h:sH w w2 vs i lv A)(ho:ag S A B)(hS:∀j,S j→w.heap.size+2≤j∧j<w2.heap.size+2):sH w w2 vs i lv B:=
 ⟨ho.at_ h.blk (fun h=>by have:=(hS _ h).1;omega),h.acc.Aa ho (fun j hj=>(hS j hj).2) yL,cA h.below h.below.size ho (fun j hj=>by have:=(hS j hj).1;omega),h.len⟩
theorem sH.later(h:sH w w2 vs i lv A)(hb:Below A.heap.size A B):sH w w2 vs i lv B:=
 ⟨(hb.block _ (Array.getElem?_eq_some_iff.1 h.blk).1).trans h.blk,h.acc.below hb,h.below.trans (hb.mono h.below.size),h.len⟩
theorem sH.next(h:sH w w2 vs i lv A)(hw:w.heap.size+1<w2.heap.size){v:au}{t:aJ}{many:Int}(hv:vs[i]? =some v)(ho:cX t many v){l2:Value}(bn:aK (α:=Int) (fun _=>False) (w2.heap.size+2) 3 B l2 ((vs.take i).flatMap (bT 3)++bT 3 v))(hb:Below (w2.heap.size+2) A B)(hA:w2.heap.size+2≤A.heap.size):
 sH w w2 vs (i+1) l2 (B.setCell ⟨w.heap.size+1,0,none⟩ l2)∧ag (Cu (fun j=>j=w.heap.size+1) w2 0) A (B.setCell ⟨w.heap.size+1,0,none⟩ l2):=by
 have e:(vs.take (i+1)).flatMap (bT 3)=(vs.take i).flatMap (bT 3)++bT 3 v:=by rw[List.take_add_one,hv,List.flatMap_append];simp
 have iX:=(hb.block (w.heap.size+1) (by omega)).trans h.blk
 have o1:ag (fun j=>j=w.heap.size+1) B (B.setCell ⟨w.heap.size+1,0,none⟩ l2):=(ag.refl (fun j=>j=w.heap.size+1) B).setCell (p:=⟨w.heap.size+1,0,none⟩) (.inl rfl) _
 refine⟨⟨?_,?_,?_,?_⟩,?_⟩
 ·have:=heap_setCell_same B (w.heap.size+1) 0 _ _ l2 iX
  simpa [S9]using this
 ·rw[e]
  exact bn.Aa o1 (fun j hj=>by have:j=w.heap.size+1:=hj;omega) yL
 ·exact(h.below.trans (hb.mono (by omega))).setCell (by show w.heap.size≤w.heap.size+1;omega) _
 ·have:=h.len
  have:=rj ho 3
  rw[e,List.length_append];omega
 ·refine ag.trans ?_ (o1.mono fun j hj=> .inl hj)
  exact⟨hb.os,hb.tape,hb.output,hb.size,fun j hj hS=>hb.block j (Classical.byContradiction fun hc=>hS (.inr (by omega)))⟩
end
theorem yM(x:dz)(many:Int)(hm:many≤100000)(fs:List ak)(bz:aW fs many x.cz)(h8:x.cz.length≤8)(M:Nat→Prop)(w:World)(hM:Bd M w)(vv:Value)(dk:ae M w vv x.cz)(hT:Tb w):
 Calls Tryz.prog 32 #[.agg #[.int .i64 x.id, .int .i64 x.cls, .int .i64 x.ver,vv]] w (aF w fun v w'=>ae M w' v (x.cz.flatMap (bT 3))):=by
 have HM:=Lib.hid hM
 have N8:Hid (∀p W,Below w.heap.size w W→w.heap.size+1<W.heap.size→W.heap[p]? =some (Cv vv)→Ds Tryz.prog 76 #[.pointer (some ⟨p,0,none⟩)] W (fun j=>j=w.heap.size+1) 0 0 (um x.cz (yK M w)) (fun i=>i=x.cz.length)):=(show∀p W,_→_→_→_ from fun p W h1 h3 h2=>AJ x.cz M (fun j=>j=w.heap.size+1) p w W h1 vv dk h2 (fun j h=>by have:j=w.heap.size+1:=h;omega))
 have N9:Hid (∀(i:Nat)v,x.cz[i]? =some v→∃t,cX t many v):=(show∀(i:Nat)v,_→_ from fun i v hi=>by
  obtain⟨f,_,hf⟩:=eF bz v (List.mem_of_getElem? hi)
  exact⟨_,hf⟩)
 have HR:Hid (∀W(i:Nat)v u N,x.cz[i]? =some v→Below w.heap.size w W→Bd N W→bI N W u v→_):=(show∀W(i:Nat)v u N,_→_→_→_→_ from fun W i v u N hi hb hN hu=>by
  obtain⟨f,_,hf⟩:=eF bz v (List.mem_of_getElem? hi)
  exact AD hf hm hN hu (hT.below hb))
 obtain⟨i0,dF,dM,db,dL⟩:=info_parts jz
 obtain⟨xi,xc,xv,xs⟩:=x
 dsimp only at*
 obtain⟨a,bu,rfl,cq,po,_⟩:=dk.open_
 generalize hn:xs.length=n at*
 have dZ:=Lib.hid hn;clear hn
 clear dk bz hM hT
 refine callsIn_wide.1 (callsIn_of_wp_marks (n:=0) Tryz.func32 rfl trivial (wpIn_wide.2 ?_) rfl)
 simp only[Tryz.ntmps32,List.size_toArray,List.length_cons,List.length_nil,Nat.reduceAdd,Nat.reduceSub,Array.replicate_succ,Array.replicate_zero,List.push_toArray,List.append_toArray,List.nil_append,List.cons_append]
 go_wp2_with fail
 refine(Fv _ _ _ _).mono ?_
 rintro e w2⟨rfl,rfl⟩
 go_wp2_with fail
 obtain⟨w2,kV⟩:∃w2:World,w2=((w.alloc (eh ⟨xi,xc,xv,xs⟩ (.slice a n bu))).alloc (S9 (.slice none 0 0))).alloc (Cv (.slice a n bu)):=⟨_,rfl⟩
 have aA:Hid (Bx w [eh ⟨xi,xc,xv,xs⟩ (.slice a n bu),S9 (.slice none 0 0),Cv (.slice a n bu)] w2):=(show Bx _ _ _ by rw[kV];exact Bx.fB w _ _ _)
 have qcn:w2.heap.size=w.heap.size+3:=by rw[kV];simp
 unfold eh S9 Cv at kV
 rw[←kV]
 clear kV
 have vu:=Lib.hid (N8.out _ w2 aA.out.1 (by omega) (aA.out.df rfl))
 refine wpIn_wide.1 (re rfl (enters_of Tryz.func76 (by kernel_rfl) rfl) (fun j=>j=w.heap.size+1) 0 0 (um xs (yK M w)) (fun i=>i=n) vu.out (fun i args i' W h=>by obtain⟨_,v,u,_,rfl,_⟩:=h;rfl) (fun j hj=>by have:j=w.heap.size+1:=hj;omega)
  (fun i W=>∃lv,sH w w2 xs i lv W) (fun _ _=>False) (fun i A B⟨lv,h⟩ho=>⟨lv,h.only ho (fun j hj=>⟨by have:=hj.1;omega,by have:=hj.2;omega⟩)⟩) (fun c A B h _=>h) ⟨_,⟨aA.out.bh rfl,aK.nil _ _ _ _,aA.out.1,by simp⟩⟩ ?hround ?hdone ?hstop)
 case hstop=>intro c W h;exact h.elim
 case hround=>
  intro l i args i' W hI Ip cB
  obtain⟨rfl,v,u,hv,rfl,hu⟩:=Ip
  obtain⟨lv,hI⟩:=hI
  have HI:=Lib.hid hI
  have HV:=Lib.hid hv
  have HU:=Lib.hid hu
  obtain⟨vk,vn,vs,vl⟩:=v
  obtain⟨va,vc,rfl,_⟩:=cj hu
  clear hI hv hu
  gi_wp2_with(rw[Oper.semAt_eq _ _ _ (fun c h=>by cases h)];go_simp;try go_bits)
  refine⟨(ag.refl _ W).alloc _,fun W2 fK IQ=> ?_⟩
  have mi:Hid (sH w w2 xs i lv W2):=(show sH _ _ _ _ _ _ from(HI.out.later ((Below.refl _ _).alloc (Nat.le_refl _) _)).only fK (fun j hj=>by have:j=w2.heap.size+1:=hj;omega))
  have WU:Hid (bI (yK M w) W2 (.agg #[.int .i64 vk, .int .i64 vn, .string vs, .slice va vl.length vc]) (au.mk vk vn vs vl)):=(show bI _ _ _ _ from HU.out.ev ⟨((ag.refl _ W).alloc _).trans (fK.mono fun j hj=> .inr (by have:j=w2.heap.size+1:=hj;omega)),fun j hj=> .inl hj⟩)
  have LF:=fK.at_ (heap_alloc_new W (fD vk vn vs (.slice va vl.length vc))) (by show¬W.heap.size=w2.heap.size+1;omega)
  obtain⟨q0,q1,q2,q3⟩:=ab LF
  have WV:=Lib.hid LF
  have l0:W2.cell? ⟨w.heap.size+1,0,none⟩=some lv:=one_cell mi.out.blk
  clear LF fK
  gi_wp2_with(rw[Oper.semAt_eq _ _ _ (fun c h=>by cases h)];go_simp;try go_bits)
  have Uu:=N9.out i _ HV.out
  obtain⟨vt,SE⟩:=Uu
  have Uu:=Lib.hid SE
  have LG:=Lib.hid (rj SE 3)
  have hi8:i<n:=by have:=(List.getElem?_eq_some_iff.1 HV.out).1;have:=dZ.out;omega
  have FP:Hid (Below w.heap.size w W2.drew):=(show Below _ _ _ from mi.out.below.drew)
  have EN:Hid (Bd (bc lv fun _=>False) W2.drew):=(show Bd _ _ from fun j hj=>hj.elim (fun h=>h.elim) fun h=>(mi.out.acc.dO j h).2)
  have T7:Hid (bI (bc lv fun _=>False) W2.drew (.agg #[.int .i64 vk, .int .i64 vn, .string vs, .slice va vl.length vc]) (au.mk vk vn vs vl)):=(show bI _ _ _ _ from(WU.out.ev (Ev.ee W2 fun j hj=>hj.elim (fun h=>h.elim) fun h=> .inr (by have:=(mi.out.acc.dO j h).1;omega))).ev ((Ev.refl _ _).drew))
  have QW:w2.heap.size+2≤W2.heap.size:=by simp at IQ;omega
  clear SE
  refine wpIn_region_any (by kernel_rfl) ?_
  change wpAnyIn _ _ _ _ _ _ _ _ _ (World.drew _)
  refine wpAnyIn_ready (rs:=[0,1]) (by kernel_rfl) (by simp) ?_
  refine AllReadyIn.cons rfl (fun K hK=> ?_) (AllReadyIn.cons rfl (fun K hK=> ?_) AllReadyIn.nil)
  ·go_simp;(try rw[Oper.semAt_eq _ _ _ (fun c h=>by cases h)]);go_simp;(try go_bits)
   refine hK _ _ ?_;clear hK K
   refine wpAnyIn_ready (rs:=[1]) (by kernel_rfl) (by simp) ?_
   refine AllReadyIn.cons rfl (fun K hK=> ?_) AllReadyIn.nil
   go_simp;(try rw[Oper.semAt_eq _ _ _ (fun c h=>by cases h)]);go_simp;(try go_bits)
   refine hK _ _ ?_;clear hK K
   refine wpAnyIn_ready (rs:=[2]) (by kernel_rfl) (by simp) ?_
   refine AllReadyIn.cons rfl (fun K hK=> ?_) AllReadyIn.nil
   go_simp;(try rw[Oper.semAt_eq _ _ _ (fun c h=>by cases h)]);go_simp;(try go_bits)
   refine⟨trivial,rfl,(CallsIn.inRound l (callsIn_wide.2 (HR.out W2.drew i _ _ (bc lv fun _=>False) HV.out FP.out EN.out T7.out))).mono ?_⟩
   rintro e w3⟨_,rfl,nZ,bP⟩
   obtain⟨ra,rc,rfl,_⟩:=nZ.open_
   have rF:=Lib.hid (mi.out.later ((Below.refl W2.heap.size W2).drew.trans bP))
   have jr:=Lib.hid nZ
   have sB:=Lib.hid (ag.aj (S:=Cu (fun j=>j=w.heap.size+1) w2 0) ((Below.refl W2.heap.size W2).drew.trans bP))
   have vb:w2.heap.size+2≤w3.heap.size:=Nat.le_trans QW (sB.out.size)
   have l3:w3.cell? ⟨w.heap.size+1,0,none⟩=some lv:=one_cell rF.out.blk
   clear nZ bP
   refine hK _ _ ?_;clear hK K
   refine wpAnyIn_ready (rs:=[3]) (by kernel_rfl) (by simp) ?_
   refine AllReadyIn.cons rfl (fun K hK=> ?_) AllReadyIn.nil
   have hlen:=rF.out.len
   refine gN (α:=Int) rfl _ _ _ rfl (fun _=>False) (w2.heap.size+2) 3 i0 _ 8 Tryz.underlying27 dF dM db dL rfl (by decide) lv ((xs.take i).flatMap (bT 3)) rfl rF.out.acc _ (bT 3 (au.mk vk vn vs vl)) rfl jr.out (by have:=LG.out;unfold maxLen;omega) (by have:=LG.out;omega) vb ?_
   intro a2 c2 w4 bn zH eS
   generalize((xs.take i).flatMap (bT 3)).length+(bT 3 (au.mk vk vn vs vl)).length=q at bn zH⊢
   obtain⟨vK,ve⟩:=rF.out.next (by omega) HV.out Uu.out bn eS vb
   have vK:=Lib.hid vK
   have ve:=Lib.hid ve
   have vw:=(eS.block (w.heap.size+1) (by omega)).trans rF.out.blk
   have l4:w4.cell? ⟨w.heap.size+1,0,none⟩=some lv:=one_cell vw
   have f4:=aa vw 0
   clear bn zH eS vw
   refine hK _ _ ?_;clear hK K
   refine wpAnyIn_ready (rs:=[4]) (by kernel_rfl) (by simp) ?_
   refine AllReadyIn.cons rfl (fun K hK=> ?_) AllReadyIn.nil
   go_simp;(try rw[Oper.semAt_eq _ _ _ (fun c h=>by cases h)]);go_simp;(try go_bits)
   refine hK _ _ ?_;clear hK K
   refine wpAnyIn_done (by kernel_rfl) ?_ _
   simp only[Exit.inBlock]
   exact⟨sB.out.trans ve.out,⟨_,vK.out⟩⟩
  ·go_simp;(try rw[Oper.semAt_eq _ _ _ (fun c h=>by cases h)]);go_simp;(try go_bits)
   refine hK _ _ ?_;clear hK K
   refine wpAnyIn_ready (rs:=[0,2]) (by kernel_rfl) (by simp) ?_
   refine AllReadyIn.cons rfl (fun K hK=> ?_) (AllReadyIn.cons rfl (fun K hK=> ?_) AllReadyIn.nil)
   ·go_simp;(try rw[Oper.semAt_eq _ _ _ (fun c h=>by cases h)]);go_simp;(try go_bits)
    refine hK _ _ ?_;clear hK K
    refine wpAnyIn_ready (rs:=[2]) (by kernel_rfl) (by simp) ?_
    refine AllReadyIn.cons rfl (fun K hK=> ?_) AllReadyIn.nil
    go_simp;(try rw[Oper.semAt_eq _ _ _ (fun c h=>by cases h)]);go_simp;(try go_bits)
    refine⟨trivial,rfl,(CallsIn.inRound l (callsIn_wide.2 (HR.out W2.drew i _ _ (bc lv fun _=>False) HV.out FP.out EN.out T7.out))).mono ?_⟩
    rintro e w3⟨_,rfl,nZ,bP⟩
    obtain⟨ra,rc,rfl,_⟩:=nZ.open_
    have rF:=Lib.hid (mi.out.later ((Below.refl W2.heap.size W2).drew.trans bP))
    have jr:=Lib.hid nZ
    have sB:=Lib.hid (ag.aj (S:=Cu (fun j=>j=w.heap.size+1) w2 0) ((Below.refl W2.heap.size W2).drew.trans bP))
    have vb:w2.heap.size+2≤w3.heap.size:=Nat.le_trans QW (sB.out.size)
    have l3:w3.cell? ⟨w.heap.size+1,0,none⟩=some lv:=one_cell rF.out.blk
    clear nZ bP
    refine hK _ _ ?_;clear hK K
    refine wpAnyIn_ready (rs:=[3]) (by kernel_rfl) (by simp) ?_
    refine AllReadyIn.cons rfl (fun K hK=> ?_) AllReadyIn.nil
    have hlen:=rF.out.len
    refine gN (α:=Int) rfl _ _ _ rfl (fun _=>False) (w2.heap.size+2) 3 i0 _ 8 Tryz.underlying27 dF dM db dL rfl (by decide) lv ((xs.take i).flatMap (bT 3)) rfl rF.out.acc _ (bT 3 (au.mk vk vn vs vl)) rfl jr.out (by have:=LG.out;unfold maxLen;omega) (by have:=LG.out;omega) vb ?_
    intro a2 c2 w4 bn zH eS
    generalize((xs.take i).flatMap (bT 3)).length+(bT 3 (au.mk vk vn vs vl)).length=q at bn zH⊢
    obtain⟨vK,ve⟩:=rF.out.next (by omega) HV.out Uu.out bn eS vb
    have vK:=Lib.hid vK
    have ve:=Lib.hid ve
    have vw:=(eS.block (w.heap.size+1) (by omega)).trans rF.out.blk
    have l4:w4.cell? ⟨w.heap.size+1,0,none⟩=some lv:=one_cell vw
    have f4:=aa vw 0
    clear bn zH eS vw
    refine hK _ _ ?_;clear hK K
    refine wpAnyIn_ready (rs:=[4]) (by kernel_rfl) (by simp) ?_
    refine AllReadyIn.cons rfl (fun K hK=> ?_) AllReadyIn.nil
    go_simp;(try rw[Oper.semAt_eq _ _ _ (fun c h=>by cases h)]);go_simp;(try go_bits)
    refine hK _ _ ?_;clear hK K
    refine wpAnyIn_done (by kernel_rfl) ?_ _
    simp only[Exit.inBlock]
    exact⟨sB.out.trans ve.out,⟨_,vK.out⟩⟩
   ·go_simp;(try rw[Oper.semAt_eq _ _ _ (fun c h=>by cases h)]);go_simp;(try go_bits)
    refine⟨trivial,rfl,(CallsIn.inRound l (callsIn_wide.2 (HR.out W2.drew i _ _ (bc lv fun _=>False) HV.out FP.out EN.out T7.out))).mono ?_⟩
    rintro e w3⟨_,rfl,nZ,bP⟩
    obtain⟨ra,rc,rfl,_⟩:=nZ.open_
    have rF:=Lib.hid (mi.out.later ((Below.refl W2.heap.size W2).drew.trans bP))
    have jr:=Lib.hid nZ
    have sB:=Lib.hid (ag.aj (S:=Cu (fun j=>j=w.heap.size+1) w2 0) ((Below.refl W2.heap.size W2).drew.trans bP))
    have vb:w2.heap.size+2≤w3.heap.size:=Nat.le_trans QW (sB.out.size)
    have l3:w3.cell? ⟨w.heap.size+1,0,none⟩=some lv:=one_cell rF.out.blk
    clear nZ bP
    refine hK _ _ ?_;clear hK K
    refine wpAnyIn_ready (rs:=[0]) (by kernel_rfl) (by simp) ?_
    refine AllReadyIn.cons rfl (fun K hK=> ?_) AllReadyIn.nil
    go_simp;(try rw[Oper.semAt_eq _ _ _ (fun c h=>by cases h)]);go_simp;(try go_bits)
    refine hK _ _ ?_;clear hK K
    refine wpAnyIn_ready (rs:=[3]) (by kernel_rfl) (by simp) ?_
    refine AllReadyIn.cons rfl (fun K hK=> ?_) AllReadyIn.nil
    have hlen:=rF.out.len
    refine gN (α:=Int) rfl _ _ _ rfl (fun _=>False) (w2.heap.size+2) 3 i0 _ 8 Tryz.underlying27 dF dM db dL rfl (by decide) lv ((xs.take i).flatMap (bT 3)) rfl rF.out.acc _ (bT 3 (au.mk vk vn vs vl)) rfl jr.out (by have:=LG.out;unfold maxLen;omega) (by have:=LG.out;omega) vb ?_
    intro a2 c2 w4 bn zH eS
    generalize((xs.take i).flatMap (bT 3)).length+(bT 3 (au.mk vk vn vs vl)).length=q at bn zH⊢
    obtain⟨vK,ve⟩:=rF.out.next (by omega) HV.out Uu.out bn eS vb
    have vK:=Lib.hid vK
    have ve:=Lib.hid ve
    have vw:=(eS.block (w.heap.size+1) (by omega)).trans rF.out.blk
    have l4:w4.cell? ⟨w.heap.size+1,0,none⟩=some lv:=one_cell vw
    have f4:=aa vw 0
    clear bn zH eS vw
    refine hK _ _ ?_;clear hK K
    refine wpAnyIn_ready (rs:=[4]) (by kernel_rfl) (by simp) ?_
    refine AllReadyIn.cons rfl (fun K hK=> ?_) AllReadyIn.nil
    go_simp;(try rw[Oper.semAt_eq _ _ _ (fun c h=>by cases h)]);go_simp;(try go_bits)
    refine hK _ _ ?_;clear hK K
    refine wpAnyIn_done (by kernel_rfl) ?_ _
    simp only[Exit.inBlock]
    exact⟨sB.out.trans ve.out,⟨_,vK.out⟩⟩
 case hdone=>
  intro i W hE hI hD
  obtain⟨lv,hI⟩:=hI
  obtain rfl:i=n:=hE
  have HI:=Lib.hid hI
  have HD:=Lib.hid hD
  clear hI hD
  have l0:W.cell? ⟨w.heap.size+1,0,none⟩=some lv:=one_cell HI.out.blk
  go_wp2_with fail
  refine⟨by simp, .inl ⟨_,_,rfl,run_takeDeferred HD.out,?_⟩⟩
  have o2:ag (fun j=>j=w2.heap.size) W (W.putObj w2.heap.size (.deferred none)):=(ag.refl (fun j=>j=w2.heap.size) W).putObj (.inl rfl) _
  have bn:=HI.out.acc.Aa o2 (fun j hj=>by have:j=w2.heap.size:=hj;omega) yL
  rw[←dZ.out,List.take_length]at bn
  have aU:=bn.slice (fun j hj=>hj.elim)
  refine⟨lv,by simp[results,Tryz.results32,go_sem],_,rfl,?_,cA HI.out.below HI.out.below.size o2 (fun j hj=>by have:j=w2.heap.size:=hj;omega)⟩
  obtain⟨css,k1,k2,k3⟩:=bn
  refine⟨css,(ba.qH k1).mono fun j hj _ TA=> ?_,k2,k3⟩
  have:=(k1.lt j hj).1
  have:=HM.out j TA
  omega
theorem rp(w:World)(n:Nat):Below w.heap.size w (w.drewN n):=⟨rfl,rfl,rfl,Nat.le_refl _,fun _ _=>rfl⟩
theorem GP:(Tryz.prog.info? 64).map (fun i=>(i.zero,i.size,i.bytes))=some (some (.agg #[.string ⟨#[]⟩, .int .i64 0]),2,24):=by kernel_rfl
def OJ(r:cC):Obj:= .cells #[.string r.name, .int .i64 r.id] 64 (0,0)
theorem M5(l:List cC)(r:cC)(hr:0<r.id)(hrn:r.name.size≤maxLen)(h5:l.length≤5)(j d:Nat)(hj:j+d≤l.length)(LH:∀i y,i<j→l[i]? =some y→Op.bytesLess y.name.toList r.name.toList=true)(hstop:∀y,l[j]? =some y→Op.bytesLess y.name.toList r.name.toList=false∧(y.name.toList==r.name.toList)=decide (d=1))(hd:d≤1)(M:Nat→Prop)(w:World)(hM:Bd M w)(lv:Value)(hl:ae M w lv l)(mz:l=[]→lv= .slice none 0 0):
 Calls Tryz.prog 19 #[lv, .agg #[.string r.name, .int .i64 r.id]] w (aF w fun u w'=>ae M w' u (l.take j++[r]++l.drop (j+d))):=by
 obtain⟨i0,dF,dM,db,dL⟩:=info_parts GP
 have HR:Hid (∀i y,l[i]? =some y→_):=(show∀i y,_→_ from fun i y hx=>gq hl hx)
 have WX:=hD LH
 have eT:=hD hstop
 have kU:=hD hM
 have QX:=hD hrn
 have LG:=hD hl
 obtain⟨ra,rc,rfl,NV,Sw,_⟩:=hl.open_
 have HL0:Hid (l.length=0→ra=none∧rc=0):=(show _→_ from fun h=>by
  have:=mz (List.eq_nil_of_length_eq_zero h)
  simpa using(show ra=none∧l.length=0∧rc=0 by simpa using this)|>.elim (fun a b=>⟨a,b.2⟩))
 have Y0:Hid (0<l.length→∃b off,ra=some ⟨b,off,none⟩):=(show _→_ from fun h=>by
  obtain⟨y,hy⟩:∃y,l[0]? =some y:=⟨_,List.getElem?_eq_getElem h⟩
  obtain⟨b,off,cap,hv,_⟩:=gq hl hy
  exact⟨b,off,by simpa using(show ra=some ⟨b,off,none⟩∧rc=cap by simpa using hv).1⟩)
 clear hl hM LH hstop hrn mz
 generalize hn:l.length=n at*
 have dZ:=hD hn;clear hn
 obtain⟨rn,ri⟩:=r
 dsimp only at*
 have Uv:decide ((0:Int)<ri)=true:=by simpa using hr
 go_enter Tryz.func19,Tryz.ntmps19
 go_wp2_with fail
 go_loopg [5,6]j(fun g r5 iv wr=>∃(i c1:Nat)(a1:Option Addr),i≤j∧g=j-i∧iv= .int .i64 i∧r5= .slice a1 i c1∧Hid (aK (α:=cC) M (w.heap.size+1) 64 wr (.slice a1 i c1) (l.take i))∧Hid (Bx w [OJ ⟨rn,ri⟩] wr))
 case atStart=>exact⟨0,0,none,Nat.zero_le _,rfl,rfl,rfl,(show aK _ _ _ _ _ _ from aK.nil _ _ _ _),(show Bx _ _ _ from Bx.fA w _)⟩
 case round=>
  obtain⟨i,c1,a1,hi,rfl,rfl,rfl,HA,HB⟩:=hrel
  obtain⟨y0,y1⟩:=af (HB.out.bJ rfl)
  have Y1:(0:Int)≤(i:Int):=Int.natCast_nonneg _
  go_upto_region 3 with fail
  go_cut [20](fun s20 wx=>∃nq bb,s20= .bool bb∧Hid (bb=decide (i<j))∧wx=wr.drewN nq)
  case first=>
   by_cases jP:i<n
   ·obtain⟨y,hy⟩:∃y,l[i]? =some y:=⟨_,List.getElem?_eq_getElem (by rw[dZ.out];exact jP)⟩
    obtain⟨b,off,cap,hv,bZ,_,ao⟩:=HR.out i y hy
    obtain⟨rfl,rfl⟩:ra=some ⟨b,off,none⟩∧rc=cap:=by first|simpa using hv|(rw[dZ.out]at hv;simpa using hv)
    obtain⟨q0,q1⟩:=ao wr HB.out.1
    have Oa:(i:Int)<(n:Int):=by omega
    have Y2:Op.bytesLess y.name.toList rn.toList=decide (i<j):=by
     by_cases FU:i<j
     ·rw[WX.out i y FU hy,decide_eq_true FU]
     ·obtain rfl:i=j:=by omega
      rw[(eT.out y hy).1,decide_eq_false FU]
    clear hv ao hy
    go_quiet(fail)
    go_wp2_with fail
    go_meet
    exact⟨nq,_,rfl,(show _=_ from by first|exact Y2|rfl),rfl⟩
   ·have Oa:decide ((i:Int)<(n:Int))=false:=by simp;omega
    have FU:decide (i<j)=false:=by simp;omega
    go_quiet(fail)
    go_wp2_with fail
    go_meet
    exact⟨nq,_,rfl,(show _=_ from FU.symm),rfl⟩
  case rest=>
   obtain⟨nq,bb,rfl,EI,rfl⟩:=hcut
   cases bb with
   |true=>
    have FU:i<j:=of_decide_eq_true EI.out.symm
    obtain⟨y,hy⟩:∃y,l[i]? =some y:=⟨_,List.getElem?_eq_getElem (by rw[dZ.out];omega)⟩
    obtain⟨b,off,cap,hv,bZ,hyn,ao⟩:=HR.out i y hy
    obtain⟨rfl,rfl⟩:ra=some ⟨b,off,none⟩∧rc=cap:=by simpa using hv
    obtain⟨q0,q1⟩:=ao wr HB.out.1
    have Oa:(i:Int)<(n:Int):=by omega
    have nP:Hid ((l.take i).length=i):=(show _=_ by have:=dZ.out;rw[List.length_take];omega)
    have nf:Hid (l.take i++[y]=l.take (i+1)):=(show _=_ by rw[List.take_add_one,hy];simp)
    have HYN:=hD hyn
    obtain⟨yn,yi⟩:=y
    clear ao hv hy hyn
    have cB:=HB.out.b8
    go_wp2_with(at_builtin
                refine aQ (α:=cC) rfl _ _ _ rfl M (w.heap.size+1) 64 i0 _ 24 Tryz.underlying33 dF dM db dL rfl (by decide) (.slice a1 i c1) (l.take i) rfl ((HA.out.below (rp wr nq)).alloc _) (fun _=>True) _ _ ⟨yn,yi⟩ rfl (ct _ _ _ _ rfl trivial) ⟨rfl,HYN.out⟩ (by rw[nP.out];unfold maxLen;omega) (by rw[nP.out];omega) (by have:=HB.out.b8;simp at this⊢;omega) ?_
                rw[nP.out,nf.out]
                intro a2 c2 w2 bj dj aM
                have cw:=hD bj
                have bO:=hD aM
                clear bj dj aM)
    go_roundg(j-(i+1))
    case measure=>omega
    case rel=>
     refine⟨i+1,c2,a2,by omega,rfl,by go_num,rfl,cw,(show Bx _ _ _ from((HB.out.drewN nq).alloc _).cJ bO.out (by simp))⟩
   |false=>
    have FU:¬i<j:=of_decide_eq_false EI.out.symm
    obtain rfl:i=j:=by omega
    have nP:Hid ((l.take i).length=i):=(show _=_ by have:=dZ.out;rw[List.length_take];omega)
    have sQ:Hid ((l.take i++[(⟨rn,ri⟩:cC)]).length=i+1):=(show _=_ by rw[List.length_append,nP.out];rfl)
    have hi5:i≤5:=by omega
    have cB:=HB.out.b8
    go_upto_region 8 with(
     at_builtin
     refine aQ (α:=cC) rfl _ _ _ rfl M (w.heap.size+1) 64 i0 _ 24 Tryz.underlying33 dF dM db dL rfl (by decide) (.slice a1 i c1) (l.take i) rfl ((HA.out.below (rp wr nq)).alloc _) (fun _=>True) _ _ ⟨rn,ri⟩ rfl (ct _ _ _ _ rfl trivial) ⟨rfl,QX.out⟩ (by rw[nP.out];unfold maxLen;omega) (by rw[nP.out];omega) (by have:=HB.out.b8;simp at this⊢;omega) ?_
     rw[nP.out]
     intro a2 c2 w2 bj dj aM
     have cw:=hD bj
     have aA:Hid (Bx w [OJ ⟨rn,ri⟩] w2):=(show Bx _ _ _ from((HB.out.drewN nq).alloc _).cJ aM (by simp))
     clear bj dj aM)
    clear y0 y1
    obtain⟨y0,y1⟩:=af (aA.out.bJ rfl)
    go_cut [50](fun s50 wx=>∃Cl bb,s50= .bool bb∧Hid (bb=decide (d=1))∧wx=w2.drewN Cl)
    case first=>
     by_cases jP:i<n
     ·obtain⟨y,hy⟩:∃y,l[i]? =some y:=⟨_,List.getElem?_eq_getElem (by rw[dZ.out];exact jP)⟩
      obtain⟨b,off,cap,hv,bZ,_,ao⟩:=HR.out i y hy
      obtain⟨rfl,rfl⟩:ra=some ⟨b,off,none⟩∧rc=cap:=by simpa using hv
      obtain⟨q0,q1⟩:=ao w2 aA.out.1
      have Oa:(i:Int)<(n:Int):=by omega
      have HDE:=hD (eT.out y hy).2
      clear hv ao hy
      go_quiet(fail)
      go_wp2_with fail
      go_meet
      exact⟨nq,_,rfl,(show _=_ from HDE.out),rfl⟩
     ·have Oa:decide ((i:Int)<(n:Int))=false:=by simp;omega
      have QR:decide (d=1)=false:=by simp;omega
      go_quiet(fail)
      go_wp2_with fail
      go_meet
      exact⟨nq,_,rfl,(show _=_ from QR.symm),rfl⟩
    case rest=>
     obtain⟨Cl,bd,rfl,Pd,rfl⟩:=hcut
     have Y3:Hid (Ev M w (bc (.slice a2 (i+1) c2) M) (w2.drewN Cl)):=(show Ev _ _ _ _ from⟨ag.aj (aA.out.drewN Cl).1,fun j hj=>hj.imp_right fun e=>by have:=(cw.out.dO j e).1;omega⟩)
     cases bd with
     |true=>
      have Uw:=Pd.out
      obtain rfl:d=1:=by simp at Uw;omega
      have QY:Hid ((l.drop (i+1)).length=n-(i+1)):=(show _=_ by rw[List.length_drop,dZ.out])
      have Y4:IntKind.i64.wrap ((i:Int)+1)=(i:Int)+1:=IntWalk.i64_in _ (by omega)
      have s1:(i:Int)≤(n:Int):=by omega
      have s2:(0:Int)≤(i:Int)+1:=by omega
      have s9:((i:Int)+1).toNat=i+1:=by omega
      have s4:i+1≤rc:=by omega
      have s5:i+1≤n:=hj
      have s8:(i:Int)+1≤(n:Int):=by omega
      obtain⟨ap,oZ⟩:∃ap,Hid (ae (bc (.slice a2 (i+1) c2) M) (w2.drewN Cl) (.slice ap (n-(i+1)) (rc-(i+1))) (l.drop (i+1))∧((n=0∧ap=none∧ra=none∧rc=0∧i=0)∨∃b off,ra=some ⟨b,off,none⟩∧(if rc=i+1 then some (⟨b,off,none⟩:Addr)else some ⟨b,off+(i+1)*2,none⟩)=ap)):=by
       by_cases vG:n=0
       ·obtain⟨e1,e2⟩:=HL0.out vG
        refine⟨none,(show _∧_ from⟨?_, .inl ⟨vG,rfl,e1,e2,by omega⟩⟩)⟩
        have e3:l=[]:=List.eq_nil_of_length_eq_zero (dZ.out.trans vG)
        have e4:n-(i+1)=0:=by omega
        have e5:rc-(i+1)=0:=by omega
        rw[e3,e4,e5,List.drop_nil]
        exact ae.nil _ _
       ·obtain⟨b,off,e1⟩:=Y0.out (by omega)
        refine⟨_,(show _∧_ from⟨?_, .inr ⟨b,off,e1,rfl⟩⟩)⟩
        have iJ:=(LG.out.ev Y3.out).from_ dZ.out (k:=i+1) hj
        rw[e1]at iJ
        simpa [Addr.add,show az.size cC=2 from rfl]using iJ
      clear Uw
      rcases oZ.out.2 with⟨rfl,rfl,rfl,rfl,rfl⟩|⟨b,off,rfl,My⟩
      ·omega
      ·go_wp2_with(at_builtin
                   refine cP (α:=cC) rfl _ _ _ rfl M (w.heap.size+1) 64 i0 _ 24 Tryz.underlying33 dF dM db dL rfl (by decide) (.slice a2 (_+1) c2) (l.take _++[⟨rn,ri⟩]) rfl (cw.out.below (rp w2 Cl)) _ (l.drop (_+1)) rfl oZ.out.1 (by rw[sQ.out,QY.out];unfold maxLen;omega) (by rw[sQ.out,QY.out];omega) (by have:=aA.out.b8;simp at this⊢;omega) ?_
                   rw[sQ.out,QY.out]
                   intro a3 c3 w3 iR vx bP
                   have nk:=hD iR
                   have bO:=hD bP
                   clear iR vx bP)
       go_ret
       have h4:=nk.out.slice (fun j hj=>Nat.lt_succ_of_lt (kU.out j hj))
       rw[show i+1+(n-(i+1))=n from by omega]at h4
       exact⟨_,rfl,by simpa using h4,((aA.out.drewN Cl).cJ bO.out (by simp)).1⟩
     |false=>
      have Uw:=Pd.out
      obtain rfl:d=0:=by simp at Uw;omega
      have s5:i≤n:=by omega
      have s1:(i:Int)≤(n:Int):=by omega
      have s4:i≤rc:=by omega
      clear Uw
      rcases Nat.eq_zero_or_pos i with N7|N7
      ·subst N7
       have oZ:Hid (ae (bc (.slice a2 (0+1) c2) M) (w2.drewN Cl) (.slice ra n rc) l):=(show ae _ _ _ _ from LG.out.ev Y3.out)
       rcases Nat.eq_zero_or_pos n with vG|vG
       ·obtain⟨rfl,rfl⟩:=HL0.out vG
        subst vG
        go_wp2_with(at_builtin
                    refine cP (α:=cC) rfl _ _ _ rfl M (w.heap.size+1) 64 i0 _ 24 Tryz.underlying33 dF dM db dL rfl (by decide) (.slice a2 (0+1) c2) (l.take 0++[⟨rn,ri⟩]) rfl (cw.out.below (rp w2 Cl)) _ (l) rfl oZ.out (by rw[sQ.out,dZ.out];unfold maxLen;omega) (by rw[sQ.out,dZ.out];omega) (by have:=aA.out.b8;simp at this⊢;omega) ?_
                    rw[sQ.out,dZ.out]
                    intro a3 c3 w3 iR vx bP
                    have nk:=hD iR
                    have bO:=hD bP
                    clear iR vx bP)
        go_ret
        have h4:=nk.out.slice (fun j hj=>Nat.lt_succ_of_lt (kU.out j hj))
        exact⟨_,rfl,by simpa using h4,((aA.out.drewN Cl).cJ bO.out (by simp)).1⟩
       ·obtain⟨b,off,rfl⟩:=Y0.out vG
        go_wp2_with(at_builtin
                    refine cP (α:=cC) rfl _ _ _ rfl M (w.heap.size+1) 64 i0 _ 24 Tryz.underlying33 dF dM db dL rfl (by decide) (.slice a2 (0+1) c2) (l.take 0++[⟨rn,ri⟩]) rfl (cw.out.below (rp w2 Cl)) _ (l) rfl oZ.out (by rw[sQ.out,dZ.out];unfold maxLen;omega) (by rw[sQ.out,dZ.out];omega) (by have:=aA.out.b8;simp at this⊢;omega) ?_
                    rw[sQ.out,dZ.out]
                    intro a3 c3 w3 iR vx bP
                    have nk:=hD iR
                    have bO:=hD bP
                    clear iR vx bP)
        go_ret
        have h4:=nk.out.slice (fun j hj=>Nat.lt_succ_of_lt (kU.out j hj))
        exact⟨_,rfl,by simpa using h4,((aA.out.drewN Cl).cJ bO.out (by simp)).1⟩
      ·obtain⟨b,off,rfl⟩:=Y0.out (by omega)
       have QY:Hid ((l.drop i).length=n-i):=(show _=_ by rw[List.length_drop,dZ.out])
       obtain⟨ap,My⟩:∃ap,(if rc=i then some (⟨b,off,none⟩:Addr)else some ⟨b,off+i*2,none⟩)=ap:=⟨_,rfl⟩
       have Y5:¬i*2=0:=by omega
       have oZ:Hid (ae (bc (.slice a2 (i+1) c2) M) (w2.drewN Cl) (.slice ap (n-i) (rc-i)) (l.drop i)):=(show ae _ _ _ _ from by
        have iJ:=(LG.out.ev Y3.out).from_ dZ.out (k:=i) hj
        rw[←My]
        simpa [Addr.add,show az.size cC=2 from rfl,Y5]using iJ)
       go_wp2_with(at_builtin
                   refine cP (α:=cC) rfl _ _ _ rfl M (w.heap.size+1) 64 i0 _ 24 Tryz.underlying33 dF dM db dL rfl (by decide) (.slice a2 (i+1) c2) (l.take i++[⟨rn,ri⟩]) rfl (cw.out.below (rp w2 Cl)) _ (l.drop i) rfl oZ.out (by rw[sQ.out,QY.out];unfold maxLen;omega) (by rw[sQ.out,QY.out];omega) (by have:=aA.out.b8;simp at this⊢;omega) ?_
                   rw[sQ.out,QY.out]
                   intro a3 c3 w3 iR vx bP
                   have nk:=hD iR
                   have bO:=hD bP
                   clear iR vx bP)
       go_ret
       have h4:=nk.out.slice (fun j hj=>Nat.lt_succ_of_lt (kU.out j hj))
       exact⟨_,rfl,by simpa using h4,((aA.out.drewN Cl).cJ bO.out (by simp)).1⟩
theorem GQ:(Tryz.prog.info? 56).map (fun i=>(i.zero,i.size,i.bytes))=some (some (.agg #[.int .i64 0, .int .i64 0, .int .i64 0, .slice none 0 0]),4,48):=by kernel_rfl
theorem AN {M:Nat→Prop}{w:World}{v:Value}{l:List iE}(h:ae M w v l){k:Nat}{x:iE}(hx:l[k]? =some x):∃b off cap vv,v= .slice (some ⟨b,off,none⟩) l.length cap∧b<w.heap.size∧ae (α:=Int) M w vv x.cz∧(I6 x.cls∧I6 x.ver∧I6 x.skip∧∀y∈x.cz,I6 y)∧∀W,Below w.heap.size w W→W.cell? ⟨b,off+k*4,none⟩=some (.int .i64 x.cls)∧W.cell? ⟨b,off+k*4+1,none⟩=some (.int .i64 x.ver)∧W.cell? ⟨b,off+k*4+2,none⟩=some vv∧W.cell? ⟨b,off+k*4+3,none⟩=some (.int .i64 x.skip):=by
 obtain⟨a,cap,rfl,hl,_,hc⟩:=h.open_
 have hk:=(List.getElem?_eq_some_iff.1 hx).1
 obtain⟨b,off,rfl,_,hb,aC⟩:=hc (by omega)
 obtain⟨cs,⟨vv,rfl,h1,h2⟩,bE⟩:=aC k x hx
 refine⟨b,off,cap,vv,rfl,hb,h1,h2,fun W hB=> ?_⟩
 have g:∀j u,([.int .i64 x.cls, .int .i64 x.ver,vv, .int .i64 x.skip]:List Value)[j]? =some u→W.cell? ⟨b,off+k*4+j,none⟩=some u:=fun j u hu=>(hB.cell (p:=⟨b,off+k*4+j,none⟩) hb).trans (bE j u hu)
 exact⟨g 0 _ rfl,g 1 _ rfl,g 2 _ rfl,g 3 _ rfl⟩
theorem AO {M:Nat→Prop}{w:World}{v:Value}{l:List iL}(h:ae M w v l){k:Nat}{x:iL}(hx:l[k]? =some x):∃b off cap,v= .slice (some ⟨b,off,none⟩) l.length cap∧b<w.heap.size∧(I6 x.name∧I6 x.id)∧∀W,Below w.heap.size w W→W.cell? ⟨b,off+k*2,none⟩=some (.int .i64 x.name)∧W.cell? ⟨b,off+k*2+1,none⟩=some (.int .i64 x.id):=by
 obtain⟨a,cap,rfl,hl,_,hc⟩:=h.open_
 have hk:=(List.getElem?_eq_some_iff.1 hx).1
 obtain⟨b,off,rfl,_,hb,aC⟩:=hc (by omega)
 obtain⟨cs,⟨rfl,h2⟩,bE⟩:=aC k x hx
 refine⟨b,off,cap,rfl,hb,h2,fun W hB=> ?_⟩
 have g:∀j u,([.int .i64 x.name, .int .i64 x.id]:List Value)[j]? =some u→W.cell? ⟨b,off+k*2+j,none⟩=some u:=fun j u hu=>(hB.cell (p:=⟨b,off+k*2+j,none⟩) hb).trans (bE j u hu)
 exact⟨g 0 _ rfl,g 1 _ rfl⟩
def II(lv ov rv:Value)(n:Int):Obj:= .cells #[lv,ov,rv, .int .i64 n] 35 (0,0)
def rT(l o r:Value):Obj:= .cells #[l,o,r] 26 (0,0)
structure iS(M:Nat→Prop)(w w1:World)(o0 o1:Obj)(K:Nat)(lv:Value)(ls:List aE)(many:Int)(i cap:Nat)(a:Option Addr)(os:List dz)(nx:Int)(wr:World):Prop where
 len:os.length=i
 ids:∀(j:Nat)(o:dz),os[j]? =some o→o.id=(j:Int)+1∧∃k v l,mN ls many o k v l
 blk:wr.heap[K]? =some (II lv (.slice a i cap) (.slice none 0 0) nx)
 acc:aK (ph M w K) (K+1) 56 wr (.slice a i cap) os
 ls0:ae (eP M w 2) w1 lv ls
 low:Below K w1 wr
 kw:K=w1.heap.size
 bx:Bx w [o0,o1] wr
 hK:w.heap.size+2≤K
section
variable {M:Nat→Prop}{w w1 wr W:World}{o0 o1:Obj}{K:Nat}{lv:Value}{ls:List aE}{many:Int}{i cap:Nat}{a:Option Addr}{os:List dz}{nx:Int}
theorem iS.lt(h:iS M w w1 o0 o1 K lv ls many i cap a os nx wr):K<wr.heap.size:=(Array.getElem?_eq_some_iff.1 h.blk).1
theorem iS.below(h:iS M w w1 o0 o1 K lv ls many i cap a os nx wr)(hb:Below wr.heap.size wr W):iS M w w1 o0 o1 K lv ls many i cap a os nx W:=
 ⟨h.len,h.ids,(hb.block K h.lt).trans h.blk,h.acc.below hb,h.ls0,h.low.trans (hb.mono (Nat.le_of_lt h.lt)),h.kw,h.bx.below hb,h.hK⟩
theorem iS.bd(h:iS M w w1 o0 o1 K lv ls many i cap a os nx wr)(hM:Bd M w):Bd (bc (.slice a i cap) (ph M w K)) wr:=fun j hj=>by
 have hl:=h.lt
 rcases hj with hj|hj
 ·have:=qZ hM h.hK j hj;omega
 ·exact(h.acc.dO j hj).2
theorem iS.ev1(h:iS M w w1 o0 o1 K lv ls many i cap a os nx wr):Ev (eP M w 2) w1 (bc (.slice a i cap) (ph M w K)) wr:=
 ⟨ag.aj (by rw[←h.kw];exact h.low),fun j hj=>by
   have hk:=h.kw
   rcases hj with(hj|hj)|hj
   ·exact .inl hj
   ·right;omega
   ·have:=(h.acc.dO j hj).1;right;omega⟩
theorem iS.ev0(h:iS M w w1 o0 o1 K lv ls many i cap a os nx wr):Ev M w (bc (.slice a i cap) (ph M w K)) wr:=
 ⟨ag.aj h.bx.1,fun j hj=>by
   have hk:=h.hK
   rcases hj with((hj|hj)|hj)|hj
   ·exact .inl hj
   ·exact .inr hj.1
   ·right;omega
   ·have:=(h.acc.dO j hj).1;right;omega⟩
theorem iS.put(h:iS M w w1 o0 o1 K lv ls many i cap a os nx wr)(hM:Bd M w){w2 w3:World}{ob:Obj}{o:dz}{a2:Option Addr}{c2:Nat}(aM:Below wr.heap.size wr w2)(hid:o.id=(i:Int)+1)(ng:∃k v l,mN ls many o k v l)(bn:aK (ph M w K) (K+1) 56 w3 (.slice a2 (i+1) c2) (os++[o]))(bP:Below (K+1) (w2.alloc ob) w3):
 iS M w w1 o0 o1 K lv ls many (i+1) c2 a2 (os++[o]) nx (w3.setCell ⟨K,1,none⟩ (.slice a2 (i+1) c2)):=by
 have hl:=h.lt
 have hK:=h.hK
 have hz:=aM.size
 have Ob:w3.heap[K]? =some (II lv (.slice a i cap) (.slice none 0 0) nx):=(bP.block K (by omega)).trans ((Below.heap_alloc w2 ob K (by omega)).trans ((aM.block K hl).trans h.blk))
 have yd:Below K wr w3:=((aM.mono (by omega)).alloc (by omega) ob).trans (bP.mono (by omega))
 refine⟨by simp[h.len],fun j y hj=> ?_,?_,?_,h.ls0,?_,h.kw,?_,hK⟩
 ·by_cases SF:j<os.length
  ·rw[List.getElem?_append_left SF]at hj
   exact h.ids j y hj
  ·have SH:=(List.getElem?_eq_some_iff.1 hj).1
   have hlen:=h.len
   simp at SH
   obtain rfl:j=i:=by omega
   have e:y=o:=by
    rw[List.getElem?_append_right (by omega),show j-os.length=0 from by omega]at hj
    simpa using hj.symm
   subst e
   exact⟨hid,ng⟩
 ·have:=heap_setCell_same w3 K 1 _ _ (.slice a2 (i+1) c2) Ob
  simpa [II]using this
 ·exact bn.sD (p:=⟨K,1,none⟩) (.inr rfl) (by show K<K+1;omega) _
 ·exact(h.low.trans yd).setCell (Nat.le_refl K) _
 ·exact(h.bx.cJ yd (by simp;omega)).cJ (B:=K) ((Below.refl _ _).setCell (Nat.le_refl K) _) (by simp;omega)
theorem iS.num(h:iS M w w1 o0 o1 K lv ls many i cap a os nx wr)(n2:Int):iS M w w1 o0 o1 K lv ls many i cap a os n2 (wr.setCell ⟨K,3,none⟩ (.int .i64 n2)):=by
 have hK:=h.hK
 refine⟨h.len,h.ids,?_,?_,h.ls0,?_,h.kw,?_,hK⟩
 ·have:=heap_setCell_same wr K 3 _ _ (.int .i64 n2) h.blk
  simpa [II]using this
 ·exact h.acc.sD (p:=⟨K,3,none⟩) (.inr rfl) (by show K<K+1;omega) _
 ·exact h.low.setCell (Nat.le_refl K) _
 ·exact h.bx.cJ (B:=K) ((Below.refl _ _).setCell (Nat.le_refl K) _) (by simp;omega)
end
structure iT(M:Nat→Prop)(w:World)(o0 o1:Obj)(K:Nat)(lv ov rv:Value)(ls:List aE)(os:List dz)(rs:List cC)(nx:Int)(j:Nat)(wr:World):Prop where
 blk:wr.heap[K]? =some (II lv ov rv nx)
 sl:ae (ph M w K) wr lv ls
 so:ae (ph M w K) wr ov os
 sr:ae (ph M w K) wr rv rs
 nil:rs=[]→rv= .slice none 0 0
 rng:∀r∈rs,1≤r.id∧r.id≤os.length
 len:rs.length≤j
 nms:∃ks:List Nat,ks.Pairwise (·< ·)∧(∀k∈ks,k<5)∧rs.map cC.name=ks.map sG
 bx:Bx w [o0,o1] wr
 hK:w.heap.size+2≤K
section
variable {M:Nat→Prop}{w wr W:World}{o0 o1:Obj}{K:Nat}{lv ov rv:Value}{ls:List aE}{os:List dz}{rs:List cC}{nx:Int}{j:Nat}
theorem iT.lt(h:iT M w o0 o1 K lv ov rv ls os rs nx j wr):K<wr.heap.size:=(Array.getElem?_eq_some_iff.1 h.blk).1
theorem iT.below(h:iT M w o0 o1 K lv ov rv ls os rs nx j wr)(hb:Below wr.heap.size wr W):iT M w o0 o1 K lv ov rv ls os rs nx j W:=
 ⟨(hb.block K h.lt).trans h.blk,h.sl.below hb,h.so.below hb,h.sr.below hb,h.nil,h.rng,h.len,h.nms,h.bx.below hb,h.hK⟩
theorem iT.bd(h:iT M w o0 o1 K lv ov rv ls os rs nx j wr)(hM:Bd M w):Bd (ph M w K) wr:=fun i hi=>by have:=qZ hM h.hK i hi;have:=h.lt;omega
theorem iT.Ta(h:iT M w o0 o1 K lv ov rv ls os rs nx j wr)(i:Nat)(u:Value):Ev (ph M w K) wr (ph M w K) (wr.setCell ⟨K,i,none⟩ u)∧Bx w [o0,o1] (wr.setCell ⟨K,i,none⟩ u):=
 ⟨(Ev.refl _ _).setCell (.inl (.inr rfl)) u,h.bx.cJ (B:=K) ((Below.refl _ _).setCell (Nat.le_refl K) _) (by have:=h.hK;simp;omega)⟩
theorem iT.root(h:iT M w o0 o1 K lv ov rv ls os rs nx j wr){w2:World}{Ux:Value}{CE:List cC}(hb:Below wr.heap.size wr w2)(hs:ae (ph M w K) w2 Ux CE)(hne:CE≠[])(hr:∀r∈CE,1≤r.id∧r.id≤os.length)(hl:CE.length≤j+1)(hn:∃ks:List Nat,ks.Pairwise (·< ·)∧(∀k∈ks,k<5)∧CE.map cC.name=ks.map sG):
 iT M w o0 o1 K lv ov Ux ls os CE nx (j+1) (w2.setCell ⟨K,2,none⟩ Ux):=by
 have h2:=h.below hb
 obtain⟨hE,hB⟩:=h2.Ta 2 Ux
 refine⟨?_,h2.sl.ev hE,h2.so.ev hE,hs.ev hE,fun e=>absurd e hne,hr,hl,hn,hB,h.hK⟩
 have:=heap_setCell_same w2 K 2 _ _ Ux h2.blk
 simpa [II]using this
theorem iT.num(h:iT M w o0 o1 K lv ov rv ls os rs nx j wr)(n2:Int):iT M w o0 o1 K lv ov rv ls os rs n2 j (wr.setCell ⟨K,3,none⟩ (.int .i64 n2)):=by
 obtain⟨hE,hB⟩:=h.Ta 3 (.int .i64 n2)
 refine⟨?_,h.sl.ev hE,h.so.ev hE,h.sr.ev hE,h.nil,h.rng,h.len,h.nms,hB,h.hK⟩
 have:=heap_setCell_same wr K 3 _ _ (.int .i64 n2) h.blk
 simpa [II]using this
theorem iS.roots {w1:World}{cap:Nat}{a:Option Addr}{i:Nat}{many:Int}(h:iS M w w1 o0 o1 K lv ls many i cap a os nx wr)(hM:Bd M w):iT M w o0 o1 K lv (.slice a i cap) (.slice none 0 0) ls os [] nx 0 wr:=
 ⟨h.blk,(h.ls0.ev h.ev1).ev (Ev.ee _ fun i hi=> .inl hi),h.acc.slice (qZ hM h.hK),ae.nil _ _,fun _=>rfl,fun r hr=>(by cases hr),Nat.le_refl _,⟨[],by simp,by simp,rfl⟩,h.bx,h.hK⟩
theorem iT.fin(h:iT M w o0 o1 K lv ov rv ls os rs nx j wr)(zx:dV ls)(hol:os.length≤10)(Y6:∀(i:Nat)(o:dz),os[i]? =some o→o.id=(i:Int)+1∧∃k v l,mN ls (os.length:Int) o k v l)(hj:j≤5)(WY:(os.length:Int)+1≤nx∧nx≤(os.length:Int)+3)(W':World)(gX:W'=(((wr.setCell ⟨w.heap.size+1,0,none⟩ lv).setCell ⟨w.heap.size+1,1,none⟩ ov).setCell ⟨w.heap.size+1,2,none⟩ rv).setCell ⟨w.heap.size+1,3,none⟩ (.int .i64 nx)):
 (∃(x:cG)(lv' ov' rv':Value),fm x∧Value.agg #[lv,ov,rv, .int .i64 nx]= .agg #[lv',ov',rv', .int .i64 x.next]∧ae M W' lv' x.lines∧ae M W' ov' x.objs∧ae M W' rv' x.roots)∧Below w.heap.size w W':=by
 have hm:ph M w K (w.heap.size+1):= .inl (.inr ⟨by omega,by omega⟩)
 have E:Ev (ph M w K) wr M W':=by
  rw[gX]
  exact((((Ev.ee wr fun i hi=> .inl (.inl hi)).setCell (.inl hm) _).setCell (.inl hm) _).setCell (.inl hm) _).setCell (.inl hm) _
 refine⟨⟨⟨ls,os,rs,nx⟩,lv,ov,rv,⟨zx,hol,Y6,Nat.le_trans h.len hj,h.rng,h.nms,WY⟩,rfl,h.sl.ev E,h.so.ev E,h.sr.ev E⟩,?_⟩
 rw[gX]
 exact(((h.bx.1.setCell (by simp) _).setCell (by simp) _).setCell (by simp) _).setCell (by simp) _
end
theorem wZ(q:Nat):∀ks:List Nat,ks.Pairwise (·< ·)→∃j d,j+d≤ks.length∧d≤1∧(∀i y,i<j→ks[i]? =some y→y<q)∧(∀y,ks[j]? =some y→¬y<q∧(y=q↔d=1))∧(ks.take j++[q]++ks.drop (j+d)).Pairwise (·< ·)
 |[],_=>⟨0,0,by simp,by omega,fun i y h=>by omega,fun y h=>by simp at h,by simp⟩
 |k::r,hp=>by
  have zC:=List.pairwise_cons.1 hp
  rcases Nat.lt_trichotomy k q with aT|rfl|Uv
  ·obtain⟨j,d,h1,h2,h3,h4,h5⟩:=wZ q r zC.2
   refine⟨j+1,d,by simp;omega,h2,fun i y hi hy=> ?_,fun y hy=> ?_,?_⟩
   ·match i,hi,hy with
    |0,_,hy=>simp at hy;omega
    |i+1,hi,hy=>exact h3 i y (by omega) (by simpa using hy)
   ·exact h4 y (by simpa using hy)
   ·rw[show j+1+d=(j+d)+1 from by omega]
    simp only[List.take_succ_cons,List.drop_succ_cons,List.cons_append]
    refine List.pairwise_cons.2 ⟨fun y hy=> ?_,h5⟩
    simp only[List.mem_append,List.mem_singleton]at hy
    rcases hy with(hy|rfl)|hy
    ·exact zC.1 y (List.mem_of_mem_take hy)
    ·exact aT
    ·exact zC.1 y (List.mem_of_mem_drop hy)
  ·refine⟨0,1,by simp,by omega,fun i y h=>by omega,fun y hy=> ?_,?_⟩
   ·simp at hy;omega
   ·simpa using hp
  ·refine⟨0,0,by simp,by omega,fun i y h=>by omega,fun y hy=> ?_,?_⟩
   ·simp at hy;omega
   ·simp only[List.take_zero,List.nil_append,Nat.add_zero,List.drop_zero,List.singleton_append]
    refine List.pairwise_cons.2 ⟨fun y hy=> ?_,hp⟩
    rcases List.mem_cons.1 hy with rfl|hy
    ·exact Uv
    ·exact Nat.lt_trans Uv (zC.1 y hy)
theorem GR {rs:List cC}{ks:List Nat}(h1:ks.Pairwise (·< ·))(h2:∀k∈ks,k<5)(h3:rs.map cC.name=ks.map sG)(q:Nat)(hq:q<5):∃j d,j+d≤rs.length∧d≤1∧(∀i y,i<j→rs[i]? =some y→Op.bytesLess y.name.toList (sG q).toList=true)∧(∀y,rs[j]? =some y→Op.bytesLess y.name.toList (sG q).toList=false∧(y.name.toList==(sG q).toList)=decide (d=1))∧∀id:Int,∃Y7:List Nat,Y7.Pairwise (·< ·)∧(∀k∈Y7,k<5)∧(rs.take j++[(⟨sG q,id⟩:cC)]++rs.drop (j+d)).map cC.name=Y7.map sG:=by
 have hl:rs.length=ks.length:=by have:=congrArg List.length h3;simpa using this
 have at_:∀(i:Nat)(y:cC),rs[i]? =some y→∃k,ks[i]? =some k∧k<5∧y.name=sG k:=fun i y hy=>by
  have hk:=(List.getElem?_eq_some_iff.1 hy).1
  have e:(rs.map cC.name)[i]? =(ks.map sG)[i]? :=by rw[h3]
  rw[List.getElem?_map,List.getElem?_map,hy]at e
  obtain⟨k,vm⟩:∃k,ks[i]? =some k:=⟨_,List.getElem?_eq_getElem (by omega)⟩
  rw[vm]at e
  exact⟨k,vm,h2 k (List.mem_of_getElem? vm),by simpa using e⟩
 obtain⟨j,d,a1,a2,a3,a4,a5⟩:=wZ q ks h1
 refine⟨j,d,by omega,a2,fun i y hi hy=> ?_,fun y hy=> ?_,fun id=>⟨_,a5,fun k hk=> ?_,?_⟩⟩
 ·obtain⟨k,k1,k2,k3⟩:=at_ i y hy
  rw[k3,uj k k2 q hq]
  exact decide_eq_true (a3 i k hi k1)
 ·obtain⟨k,k1,k2,k3⟩:=at_ j y hy
  obtain⟨b1,b2⟩:=a4 k k1
  rw[k3,uj k k2 q hq,JL k k2 q hq]
  exact⟨decide_eq_false b1,by rw[decide_eq_decide];exact b2⟩
 ·simp only[List.mem_append,List.mem_singleton]at hk
  rcases hk with(hk|rfl)|hk
  ·exact h2 k (List.mem_of_mem_take hk)
  ·exact hq
  ·exact h2 k (List.mem_of_mem_drop hk)
 ·simp only[List.map_append,List.map_take,List.map_drop,h3,List.map_cons,List.map_nil]
end
end Go.Proofs.YtlkjnefenialbaaGreatDoor
