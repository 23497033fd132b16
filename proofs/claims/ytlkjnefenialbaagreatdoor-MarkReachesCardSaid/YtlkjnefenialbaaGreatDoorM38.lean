/- What a well formed change is; no condition beyond each theorem's own. -/
import Derived.Test.YtlkjnefenialbaaGreatDoorM36
import Derived.Test.YtlkjnefenialbaaGreatDoorM37
import Derived.BigGuardPart
set_option linter.unusedVariables false
set_option linter.unusedSimpArgs false
set_option maxHeartbeats 8000000
set_option maxRecDepth 100000
namespace Go.Proofs.YtlkjnefenialbaaGreatDoor
section
open Go.RowKit
theorem KE {s:ByteArray}{x:an}(h:dq s.data.toList=some x):∃T,j4 s 0 T∧oq T∧(∀t∈T,1≤t.kind∧t.kind≤4)∧T.length≤200∧ic 60 1 T=some (x,[])∧s.size≤200∧We x:=by
 unfold dq at h
 cases hL:dQ 200 s.data.toList 0 with
 |none=>rw[hL]at h;cases h
 |some T=>
  rw[hL]at h
  simp only at h
  split at h
  ·rename_i e hq
   split at h
   ·rename_i hc
    cases h
    obtain⟨h1,h2,h3,h4⟩:=hc
    obtain⟨k1,k2,k3⟩:=je 200 _ 0 T h1 hL
    exact⟨T,⟨200,by simpa using hL⟩,k1,k2,by omega,hq,by rw[aP]at h1;exact h1,h2,h3,h4⟩
   ·cases h
  ·cases h
theorem xF(s:ByteArray)(x:an)(h:dq s.data.toList=some x)(w:World)(hT:Tb w):Calls Tryz.prog 166 #[.string s] w (aF w (Kt w x)):=by
 obtain⟨T,h1,h2,h3,h4,h5,h6,h7⟩:=KE h
 exact Hn s x T h6 h1 h2 h3 h4 h5 h7.nodes h7.deep h7.size w hT
theorem r9 {s:ByteArray}{x:an}(h:dq s.data.toList=some x):(s.toList==[])=false:=by
 rw[ByteArray.toList_eq]
 cases hq:s.data.toList with
 |nil=>rw[hq,oT]at h;cases h
 |cons a r=>rfl
theorem fq(s:ByteArray)(h:ax s=true)(hs:s.size≤maxLen)(w:World):Calls Tryz.prog 162 #[.string s, .bool true] w fun e w'=>e= .returned (.bool true)∧Below w.heap.size w w':=by
 have HR:Hid (Calls Tryz.prog 95 #[.agg #[.string s, .slice none 0 0]] w fun e w'=>e= .returned (.bool true)∧Below w.heap.size w w'):=(show _ by
  have h1:=eY (fun _=>False) (.slice none 0 0) w ⟨s,[]⟩ (ae.nil _ _) hs
  rw[ur h]at h1
  exact h1)
 clear h
 go_enter Tryz.func162,Tryz.ntmps162
 go_wp2_with fail
 refine(HR.out).mono ?_
 rintro e w1⟨rfl,aw⟩
 have HB:=hD aw
 clear aw
 go_wp2_with fail
 go_ret
 exact⟨rfl,HB.out⟩
theorem gP(w:World):Calls Tryz.prog 162 #[.string ⟨#[]⟩, .bool false] w fun e w'=>e= .returned (.bool true)∧Below w.heap.size w w':=by
 go_enter Tryz.func162,Tryz.ntmps162
 go_wp2_with fail
 go_ret
 exact⟨rfl,Below.refl _ _⟩
theorem cU(b:Bool)(w:World):Calls Tryz.prog 163 #[.string ⟨#[]⟩, .bool b] w fun e w'=>e= .returned (.bool true)∧Below w.heap.size w w':=by
 go_enter Tryz.func163,Tryz.ntmps163
 go_wp2_with fail
 go_ret
 exact⟨rfl,Below.refl _ _⟩
theorem zf(s:ByteArray)(x:an)(h:dq s.data.toList=some x)(w:World)(hT:Tb w):Calls Tryz.prog 163 #[.string s, .bool true] w fun e w'=>e= .returned (.bool true)∧Below w.heap.size w w':=by
 have hz:=r9 h
 have HP:=hD (xF s x h w hT)
 obtain⟨xk,xn,xs,xl⟩:=x
 clear h hT
 go_enter Tryz.func163,Tryz.ntmps163
 go_wp2_with fail
 refine(HP.out).mono ?_
 rintro e w1⟨_,rfl,⟨u,rfl,ek⟩,aw⟩
 obtain⟨a,cap,rfl,_⟩:=dH ek
 have HB:=hD aw
 clear aw ek
 go_wp2_with fail
 go_ret
 exact⟨rfl,HB.out.alloc HB.out.size _⟩
def To(k:Int):Array Value:=
 if k=1 then#[.bool false, .bool true, .bool false, .bool true, .bool true, .bool false]
 else if k=2∨k=6 then#[.bool true, .bool false, .bool false, .bool false, .bool false, .bool false]
 else if k=3 then#[.bool true, .bool true, .bool false, .bool false, .bool false, .bool false]
 else if k=4 then#[.bool true, .bool false, .bool false, .bool true, .bool true, .bool false]
 else#[.bool true, .bool true, .bool true, .bool true, .bool true, .bool true]
theorem jm(k:Int)(h:k=1∨k=2∨k=3∨k=4∨k=5∨k=6)(w:World):Calls Tryz.prog 161 #[.int .i64 k] w fun e w'=>e= .returned (.tuple #[.agg (To k), .bool true])∧Below w.heap.size w w':=by
 rcases h with rfl|rfl|rfl|rfl|rfl|rfl
 all_goals
  go_enter Tryz.func161,Tryz.ntmps161
  go_wp2_with fail
  refine bodyPost_ret (v:= .tuple #[.agg _, .bool true]) (by simp[results,Tryz.results161,go_sem];rfl) rfl ⟨rfl,?_⟩
  exact((Below.refl _ w).alloc (Nat.le_refl _) _)
structure Tp(x:aq):Prop where
 sh:lg x
 field:x.kind≠1→ax x.field=true
 name:(x.kind=1∨x.kind=3∨x.kind=5)→ax x.name=true
 more:x.kind=5→ax x.more=true
 type:(x.kind=1∨x.kind=4∨x.kind=5)→aB x.type=true
 expr:x.expr=⟨#[]⟩∨∃e,dq x.expr.data.toList=some e
 other:x.other=⟨#[]⟩∨∃e,dq x.other.data.toList=some e
 s1:x.field.size≤maxLen
 s2:x.name.size≤maxLen
 s3:x.more.size≤maxLen
def kO(a b c d e f:Bool):Obj:= .cells #[.bool a, .bool b, .bool c, .bool d, .bool e, .bool f] 268 (0,0)
theorem ew {W:World}{g:Nat}{c0 c1 c2 c3 c4 c5:Value}{t:TypeId}(h:W.heap[g]? =some (.cells #[c0,c1,c2,c3,c4,c5] t (0,0))):
 W.cell? ⟨g,0,none⟩=some c0∧W.cell? ⟨g,1,none⟩=some c1∧W.cell? ⟨g,2,none⟩=some c2∧W.cell? ⟨g,3,none⟩=some c3∧W.cell? ⟨g,4,none⟩=some c4∧W.cell? ⟨g,5,none⟩=some c5:=by simp[World.cell?,h]
theorem xG(k:Int)(f n m:ByteArray)(tk tf:Int)(e o:ByteArray)(b1 b2 b3 b4 b5 b6:Bool)(w:World)
 (hn:∀W,Calls Tryz.prog 161 #[.int .i64 k] W fun e w'=>e= .returned (.tuple #[.agg #[.bool b1, .bool b2, .bool b3, .bool b4, .bool b5, .bool b6], .bool true])∧Below W.heap.size W w')
 (h1:∀W,Calls Tryz.prog 162 #[.string f, .bool b1] W fun e w'=>e= .returned (.bool true)∧Below W.heap.size W w')
 (h2:∀W,Calls Tryz.prog 162 #[.string n, .bool b2] W fun e w'=>e= .returned (.bool true)∧Below W.heap.size W w')
 (h3:∀W,Calls Tryz.prog 162 #[.string m, .bool b3] W fun e w'=>e= .returned (.bool true)∧Below W.heap.size W w')
 (h4:∀W,Calls Tryz.prog 143 #[.agg #[.int .i64 tk, .int .i64 tf]] W fun e w'=>e= .returned (.bool b4)∧Below W.heap.size W w')
 (h5:∀W,Below w.heap.size w W→Calls Tryz.prog 163 #[.string e, .bool b5] W fun e w'=>e= .returned (.bool true)∧Below W.heap.size W w')
 (h6:∀W,Below w.heap.size w W→Calls Tryz.prog 163 #[.string o, .bool b6] W fun e w'=>e= .returned (.bool true)∧Below W.heap.size W w')(h0:b4=false→tk=0∧tf=0):
 Calls Tryz.prog 152 #[.agg #[.int .i64 k, .string f, .string n, .string m, .int .i64 tk, .int .i64 tf, .string e, .string o]] w fun e w'=>e= .returned (.bool true)∧Below w.heap.size w w':=by
 have H1:=hD h1
 have H2:=hD h2
 have H3:=hD h3
 have H4:=hD h4
 have H5:=hD h5
 have H6:=hD h6
 have HN:=hD hn
 have H0:=hD h0
 clear h1 h2 h3 h4 h5 h6 hn h0
 go_enter Tryz.func152,Tryz.ntmps152
 go_wp2_with fail
 refine(HN.out _).mono ?_
 rintro e w1⟨rfl,aw⟩
 have aO:=hD (((Bx.fA w (qE ⟨k,f,n,m,⟨tk,tf⟩,e,o⟩)).below aw).alloc (kO b1 b2 b3 b4 b5 b6))
 have gZ:Hid ((w1.alloc (kO b1 b2 b3 b4 b5 b6)).heap[w1.heap.size]? =some (kO b1 b2 b3 b4 b5 b6)):=(show _=_ from heap_alloc_new w1 _)
 clear aw
 obtain⟨p0,p1,p2,p3,p4,p5,p6,p7⟩:=ah (aO.out.bJ rfl)
 obtain⟨q0,q1,q2,q3,q4,q5⟩:=ew gZ.out
 unfold kO at p0 p1 p2 p3 p4 p5 p6 p7 q0 q1 q2 q3 q4 q5
 go_wp2_with fail
 refine(H1.out _).mono ?_
 rintro e w2⟨rfl,hb⟩
 have jN:Hid (w2.heap[w1.heap.size]? =some (kO b1 b2 b3 b4 b5 b6)):=(show _=_ from(hb.block _ (Array.getElem?_eq_some_iff.1 gZ.out).1).trans gZ.out)
 have aA:=hD (aO.out.below hb)
 clear hb p0 p1 p2 p3 p4 p5 p6 p7 q0 q1 q2 q3 q4 q5
 obtain⟨p0,p1,p2,p3,p4,p5,p6,p7⟩:=ah (aA.out.bJ rfl)
 obtain⟨q0,q1,q2,q3,q4,q5⟩:=ew jN.out
 go_wp2_with fail
 refine(H2.out _).mono ?_
 rintro e w3⟨rfl,hb⟩
 have Q9:Hid (w3.heap[w1.heap.size]? =some (kO b1 b2 b3 b4 b5 b6)):=(show _=_ from(hb.block _ (Array.getElem?_eq_some_iff.1 jN.out).1).trans jN.out)
 have bO:=hD (aA.out.below hb)
 clear hb p0 p1 p2 p3 p4 p5 p6 p7 q0 q1 q2 q3 q4 q5
 obtain⟨p0,p1,p2,p3,p4,p5,p6,p7⟩:=ah (bO.out.bJ rfl)
 obtain⟨q0,q1,q2,q3,q4,q5⟩:=ew Q9.out
 go_wp2_with fail
 refine(H3.out _).mono ?_
 rintro e w4⟨rfl,hb⟩
 have Rt:Hid (w4.heap[w1.heap.size]? =some (kO b1 b2 b3 b4 b5 b6)):=(show _=_ from(hb.block _ (Array.getElem?_eq_some_iff.1 Q9.out).1).trans Q9.out)
 have fJ:=hD (bO.out.below hb)
 clear hb p0 p1 p2 p3 p4 p5 p6 p7 q0 q1 q2 q3 q4 q5
 obtain⟨p0,p1,p2,p3,p4,p5,p6,p7⟩:=ah (fJ.out.bJ rfl)
 obtain⟨q0,q1,q2,q3,q4,q5⟩:=ew Rt.out
 have H00:Hid (b4=false→tk=0∧tf=0):=(show _→_ from H0.out)
 go_upto_region 4 with fail
 cases b4
 ·obtain⟨rfl,rfl⟩:=H00.out rfl
  have H4D:=hD (H4.out w4.drew)
  go_region_law(first
   |(go_simp
     go_at_call 143
     refine(H4D.out).mono ?_
     rintro e w5⟨rfl,hb⟩
     have zS:Hid (w5.heap[w1.heap.size]? =some (kO b1 b2 b3 false b5 b6)):=(show _=_ from(hb.block _ (Array.getElem?_eq_some_iff.1 Rt.out).1).trans Rt.out)
     have nK:=hD (fJ.out.drew.below hb)
     clear hb
     have p4:=(ah (nK.out.bJ rfl)).2.2.2.2.1
     have p5:=(ah (nK.out.bJ rfl)).2.2.2.2.2.1
     have p6:=(ah (nK.out.bJ rfl)).2.2.2.2.2.2.1
     have p7:=(ah (nK.out.bJ rfl)).2.2.2.2.2.2.2
     have q3:=(ew zS.out).2.2.2.1
     have q4:=(ew zS.out).2.2.2.2.1
     have q5:=(ew zS.out).2.2.2.2.2))
  all_goals
   go_wp2_with fail
   refine(H5.out _ nK.out.1).mono ?_
   rintro e w6⟨rfl,hb⟩
   have SN:Hid (w6.heap[w1.heap.size]? =some (kO b1 b2 b3 false b5 b6)):=(show _=_ from(hb.block _ (Array.getElem?_eq_some_iff.1 zS.out).1).trans zS.out)
   have vJ:=hD (nK.out.below hb)
   clear hb p4 p5 p6 p7 q3 q4 q5
   obtain⟨p0,p1,p2,p3,p4,p5,p6,p7⟩:=ah (vJ.out.bJ rfl)
   obtain⟨q0,q1,q2,q3,q4,q5⟩:=ew SN.out
   go_wp2_with fail
   refine(H6.out _ vJ.out.1).mono ?_
   rintro e w7⟨rfl,hb⟩
   have oe:=hD (vJ.out.below hb)
   clear hb
   go_wp2_with fail
   go_ret
   exact⟨rfl,oe.out.1⟩
 ·go_cut [53](fun s53 wx=>s53= .bool false∧Hid (Bx w [qE ⟨k,f,n,m,⟨tk,tf⟩,e,o⟩] wx∧wx.heap[w1.heap.size]? =some (kO b1 b2 b3 true b5 b6)))
  case first=>
   first
    |(go_region_law(first
       |(go_simp
         go_at_call 143
         refine(H4.out _).mono ?_
         rintro e w5⟨rfl,hb⟩
         have zS:Hid (w5.heap[w1.heap.size]? =some (kO b1 b2 b3 true b5 b6)):=(show _=_ from(hb.block _ (Array.getElem?_eq_some_iff.1 Rt.out).1).trans Rt.out)
         have nK:=hD (fJ.out.drew.below hb)
         have p4:=(ah (nK.out.bJ rfl)).2.2.2.2.1
         have p5:=(ah (nK.out.bJ rfl)).2.2.2.2.2.1
         have q3:=(ew zS.out).2.2.2.1
         clear hb)))
    |fail
   all_goals(go_wp2_with fail;go_meet)
   all_goals exact⟨rfl,(show _∧_ from⟨nK.out,zS.out⟩)⟩
  case rest=>
   obtain⟨rfl,HR⟩:=hcut
   obtain⟨w5,Qr⟩:∃w5:World,w5=wc:=⟨_,rfl⟩
   subst Qr
   have nK:Hid (Bx w [qE ⟨k,f,n,m,⟨tk,tf⟩,e,o⟩] w5):=(show Bx _ _ _ from HR.out.1)
   have zS:Hid (w5.heap[w1.heap.size]? =some (kO b1 b2 b3 true b5 b6)):=(show _=_ from HR.out.2)
   clear HR p0 p1 p2 p3 p4 p5 p6 p7 q0 q1 q2 q3 q4 q5
   obtain⟨p0,p1,p2,p3,p4,p5,p6,p7⟩:=ah (nK.out.bJ rfl)
   obtain⟨q0,q1,q2,q3,q4,q5⟩:=ew zS.out
   go_wp2_with fail
   refine(H5.out _ nK.out.1).mono ?_
   rintro e w6⟨rfl,hb⟩
   have SN:Hid (w6.heap[w1.heap.size]? =some (kO b1 b2 b3 true b5 b6)):=(show _=_ from(hb.block _ (Array.getElem?_eq_some_iff.1 zS.out).1).trans zS.out)
   have vJ:=hD (nK.out.below hb)
   clear hb p0 p1 p2 p3 p4 p5 p6 p7 q0 q1 q2 q3 q4 q5
   obtain⟨p0,p1,p2,p3,p4,p5,p6,p7⟩:=ah (vJ.out.bJ rfl)
   obtain⟨q0,q1,q2,q3,q4,q5⟩:=ew SN.out
   go_wp2_with fail
   refine(H6.out _ vJ.out.1).mono ?_
   rintro e w7⟨rfl,hb⟩
   have oe:=hD (vJ.out.below hb)
   clear hb
   go_wp2_with fail
   go_ret
   exact⟨rfl,oe.out.1⟩
theorem vV(x:aq)(h:Tp x)(w:World)(hT:Tb w):
 Calls Tryz.prog 152 #[.agg #[.int .i64 x.kind, .string x.field, .string x.name, .string x.more, .int .i64 x.type.kind, .int .i64 x.type.of, .string x.expr, .string x.other]] w fun e w'=>e= .returned (.bool true)∧Below w.heap.size w w':=by
 have hk:x.kind=1∨x.kind=2∨x.kind=3∨x.kind=4∨x.kind=5∨x.kind=6:=by have:=h.sh;simp only[lg]at this;omega
 have hF:∀(s:ByteArray),(s=⟨#[]⟩∨∃e,dq s.data.toList=some e)→∀W,Below w.heap.size w W→Calls Tryz.prog 163 #[.string s, .bool true] W fun e w'=>e= .returned (.bool true)∧Below W.heap.size W w':=fun s hs W hb=>by
  rcases hs with rfl|⟨e,he⟩
  ·exact cU true W
  ·exact zf s e he W (hT.below hb)
 have hR:=fun W=>og x.type W
 have mh:=h.sh
 obtain⟨k,f,n,m,⟨tk,tf⟩,e,o⟩:=x
 have zE:=h.field
 have mf:=h.name
 have IZ:=h.more
 have CG:=h.type
 have s1:=h.s1
 have s2:=h.s2
 have s3:=h.s3
 have hex:=h.expr
 have hot:=h.other
 dsimp only at*
 have t0:aB ⟨0,0⟩=false:=by decide
 simp only[lg,aJ.mk.injEq]at mh
 rcases mh with⟨rfl,rfl,rfl,rfl⟩|⟨rfl,rfl,rfl,⟨rfl,rfl⟩,rfl,rfl⟩|⟨rfl,rfl,⟨rfl,rfl⟩,rfl,rfl⟩|⟨rfl,rfl,rfl,rfl⟩|rfl|⟨rfl,rfl,rfl,⟨rfl,rfl⟩,rfl,rfl⟩
 ·exact xG _ _ _ _ _ _ _ _ false true false true true false w (jm 1 (by simp)) gP (fq _ (mf (by simp)) s2) gP (by rw[CG (by simp)]at hR;exact hR) (hF _ hex) (fun W _=>cU _ W) (by simp)
 ·exact xG _ _ _ _ _ _ _ _ true false false false false false w (jm 2 (by simp)) (fq _ (zE (by simp)) s1) gP gP (by rw[t0]at hR;exact hR) (fun W _=>cU _ W) (fun W _=>cU _ W) (by simp)
 ·exact xG _ _ _ _ _ _ _ _ true true false false false false w (jm 3 (by simp)) (fq _ (zE (by simp)) s1) (fq _ (mf (by simp)) s2) gP (by rw[t0]at hR;exact hR) (fun W _=>cU _ W) (fun W _=>cU _ W) (by simp)
 ·exact xG _ _ _ _ _ _ _ _ true false false true true false w (jm 4 (by simp)) (fq _ (zE (by simp)) s1) gP gP (by rw[CG (by simp)]at hR;exact hR) (hF _ hex) (fun W _=>cU _ W) (by simp)
 ·exact xG _ _ _ _ _ _ _ _ true true true true true true w (jm 5 (by simp)) (fq _ (zE (by simp)) s1) (fq _ (mf (by simp)) s2) (fq _ (IZ (by simp)) s3) (by rw[CG (by simp)]at hR;exact hR) (hF _ hex) (hF _ hot) (by simp)
 ·exact xG _ _ _ _ _ _ _ _ true false false false false false w (jm 6 (by simp)) (fq _ (zE (by simp)) s1) gP gP (by rw[t0]at hR;exact hR) (fun W _=>cU _ W) (fun W _=>cU _ W) (by simp)
theorem atA {w:World}{i:Nat}{o:Obj}(h:w.heap[i]? =some o)(x:Obj):(w.alloc x).heap[i]? =some o:=(Array.getElem?_push_lt (Array.getElem?_eq_some_iff.1 h).1).trans ((Array.getElem?_eq_getElem _).symm.trans h)
def gQ(M:Nat→Prop)(c:ai)(many:Int)(t:aJ)(s:ByteArray)(w:World)(v:Value):Prop:=
 ∃gf lb,v= .func (.func gf) #[] lb∧(∀args w,(callFunc gf args).run Tryz.prog w= .ok (.enter gf args) w)∧
  (aB t=true→∀N:Nat→Prop,(∀i,M i→N i)→(∀i,N i→M i∨w.heap.size≤i)→∀W,ag N w W→∀vv vs,ae N W vv vs→aW c.fields many vs→Bd N W→Gd W→Calls Tryz.prog gf (#[vv]++lb) W (aF W fun u w'=>∃x,jX c t many s vs x∧bI N w' u x))
theorem ag.down {M N:Nat→Prop}{w W:World}(h:ag N w W)(k:∀i,N i→M i∨w.heap.size≤i):ag M w W:=⟨h.os,h.tape,h.output,h.size,fun i hi hM=>h.block i hi fun hN=>(k i hN).elim hM (by omega)⟩
theorem D7 {B K:Nat}{w W:World}(h:Below B w W)(hK:B≤K)(hB:B≤W.heap.size){a0 a1 a2 a3:Value}{o:Obj}:Below B w (((((W.setCell ⟨K,0,none⟩ a0).setCell ⟨K,1,none⟩ a1).setCell ⟨K,2,none⟩ a2).setCell ⟨K,3,none⟩ a3).alloc o):=by
 exact(bG h hK).alloc (by simpa [World.setCell]using hB) o
theorem gQ.only {M:Nat→Prop}{c:ai}{many:Int}{t:aJ}{s:ByteArray}{w w':World}{v:Value}(h:gQ M c many t s w v)(ho:ag M w w'):gQ M c many t s w' v:=by
 obtain⟨gf,lb,h1,h2,h3⟩:=h
 exact⟨gf,lb,h1,h2,fun ht N L3 I0 W hW=>h3 ht N L3 (fun i hi=>(I0 i hi).imp_right fun h=>Nat.le_trans ho.size h) W ((ho.mono L3).trans hW)⟩
theorem D8(t:aJ)(ht:aB t=true)(M:Nat→Prop)(W:World)(vv:Value)(hM:Bd M W)(p:Nat)(hp:W.heap[p]? =some (Cx t.kind t.of)):
 Calls Tryz.prog 164 #[vv, .pointer (some ⟨p,0,none⟩)] W (aF W fun u w'=>bI M w' u (iY t)):=by
 have gy:p<W.heap.size:=(Array.getElem?_eq_some_iff.1 hp).1
 have hne:p≠W.heap.size:=by omega
 obtain⟨p0,p1⟩:=af hp
 obtain⟨⟨yk,yn,ys,yl⟩,hz⟩:∃z,z=iY t:=⟨_,rfl⟩
 have HZ:Hid (∀w,Calls Tryz.prog 165 #[.agg #[.int .i64 t.kind, .int .i64 t.of]] w (aF w fun v w'=>bI (eP M W 1) w' v (au.mk yk yn ys yl))):=(show∀w,_ from fun w=>by rw[hz];exact JI t ht (eP M W 1) w)
 rw[←hz]
 clear hz
 have cQ:=hD (Bx.fA W (fD 0 0 ⟨#[]⟩ (.slice none 0 0)))
 clear hp
 go_enter Tryz.func164,Tryz.ntmps164
 go_wp2_with fail
 refine(HZ.out _).mono ?_
 rintro e w1⟨_,rfl,zU,aw⟩
 obtain⟨ua,uc,rfl,vL⟩:=cj zU
 have HY:=hD vL
 have Rw:Hid (ys.size≤maxLen):=(show _≤_ from qk zU)
 have aO:=hD (cQ.out.below aw)
 obtain⟨c0,c1,c2,c3⟩:=ab (aO.out.bJ rfl)
 have f0:=aa (aO.out.bJ rfl) 0
 have f1:=aa (aO.out.bJ rfl) 1
 have f2:=aa (aO.out.bJ rfl) 2
 have f3:=aa (aO.out.bJ rfl) 3
 clear zU aw vL
 go_wp2_with fail
 refine bodyPost_ret (v:= .agg #[.int .i64 yk, .int .i64 yn, .string ys, .slice ua yl.length uc]) (by simp[results,Tryz.results164,go_sem,c0,c1,c2,c3]) rfl ⟨_,rfl,⟨_,rfl,gK (HY.out.ev ?_) Rw.out⟩,bG aO.out.1 (Nat.le_refl _)⟩
 exact((((ff w1).setCell (.inl (.inr ⟨by simp,by simp⟩)) _).setCell (.inl (.inr ⟨by simp,by simp⟩)) _).setCell (.inl (.inr ⟨by simp,by simp⟩)) _).setCell (.inl (.inr ⟨by simp,by simp⟩)) _
theorem D9(c:ai)(hc:bR c)(many:Int)(hm:many≤100000)(e:an)(t:aJ)(hx:We e)(ht:jM c e t)(M:Nat→Prop)(W:World)(vv fv:Value)(vs:List au)(hM:Bd M W)(bz:ae M W fv c.fields)(dk:ae M W vv vs)(hv:aW c.fields many vs)(hg:Gd W)
 (p q:Nat)(k n:Int)(s:ByteArray)(l:List an)(lv:Value)(he:e= .mk k n s l)(hl:ae M W lv l)(hs:s.size≤maxLen)(hp:W.heap[p]? =some (BA k n s lv))(hq:W.heap[q]? =some (cg c.name fv)):
 Calls Tryz.prog 168 #[vv, .pointer (some ⟨p,0,none⟩), .pointer (some ⟨q,0,none⟩)] W (aF W fun u w'=>∃x,nA c t many e vs x∧bI M w' u x):=by
 have gy:p<W.heap.size:=(Array.getElem?_eq_some_iff.1 hp).1
 have hql:q<W.heap.size:=(Array.getElem?_eq_some_iff.1 hq).1
 have hne:p≠W.heap.size:=by omega
 have Ce:q≠W.heap.size:=by omega
 obtain⟨p0,p1,p2,p3⟩:=ab hp
 obtain⟨q0,q1⟩:=af hq
 have ek:bI M W (.agg #[.int .i64 k, .int .i64 n, .string s,lv]) e:=⟨_,rfl,by rw[he];exact bS.iff.2 ⟨_,rfl,hl,hs⟩⟩
 have HE:Hid (∀w,Below W.heap.size W w→W.heap.size+1≤w.heap.size→_):=(show∀w,_→_→_ from fun w hb h1=>KD c hc many hm e t hx ht (eP M W 1) w _ fv vv vs (dS hM h1) (ek.ev (dR hb)) (bz.ev (dR hb)) (dk.ev (dR hb)) hv (hg.below hb))
 have cQ:=hD (Bx.fA W (fD 0 0 ⟨#[]⟩ (.slice none 0 0)))
 obtain⟨la,lc,rfl,_⟩:=hl.open_
 obtain⟨fa,fc,rfl,_⟩:=bz.open_
 obtain⟨va,vc,rfl,_⟩:=dk.open_
 clear hp hq bz dk hv hg ek hl he hx ht
 go_enter Tryz.func168,Tryz.ntmps168
 go_wp2_with fail
 refine(HE.out _ ((Below.refl _ _).alloc (Nat.le_refl _) _) (by simp)).mono ?_
 rintro e1 w1⟨_,rfl,⟨_,⟨yk,yn,ys,yl⟩,rfl,MC,zU⟩,aw⟩
 obtain⟨ua,uc,rfl,vL⟩:=cj zU
 have HY:=hD vL
 have Ot:=hD MC
 have Rw:Hid (ys.size≤maxLen):=(show _≤_ from qk zU)
 have aO:=hD (cQ.out.below aw)
 have qt:W.heap.size<w1.heap.size:=(Array.getElem?_eq_some_iff.1 (aO.out.bJ rfl)).1
 obtain⟨c0,c1,c2,c3⟩:=ab (aO.out.bJ rfl)
 have f0:=aa (aO.out.bJ rfl) 0
 have f1:=aa (aO.out.bJ rfl) 1
 have f2:=aa (aO.out.bJ rfl) 2
 have f3:=aa (aO.out.bJ rfl) 3
 clear zU aw vL MC
 go_wp2_with fail
 refine bodyPost_ret (v:= .agg #[.int .i64 yk, .int .i64 yn, .string ys, .slice ua yl.length uc]) (by simp[results,Tryz.results168,go_sem,c0,c1,c2,c3,qt]) rfl ⟨_,rfl,⟨_,Ot.out,⟨_,rfl,gK (HY.out.ev ?_) Rw.out⟩⟩,D7 aO.out.1 (Nat.le_refl _) (by omega)⟩
 exact(((((ff w1).setCell (.inl (.inr ⟨by simp,by simp⟩)) _).setCell (.inl (.inr ⟨by simp,by simp⟩)) _).setCell (.inl (.inr ⟨by simp,by simp⟩)) _).setCell (.inl (.inr ⟨by simp,by simp⟩)) _).alloc _
theorem xH(c:ai)(hc:bR c)(many:Int)(hm:many≤100000)(t:aJ)(s:ByteArray)(ht:mH c t s)(M:Nat→Prop)(w:World)(fv:Value)(hM:Bd M w)(bz:ae M w fv c.fields)(hT:Tb w):
 Calls Tryz.prog 153 #[.agg #[.string c.name,fv], .string s, .agg #[.int .i64 t.kind, .int .i64 t.of]] w (aF w fun v w'=>gQ M c many t s w' v):=by
 have Is:∀(fn:Fn)(first cap:Array Value)(w:World),(Instr.makeFunc fn first cap).run Tryz.prog w= .ok (.func fn first cap) w:=fun _ _ _ _=>rfl
 have ij:=hD bz
 have HM:=hD hM
 rcases ht with hs|⟨x,hx⟩
 ·obtain rfl:=bB hs
  obtain⟨fa,fc,rfl,_⟩:=bz.open_
  have cQ:=hD (Bx.eO w (cg c.name (.slice fa c.fields.length fc)) (Cx t.kind t.of))
  clear bz hM
  go_enter Tryz.func153,Tryz.ntmps153
  go_wp2_with fail
  go_ret
  refine⟨_,rfl,⟨164,#[.pointer (some ⟨w.heap.size+1,0,none⟩)],rfl,enters_of Tryz.func164 (by kernel_rfl) rfl,fun CG N L3 I0 W hW vv vs zY dk Z8 hgW=> ?_⟩,cQ.out.1⟩
  have hp:=hW.at_ (cQ.out.bh rfl) (fun h=>by
   have hl:=(Array.getElem?_eq_some_iff.1 (cQ.out.bh rfl)).1
   rcases I0 _ h with h|h
   ·have:=HM.out _ h;omega
   ·exact absurd h (by simp))
  refine(D8 t CG N W vv Z8 (w.heap.size+1) hp).mono ?_
  rintro e w1⟨u,rfl,hu,hb⟩
  exact⟨u,rfl,⟨_,JD rfl CG,hu⟩,hb⟩
 ·have hz:=r9 hx.parse
  have Vh:=hD hx
  obtain⟨T,h1,h2,h3,h4,h5,h6,h7⟩:=KE hx.parse
  have HP:Hid (∀W,Below w.heap.size w W→Calls Tryz.prog 166 #[.string s] W (aF W (Kt W x))):=(show∀W,_→_ from fun W hb=>xF s x Vh.out.parse W (hT.below hb))
  have Rp:Hid (∀W v,Below w.heap.size w W→bI M W v x→Calls Tryz.prog 167 #[v, .agg #[.string c.name,fv]] W fun ε w'=>ε= .returned (.tuple #[.agg #[.int .i64 t.kind, .int .i64 t.of], .int .i64 0])∧Below W.heap.size W w'):=(show∀W v,_→_→_ from fun W v hb ha=>BE c hc x t h7 Vh.out.ty M W v fv (HM.out.below hb) ha (ij.out.below hb) (hT.below hb))
  have Z9:=hD h7
  obtain⟨fa,fc,rfl,_⟩:=bz.open_
  have cQ:=hD (Bx.eO w (cg c.name (.slice fa c.fields.length fc)) (Cx t.kind t.of))
  clear bz hM hx h1 h2 h3 h4 h5 h6 h7
  obtain⟨xk,xn,xs,xl⟩:=x
  go_enter Tryz.func153,Tryz.ntmps153
  go_wp2_with fail
  refine(HP.out _ cQ.out.1).mono ?_
  rintro e w1⟨_,rfl,⟨u,rfl,ek⟩,aw⟩
  obtain⟨cs,rfl,bw⟩:=ek
  obtain⟨av,rfl,aU,iD⟩:=bS.iff.1 bw
  obtain⟨xa,xc,rfl,_⟩:=aU.open_
  have aO:=hD (cQ.out.below aw)
  have eM:Hid (ae M w1 (.slice xa xl.length xc) xl):=(show ae _ _ _ _ from aU.ev (Ev.ee w1 fun i hi=>by
   have h1:=HM.out _ hi
   show i<_
   simp;omega))
  have vi:Hid (bI M w1 (.agg #[.int .i64 xk, .int .i64 xn, .string xs, .slice xa xl.length xc]) (an.mk xk xn xs xl)):=(show bI _ _ _ _ from⟨_,rfl,bS.iff.2 ⟨_,rfl,eM.out,iD⟩⟩)
  have mz:w.heap.size<w1.heap.size:=(Array.getElem?_eq_some_iff.1 (aO.out.bJ rfl)).1
  have qt:w.heap.size+1<w1.heap.size:=(Array.getElem?_eq_some_iff.1 (aO.out.bh rfl)).1
  obtain⟨a0,a1⟩:=af (aO.out.bJ rfl)
  clear bw aU aw
  go_wp2_with fail
  refine(Rp.out _ _ (aO.out.1.alloc aO.out.1.size _) (vi.out.ev ((Ev.refl _ _).alloc _))).mono ?_
  rintro e w2⟨rfl,aM⟩
  have jN:=hD (boxed aM)
  have aA:=hD (aO.out.below (aL aM))
  have L4:=hD (eM.out.below (aL aM))
  have qaa:=hD (ij.out.below aA.out.1)
  obtain⟨b0,b1⟩:=af (aA.out.bh rfl)
  have sK:w.heap.size+1<w2.heap.size:=(Array.getElem?_eq_some_iff.1 (aA.out.bh rfl)).1
  clear aM
  go_wp2_with fail
  go_ret
  refine⟨_,rfl,⟨168,#[.pointer (some ⟨w1.heap.size,0,none⟩), .pointer (some ⟨w.heap.size,0,none⟩)],rfl,enters_of Tryz.func168 (by kernel_rfl) rfl,fun CG N L3 I0 W hW vv vs zY dk Z8 hgW=> ?_⟩,(aA.out.alloc _).1⟩
  have FN:=(Array.getElem?_eq_some_iff.1 jN.out).1
  have hN3:∀i,N i→M i∨w2.heap.size+1≤i:=fun i hi=>by simpa using I0 i hi
  have hp:=hW.at_ (atA jN.out _) (fun h=>by
   rcases hN3 _ h with h|h
   ·have:=HM.out _ h;omega
   ·omega)
  have hq:=hW.at_ (atA (aA.out.bJ rfl) _) (fun h=>by
   rcases hN3 _ h with h|h
   ·have:=HM.out _ h;omega
   ·omega)
  have hWM:=hW.down I0
  have hsub:∀i,N i→M i∨w2.heap.size≤i:=fun i hi=>(hN3 i hi).imp_right fun h=>by omega
  refine(D9 c hc many hm _ t Z9.out Vh.out.ty N W vv _ vs Z8 (qaa.out.ev ⟨((ag.refl _ _).alloc _).trans hWM,hsub⟩) zY dk hgW _ _ _ _ _ _ _ rfl (L4.out.ev ⟨((ag.refl _ _).alloc _).trans hWM,hsub⟩) ?_ hp hq).mono ?_
  ·exact iD
  ·rintro e w3⟨u,rfl,⟨x,hx,hu⟩,hb⟩
   exact⟨u,rfl,⟨x,GA Vh.out.parse Vh.out.ty hx,hu⟩,hb⟩
end
section
open Go.RowKit Go.Shelf
theorem Nx {c:ai}{x:aq}(hc:bR c)(hp:ot c x)(hb:gY c x=true):Tp x:=by
 have hE:∀s:ByteArray,pP c x.type s→s=⟨#[]⟩∨∃e,dq s.data.toList=some e:=fun s h=>by
  rcases h with h|⟨e,h,_⟩
  ·exact .inl (bB h)
  ·exact .inr ⟨e,h⟩
 refine⟨hp.sh,fun hk=> ?_,hp.name,hp.more,hp.type,hE _ hp.expr,hE _ hp.other,hp.s1,hp.s2,hp.s3⟩
 have hh:hasB c x.field=true:=by
  unfold gY at hb
  have mh:=hp.sh
  simp only[lg]at mh
  rw[if_neg hk]at hb
  repeat'(split at hb)
  all_goals simp_all
 exact Ao hc.right hh
end
end Go.Proofs.YtlkjnefenialbaaGreatDoor
