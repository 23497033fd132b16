/- The kinds of changes, places, the world's checks; no condition beyond each theorem's own. -/
import Derived.Test.YtlkjnefenialbaaGreatDoorM18
import Derived.Test.YtlkjnefenialbaaGreatDoorM28
import Derived.Test.YtlkjnefenialbaaGreatDoorM39
import Derived.BigQuiet
import Derived.WalkSmall
import Derived.Deep.Quiet
set_option linter.unusedVariables false
set_option linter.unusedSimpArgs false
set_option maxHeartbeats 8000000
set_option maxRecDepth 100000
namespace Go.Proofs.YtlkjnefenialbaaGreatDoor
open Go.RowKit Go.Shelf
theorem Ht(d:Nat)(w:World)(f:Fn)(x y:Array Value):(Op.equalIn (d+1) 248 (.func f x y) .nilFunc).run Tryz.prog w= .ok false w:=by
 simp[Op.equalIn,run_underlying Tryz.underlying248]
theorem lJ(w:World)(f:Fn)(x y:Array Value):(binOp .neq 248 (.func f x y) .nilFunc).run Tryz.prog w= .ok (.bool true) w:=by
 simp only[binOp]
 simp[Op.equal,Op.maxDepth,Ht 9999]
theorem sZ(M:Nat→Prop)(w:World)(c:ai)(fv:Value)(x:aq)(a:Int)(b:Bool)(g1 g2:Value)(p:Nat)(s u:ByteArray)(eU:c.name.size≤maxLen)
 (hp:w.heap[p]? =some (oI c.name fv x a b g1 g2))(bz:ae M w fv c.fields)(hs:hasB c s=false∨s=u):
 Calls Tryz.prog 202 #[.pointer (some ⟨p,0,none⟩), .string s, .string u] w fun e w'=>e= .returned (.bool true)∧Below w.heap.size w w':=by
 have gy:p<w.heap.size:=(Array.getElem?_eq_some_iff.1 hp).1
 have q0:=(bV hp).c0
 have q1:=(bV hp).c1
 have HF:Hid (Calls Tryz.prog 125 #[.agg #[.string c.name,fv], .string s] w fun e w'=>∃at_,e= .returned (.tuple #[.int .i64 at_, .bool (hasB c s)])∧Below w.heap.size w w'):=(show _ by
  refine(kx M fv w c s _ _ bz eU rfl rfl).mono ?_
  rintro e w1⟨rfl,hb⟩
  exact⟨_,rfl,hb⟩)
 obtain⟨a0,c0,rfl,cq,po,ho⟩:=bz.open_
 clear bz hp ho
 go_enter Tryz.func202,Tryz.ntmps202
 go_wp2_with fail
 refine(HF.out).mono ?_
 rintro e w1⟨at_,rfl,hb⟩
 have HB:=hD hb
 clear hb
 rcases hs with hs|rfl
 ·rw[hs]
  go_wp2_with fail
  go_ret
  exact⟨rfl,HB.out⟩
 ·cases hq:hasB c s
  ·go_wp2_with fail
   go_ret
   exact⟨rfl,HB.out⟩
  ·go_wp2_with fail
   go_ret
   exact⟨by simp,HB.out⟩
theorem Ec(w:World)(nm:ByteArray)(fv:Value)(x:aq)(a:Int)(b:Bool)(g1 g2:Value)(p:Nat)(hp:w.heap[p]? =some (oI nm fv x a b g1 g2)):
 Calls Tryz.prog 173 #[.pointer (some ⟨p,0,none⟩)] w fun e w'=>e= .returned (.bool b)∧Below w.heap.size w w':=by
 have q1:=(bV hp).cb
 go_enter Tryz.func173,Tryz.ntmps173
 go_wp2_with fail
 go_ret
 exact⟨rfl,Below.refl _ _⟩
theorem Ed(w:World)(nm:ByteArray)(fv:Value)(x:aq)(a:Int)(f1:Nat)(b1:Array Value)(g2:Value)(p:Nat)(hp:w.heap[p]? =some (oI nm fv x a true (.func (.func f1) #[] b1) g2)):
 Calls Tryz.prog 179 #[.pointer (some ⟨p,0,none⟩)] w fun e w'=>e= .returned (.bool true)∧Below w.heap.size w w':=by
 have q1:=(bV hp).cb
 have q2:=(bV hp).cc
 have q3:=lJ
 go_enter Tryz.func179,Tryz.ntmps179
 go_wp2_with fail
 go_ret
 exact⟨rfl,Below.refl _ _⟩
theorem zj(M:Nat→Prop)(w:World)(c:ai)(fv:Value)(x:aq)(a:Int)(g1 g2:Value)(p:Nat)(eU:c.name.size≤maxLen)(hp:w.heap[p]? =some (oI c.name fv x a true g1 g2))(bz:ae M w fv c.fields)(hs:hasB c x.name=false):
 Calls Tryz.prog 176 #[.pointer (some ⟨p,0,none⟩)] w fun e w'=>e= .returned (.bool true)∧Below w.heap.size w w':=by
 have HF:=hD (sZ M w c fv x a true g1 g2 p x.name ⟨#[]⟩ eU hp bz (.inl hs))
 have q1:=(bV hp).cb
 have q2:=(bV hp).c4
 clear hp bz
 go_enter Tryz.func176,Tryz.ntmps176
 go_wp2_with fail
 refine(HF.out).mono ?_
 rintro e w1⟨rfl,hb⟩
 have HB:=hD hb
 clear hb
 go_wp2_with fail
 go_ret
 exact⟨rfl,HB.out⟩
theorem Hu(M:Nat→Prop)(w:World)(c:ai)(fv:Value)(x:aq)(a:Int)(b:Bool)(f1:Nat)(b1:Array Value)(g2:Value)(p:Nat)(eU:c.name.size≤maxLen)(h8:c.fields.length<8)(hp:w.heap[p]? =some (oI c.name fv x a b (.func (.func f1) #[] b1) g2))(bz:ae M w fv c.fields)(hs:hasB c x.name=false):
 Calls Tryz.prog 170 #[.pointer (some ⟨p,0,none⟩)] w fun e w'=>e= .returned (.bool true)∧Below w.heap.size w w':=by
 have gy:p<w.heap.size:=(Array.getElem?_eq_some_iff.1 hp).1
 have HW:=hD (bV hp)
 have HF:=hD (sZ M w c fv x a b _ g2 p x.name ⟨#[]⟩ eU hp bz (.inl hs))
 have q1:=HW.out.c1
 have q2:=HW.out.c4
 have s0:((c.fields.length:Nat):Int)<8:=by omega
 obtain⟨a0,c0,rfl,cq,po,ho⟩:=bz.open_
 obtain⟨n,hn⟩:∃n,c.fields.length=n:=⟨_,rfl⟩
 rw[hn]at q1 s0 HW
 have q4:=lJ
 clear hp bz ho
 go_enter Tryz.func170,Tryz.ntmps170
 go_wp2_with fail
 refine(HF.out).mono ?_
 rintro e w1⟨rfl,hb⟩
 have HB:=hD hb
 have q3:=(HW.out.below gy hb).cc
 clear hb
 go_wp2_with fail
 go_ret
 exact⟨rfl,HB.out⟩
abbrev mm(i:Int):Value:= .int .i64 i
theorem qm(e:Bool)(x:Int)(w:World):(Instr.checkKey e 10000 3 (mm x)).run Tryz.prog w= .ok () w:=by
 show(Instr.checkKey e (9999+1) 3 (.int .i64 x)).run Tryz.prog w= .ok () w
 rw[Instr.checkKey]
 simp only[Sem.run_bind,run_underlying Tryz.underlying3,Result.andThen_ok]
 rfl
def gx(f p:Nat):Value:= .func (.func f) #[.pointer (some ⟨p,0,none⟩)] #[]
def ig(p f g h:Nat):Value:= .agg #[gx f p,gx g p,gx h p]
theorem kP {w:World}{b:Nat}{es:List (Int×Value×Nat)}{clk:Nat}(h:bq mm w b es clk)(x:Int)(v:Value)(hv:bA es x=none):∃w',(Instr.mapUpdate 252 (.map (some b)) (.int .i64 x) v).run Tryz.prog w= .ok () w'∧bq mm w' b (es++[(x,v,clk)]) (clk+1)∧ag (fun i=>i=b) w w':=by
 obtain⟨h1,h2⟩:=bq.insert mm (.int .i64) uG (P:=Tryz.prog) Tryz.underlying252 Tryz.underlying3 qm h x v hv
 exact⟨_,h1,h2,(ag.refl (fun i=>i=b) w).putObj (.inl rfl) _⟩
def lK(w:World)(b p:Nat):Prop:=∃es clk,bq mm w b es clk∧
 bA es 1=some (ig p 170 171 172)∧
 bA es 2=some (ig p 173 174 175)∧
 bA es 3=some (ig p 176 177 178)∧
 bA es 4=some (ig p 179 180 181)∧
 bA es 5=some (ig p 182 183 184)∧
 bA es 6=some (ig p 185 186 178)
theorem jn {w:World}{b:Nat}{es:List (Int×Value×Nat)}{clk:Nat}(h:bq mm w b es clk)(x:Int)(v:Value)(hv:bA es x=some v):(Instr.lookup 252 (.map (some b)) (.int .i64 x) false).run Tryz.prog w= .ok v w:=
 bq.lookup mm (.int .i64) uG (P:=Tryz.prog) Tryz.underlying252 Tryz.underlying3 qm h x v hv
theorem KI(w:World)(p:Nat):Calls Tryz.prog 154 #[.pointer (some ⟨p,0,none⟩)] w fun e w'=>∃b,e= .returned (.map (some b))∧lK w' b p∧w.heap.size≤b∧Below w.heap.size w w':=by
 have h0:bq mm (w.alloc (.map #[] 0)) w.heap.size [] 0:=(MapKept.heap_alloc w _).1
 have t0:w.heap.size<(w.alloc (.map #[] 0)).heap.size:=by simp
 obtain⟨w0,Ch⟩:∃w0,w0=w.alloc (.map #[] 0):=⟨_,rfl⟩
 rw[←Ch]at h0 t0
 obtain⟨w1,e1,h1,o1⟩:=kP h0 1 (ig p 170 171 172) rfl
 obtain⟨w2,e2,h2,o2⟩:=kP h1 2 (ig p 173 174 175) rfl
 obtain⟨w3,e3,h3,o3⟩:=kP h2 3 (ig p 176 177 178) rfl
 obtain⟨w4,e4,h4,o4⟩:=kP h3 4 (ig p 179 180 181) rfl
 obtain⟨w5,e5,h5,o5⟩:=kP h4 5 (ig p 182 183 184) rfl
 obtain⟨w6,e6,h6,o6⟩:=kP h5 6 (ig p 185 186 178) rfl
 have HO:Hid (Below w.heap.size w w6):=(show Below _ _ _ from((((ag.refl (fun _=>False) w).alloc (.map #[] 0)).cD (Ch▸(((((o1.trans o2).trans o3).trans o4).trans o5).trans o6)) (fun i hi aT=>by subst hi;omega)).below))
 have HM:Hid (lK w6 w.heap.size p):=(show lK _ _ _ from⟨_,_,h6,rfl,rfl,rfl,rfl,rfl,rfl⟩)
 clear h0 h1 h2 h3 h4 h5 h6 o1 o2 o3 o4 o5 o6 t0
 unfold ig gx at e1 e2 e3 e4 e5 e6
 have Is:∀(fn:Fn)(first cap:Array Value)(w:World),(Instr.makeFunc fn first cap).run Tryz.prog w= .ok (.func fn first cap) w:=fun _ _ _ _=>rfl
 have Cc:=kN 252 w
 rw[←Ch]at Cc
 clear Ch
 go_enter Tryz.func154,Tryz.ntmps154
 go_wp2_with fail
 go_ret
 exact⟨_,rfl,HM.out,Nat.le_refl _,HO.out⟩
def mc(x:cG)(i:Nat)(o:dz):Prop:=∃(o0:dz)(k v:Nat)(l:aE)(us:List au),x.objs[i]? =some o0∧mN x.lines x.objs.length o0 k v l∧gM (aI l v) (l.changes.drop v) x.objs.length o0.cz us∧o=⟨o0.id,(k:Int),(l.changes.length:Int),us⟩
theorem mc.refs {x:cG}(h:fm x){i:Nat}{o:dz}(hl:mc x i o):o.cz.flatMap (bT 3)=cK x ((i:Int)+1):=by
 obtain⟨o0,k,v,l,us,h1,h2,h3,rfl⟩:=hl
 rw[h.refs h1 h2]
 exact h3.refs
theorem mc.cz {x:cG}(h:fm x){i:Nat}{o:dz}(hl:mc x i o):∃fs,aW fs x.objs.length o.cz∧o.cz.length≤8:=by
 obtain⟨o0,k,v,l,us,h1,h2,h3,rfl⟩:=hl
 have hc:=((h.sch.lines l (List.mem_of_getElem? h2.line)).from_ v).mL (l.changes.drop v).length
 have e:aI (dh l v) (l.changes.drop v).length=jY (aI l v) (l.changes.drop v):=by
  show jY (aI l v) ((l.changes.drop v).take _)=_
  rw[List.take_length]
 rw[e]at hc
 have h8:=((aZ _).1 hc.right).2.1
 exact⟨_,h3.1,by show us.length≤8;rw[h3.1.1];exact h8⟩
theorem fm.closed {x:cG}(h:fm x):Mk.zm x.objs.length (bo x) (cK x):=by
 refine⟨fun n hn=> ?_,fun n h1 h2 y hy=> ?_⟩
 ·obtain⟨r,hr,rfl⟩:=List.mem_map.1 hn
  exact h.roots r hr
 ·obtain⟨i,rfl⟩:∃i:Nat,n=(i:Int)+1:=⟨(n-1).toNat,by omega⟩
  obtain⟨o,ho⟩:∃o,x.objs[i]? =some o:=⟨_,List.getElem?_eq_getElem (by omega)⟩
  obtain⟨_,k,v,l,hk⟩:=h.objs i o ho
  rw[h.refs ho hk]at hy
  exact yJ hk.cz y hy
theorem Ee {x:cG}(h:fm x){i:Nat}{o:dz}(hl:mc x i o):(cK x ((i:Int)+1)).length≤96:=by
 rw[←hl.refs h]
 obtain⟨fs,h1,h8⟩:=hl.cz h
 have key:∀l:List au,(∀v∈l,(bT 3 v).length≤12)→(l.flatMap (bT 3)).length≤12*l.length:=by
  intro l
  induction l with
  |nil=>intro _;simp
  |cons a l ih=>
   intro hh
   have h1:=hh a (by simp)
   have h2:=ih (fun v hv=>hh v (List.mem_cons_of_mem _ hv))
   simp only[List.flatMap_cons,List.length_append,List.length_cons]
   omega
 have:=key o.cz (fun v hv=>by
  obtain⟨f,_,hf⟩:=eF h1 v hv
  exact rj hf 3)
 omega
structure KJ(x:cG)(M:Nat→Prop)(w:World)(lv:Value)(pm:Nat):Prop where
 late:∃ls:List dz,ae M w lv ls∧ls.length=x.objs.length∧∀(i:Nat)o,ls[i]? =some o→mc x i o
 place:∃es clk,bq mm w pm es clk∧∀i:Nat,i<x.objs.length→bA es ((i:Int)+1)=some (.int .i64 i)
theorem KJ.below {x:cG}{M:Nat→Prop}{w W:World}{lv:Value}{pm:Nat}(h:KJ x M w lv pm)(hb:Below w.heap.size w W):KJ x M W lv pm:=by
 obtain⟨⟨ls,h1,h2⟩,es,clk,h3,h4⟩:=h
 exact⟨⟨ls,h1.below hb,h2⟩,es,clk,(hb.block _ (Array.getElem?_eq_some_iff.1 h3).1).trans h3,h4⟩
theorem fm.place {x:cG}(h:fm x){i:Nat}(hi:i<x.objs.length):JO x.objs ((i:Int)+1)=i:=by
 obtain⟨o,ho⟩:∃o,x.objs[i]? =some o:=⟨_,List.getElem?_eq_getElem hi⟩
 refine idxOf_hit (fun y hy=> ?_) ho (by simp[(h.objs i o ho).1])
 obtain⟨j,hj⟩:=List.getElem?_of_mem hy
 rw[List.getElem?_take]at hj
 split at hj
 ·rename_i aT
  have:=(h.objs j y hj).1
  simp;omega
 ·cases hj
theorem fm.Tq {x:cG}(h:fm x){i k v:Nat}{o:dz}{l:aE}(ho:x.objs[i]? =some o)(hk:mN x.lines x.objs.length o k v l):M4 x.objs.length o:=by
 have h1:=(h.objs i o ho).1
 have h2:=(List.getElem?_eq_some_iff.1 ho).1
 have h3:=h.len
 have h4:=(List.getElem?_eq_some_iff.1 hk.line).1
 have h5:=h.sch.len
 have h6:=h.sch.lines l (List.mem_of_getElem? hk.line)
 have h7:=h6.len
 have h8:=((aZ (aI l v)).1 (h6.mL v).right).2.1
 have h9:=hk.cz.1
 have Iy:=hk.le
 exact⟨by omega,by omega,by rw[hk.cls];omega,by rw[hk.cls];omega,by rw[hk.ver];omega,by rw[hk.ver];omega,⟨_,hk.cz⟩,by omega⟩
theorem rC:uQ mm Tryz.prog 3:=Hv mm (.int .i64) uG Tryz.underlying3
theorem uR {w:World}{b:Nat}{es:List (Int×Value×Nat)}{clk:Nat}(h:bq mm w b es clk)(n:Int)(v:Value)(hv:bA es n=some v):(Instr.lookup 65 (.map (some b)) (.int .i64 n) true).run Tryz.prog w= .ok (.tuple #[v, .bool true]) w:=
 bq.OP mm Tryz.underlying65 rC qm h n v hv
theorem Ef(w:World)(K b:Nat)(es:List (Int×Value×Nat))(clk:Nat)(n v:Int)(hK:w.cell? ⟨K,1,none⟩=some (.map (some b)))(hm:bq mm w b es clk)(hv:bA es n=some (.int .i64 v)):
 Calls Tryz.prog 69 #[.int .i64 n, .pointer (some ⟨K,0,none⟩)] w fun e w'=>e= .returned (.bool false)∧Below w.heap.size w w':=by
 have hl:=uR hm n _ hv
 have sK:=uR (w:=w.drew) hm n _ hv
 clear hm hv
 go_enter Tryz.func69,Tryz.ntmps69
 go_wp2_with fail
 go_ret
 exact⟨rfl,Below.refl _ _⟩
def fw(lv ov rv:Value)(n:Int):Obj:= .cells #[lv,ov,rv, .int .i64 n] 35 (0,0)
theorem KK(M:Nat→Prop)(w:World)(hM:Bd M w)(la:Option Addr)(ln lc:Nat)(oa:Option Addr)(om oc:Nat)(rv:Value)(rs:List cC)(nx:Int)(hr:ae M w rv rs)(h5:rs.length≤5):
 Calls Tryz.prog 8 #[.agg #[.slice la ln lc, .slice oa om oc,rv, .int .i64 nx]] w (aF w fun u w'=>ae (α:=Int) M w' u (rs.map cC.id)):=by
 obtain⟨i0,dF,dM,db,dL⟩:=info_parts jz
 have HR:Hid (∀i r,rs[i]? =some r→_):=(show∀i r,_→_ from fun i r hx=>gq hr hx)
 obtain⟨ra,rc,rfl,NV,Sw,_⟩:=hr.open_
 have kU:=hD hM
 clear hr hM
 generalize hn:rs.length=n at*
 have dZ:=hD hn;clear hn
 have h6:(n:Int)≤5:=by omega
 go_enter Tryz.func8,Tryz.ntmps8
 go_wp2_with fail
 go_loopg [3,4]n(fun g r3 iv wr=>∃(i c1:Nat)(a1:Option Addr),i≤n∧g=n-i∧iv= .int .i64 i∧r3= .slice a1 i c1∧Hid (aK (α:=Int) M (w.heap.size+1) 3 wr (.slice a1 i c1) ((rs.take i).map cC.id))∧Hid (Bx w [fw (.slice la ln lc) (.slice oa om oc) (.slice ra n rc) nx] wr))
 case atStart=>exact⟨0,0,none,Nat.zero_le _,rfl,rfl,rfl,(show aK _ _ _ _ _ _ from aK.nil _ _ _ _),(show Bx _ _ _ from Bx.fA w _)⟩
 case round=>
  obtain⟨i,c1,a1,hi,rfl,rfl,rfl,HA,HB⟩:=hrel
  obtain⟨y0,y1,y2,y3⟩:=ab (HB.out.bJ rfl)
  by_cases aT:i<n
  ·obtain⟨r,hr⟩:∃r,rs[i]? =some r:=⟨_,List.getElem?_eq_getElem (by have:=dZ.out;omega)⟩
   obtain⟨b,off,cap,hv,bZ,_,ao⟩:=HR.out i r hr
   obtain⟨rfl,rfl⟩:ra=some ⟨b,off,none⟩∧rc=cap:=by simpa using hv
   obtain⟨q0,q1⟩:=ao wr HB.out.1
   have nP:Hid (((rs.take i).map cC.id).length=i):=(show _=_ by have:=dZ.out;rw[List.length_map,List.length_take];omega)
   have nf:Hid ((rs.take i).map cC.id++[r.id]=(rs.take (i+1)).map cC.id):=(show _=_ by rw[List.take_add_one,hr];simp)
   clear ao hv hr
   have cB:=HB.out.b8
   go_wp2_with(at_builtin
               refine aQ (α:=Int) rfl _ _ _ rfl M (w.heap.size+1) 3 i0 _ 8 Tryz.underlying27 dF dM db dL rfl (by decide) (.slice a1 i c1) ((rs.take i).map cC.id) rfl (HA.out.alloc _) (fun _=>True) _ _ r.id rfl (ct _ _ _ _ rfl trivial) rfl (by rw[nP.out];unfold maxLen;omega) (by rw[nP.out];omega) (by have:=HB.out.b8;simp at this⊢;omega) ?_
               rw[nP.out,nf.out]
               intro a2 c2 w2 bj dj aM
               have cw:=hD bj
               have bO:=hD aM
               clear bj dj aM)
   go_roundg(n-(i+1))
   case measure=>omega
   case rel=>
    refine⟨i+1,c2,a2,by omega,rfl,by go_num,rfl,cw,(show Bx _ _ _ from(HB.out.alloc _).cJ bO.out (by simp))⟩
  ·obtain rfl:i=n:=by omega
   go_wp2_with fail
   go_ret
   refine⟨_,rfl,?_,HB.out.1⟩
   have h1:=HA.out.slice (fun j hj=>Nat.lt_succ_of_lt (kU.out j hj))
   rw[List.take_of_length_le (by rw[dZ.out];omega)]at h1
   exact h1
theorem aK.le {α:Type} [az α]{M:Nat→Prop}{base base':Nat}{e:TypeId}{w:World}{v:Value}{xs:List α}(h:aK M base e w v xs)(hb:base'≤base):aK M base' e w v xs:=by
 obtain⟨css,⟨h1,h2⟩,h3,h4⟩:=h
 refine⟨css,⟨h1,?_⟩,h3,h4⟩
 rcases h2 with h2|⟨g,cap,cur,h5,h6,h7⟩
 ·exact .inl h2
 ·exact .inr ⟨g,cap,cur,h5,by omega,h7⟩
theorem Qc {F:Nat→Prop}{w:World}{g size:Nat}{cs:Array Value}{t:TypeId}(h:w.heap[g]? =some (.cells cs t (0,0)))(hs:cs.size=size)(hF:F g):ba F w size (.slice (some ⟨g,0,none⟩) 1 1) 1 cs.toList:=by
 refine⟨by simp[hs],some ⟨g,0,none⟩,1,rfl,Nat.le_refl _,by unfold maxLen;omega,fun _=>⟨g,0,rfl,hF,(Array.getElem?_eq_some_iff.1 h).1,fun j u hu=> ?_⟩⟩
 simp only[World.cell?,h,Nat.zero_add]
 simpa using hu
theorem Cy {w w':World}(hb:Below w.drew.heap.size w.drew w'):Below w.heap.size w w':=(Below.refl _ w).drew.trans hb
theorem RY {w w':World}{o:Obj}(hb:Below (w.drew.alloc o).heap.size (w.drew.alloc o) w'):Below w.heap.size w w':=((Below.refl _ w).drew.alloc (Nat.le_refl _) o).trans (hb.mono (by show w.heap.size≤(w.alloc o).heap.size;simp))
theorem RZ {w w':World}{o:Obj}(hb:Below (w.alloc o).drew.heap.size (w.alloc o).drew w'):Below w.heap.size w w':=((Below.refl _ w).alloc (Nat.le_refl _) o).drew.trans (hb.mono (by show w.heap.size≤(w.alloc o).heap.size;simp))
theorem X2 {w w':World}{o:Obj}(hb:Below (w.drew.alloc o).heap.size (w.drew.alloc o) w'):w'.heap[w.heap.size]? =some o:=(hb.block w.heap.size (by show w.heap.size<(w.alloc o).heap.size;simp)).trans (heap_alloc_new w.drew o)
theorem X3 {w w':World}{o:Obj}(hb:Below (w.alloc o).drew.heap.size (w.alloc o).drew w'):w'.heap[w.heap.size]? =some o:=(hb.block w.heap.size (by show w.heap.size<(w.alloc o).heap.size;simp)).trans (heap_alloc_new w o)
theorem Qd(M:Nat→Prop)(w:World)(hM:Bd M w)(c:ai)(fv:Value)(x:aq)(a:Int)(b:Bool)(g1 g2:Value)(p:Nat)(hk:x.kind=1)(xX:x.name.size≤maxLen)(h8:c.fields.length≤8)
 (hp:w.heap[p]? =some (oI c.name fv x a b g1 g2))(bz:ae M w fv c.fields):
 Calls Tryz.prog 171 #[.pointer (some ⟨p,0,none⟩)] w (aF w fun v w'=>ae M w' v (bC c x).fields):=by
 obtain⟨i0,dF,dM,db,dL⟩:=info_parts fZ
 have gy:p<w.heap.size:=(Array.getElem?_eq_some_iff.1 hp).1
 have HW:=hD (bV hp)
 have q1:=HW.out.c1
 have q4:=HW.out.c4
 have q6:=HW.out.c6
 have q7:=HW.out.c7
 have HC:Hid (∀W,Below w.heap.size w W→Calls Tryz.prog 203 #[fv] W (aF W fun v w'=>aK M w.heap.size 151 w' v c.fields)):=(show∀W,_→_ from fun W hb=>(iH M W fv c.fields (bz.below hb) (by omega)).mono fun e w' h=>by
  obtain⟨v,h1,h2,h3⟩:=h
  exact⟨v,h1,h2.le hb.size,h3⟩)
 have oZ:Hid ((bC c x).fields=c.fields++[⟨x.name,x.type,false⟩]):=(show _=_ by rw[nw hk])
 have jN:Hid (x.name.size≤maxLen):=xX
 obtain⟨a0,c0,rfl,cq,po,ho⟩:=bz.open_
 obtain⟨n,hn⟩:∃n,c.fields.length=n:=⟨_,rfl⟩
 rw[hn]at q1 cq HC h8 HW
 have HN:=hD hn;clear hn
 clear bz hp ho
 go_enter Tryz.func171,Tryz.ntmps171
 go_wp2_with fail
 go_upto_region 1 with fail
 have dm:Hid (∀W,Below w.heap.size w W→W.cell? ⟨p,1,none⟩=some (.slice a0 n c0)∧W.cell? ⟨p,4,none⟩=some (.string x.name)∧W.cell? ⟨p,6,none⟩=some (.int .i64 x.type.kind)∧W.cell? ⟨p,7,none⟩=some (.int .i64 x.type.of)):=(show∀W,_→_ from fun W hb=>by
  have h:=HW.out.below gy hb
  exact⟨h.c1,h.c4,h.c6,h.c7⟩)
 have HJ:Hid (Below w.heap.size w w):=(show Below _ _ _ from Below.refl _ _)
 go_cut [2](fun s2 wx=>Hid (ae M wx s2 (bC c x).fields)∧Hid (Below w.heap.size w wx))
 case first=>
  go_region_held3(fun w'=>w'.cell? ⟨p,1,none⟩=some (.slice a0 n c0)∧w'.cell? ⟨p,4,none⟩=some (.string x.name)∧w'.cell? ⟨p,6,none⟩=some (.int .i64 x.type.kind)∧w'.cell? ⟨p,7,none⟩=some (.int .i64 x.type.of))
   (first|with_reducible exact dm.out _ vC.out|with_reducible exact dm.out _ vC.out.drew|with_reducible exact dm.out _ HJ.out|with_reducible exact dm.out _ HJ.out.drew|with_reducible exact dm.out _ (HJ.out.alloc HJ.out.size _)|with_reducible exact dm.out _ ((HJ.out.alloc HJ.out.size _).drew)|with_reducible exact dm.out _ (HJ.out.drew.alloc HJ.out.size _)|with_reducible exact dm.out _ dn.out|with_reducible exact dm.out _ dn.out.drew|with_reducible exact dm.out _ (dn.out.alloc dn.out.size _)|with_reducible exact dm.out _ ((dn.out.alloc dn.out.size _).drew))
   (first
     |(go_at_call 203
       refine(HC.out _ (by first|with_reducible exact HJ.out.drew|with_reducible exact HJ.out.drew.alloc HJ.out.size _|with_reducible exact(HJ.out.alloc HJ.out.size _).drew)).mono ?_
       rintro e w1⟨_,rfl,bn,hb⟩
       obtain⟨a1,c1,rfl,_⟩:=bn.open_
       have HA:=hD bn
       try(with_reducible(have HX:=hD (X2 hb)))
       try(with_reducible(have HX:=hD (X3 hb)))
       have dn:Hid (Below w.heap.size w w1):=(by first|with_reducible exact hD (Cy hb)|with_reducible exact hD (RY hb)|with_reducible exact hD (RZ hb))
       clear hb bn)
     |(refine dr (α:=ak) rfl _ _ _ rfl M w.heap.size 151 i0 _ 40 Tryz.underlying89 dF dM db dL rfl (by decide) (.slice a1 c.fields.length c1) c.fields rfl (HA.out.alloc _) (fun _=>True) _ _ (⟨x.name,x.type,false⟩:ak) rfl (ct _ _ _ _ rfl trivial) ⟨rfl,jN.out⟩ (by rw[HN.out];unfold maxLen;omega) (by rw[HN.out];omega) (by have:=dn.out.size;simp;omega) ?_
       intro a2 c2 w2 bj dj aM
       have cw:=hD bj
       have vC:Hid (Below w.heap.size w w2):=(show Below _ _ _ from(dn.out.alloc dn.out.size _).trans aM)
       clear bj dj aM)
     |(refine dr (α:=ak) rfl _ _ _ rfl M w.heap.size 151 i0 _ 40 Tryz.underlying89 dF dM db dL rfl (by decide) (.slice a1 c.fields.length c1) c.fields rfl HA.out (fun _=>True) _ _ (⟨x.name,x.type,false⟩:ak) rfl (Qc HX.out rfl trivial) ⟨rfl,jN.out⟩ (by rw[HN.out];unfold maxLen;omega) (by rw[HN.out];omega) dn.out.size ?_
       intro a2 c2 w2 bj dj aM
       have cw:=hD bj
       have vC:Hid (Below w.heap.size w w2):=(show Below _ _ _ from dn.out.trans aM)
       clear bj dj aM))
  all_goals(go_wp2_with fail;go_meet)
  all_goals exact⟨hD (by rw[oZ.out];exact cw.out.slice hM),vC⟩
 case rest=>
  obtain⟨HS,HB⟩:=hcut
  have hs:=HS.out.open_
  obtain⟨sa,sc,rfl,_⟩:=hs
  go_wp2_with fail
  go_ret
  exact⟨_,rfl,HS.out,HB.out⟩
theorem BK(M:Nat→Prop)(w:World)(c:ai)(fv:Value)(x:aq)(a:Int)(f1 f2:Nat)(b1 b2:Array Value)(p:Nat)(eU:c.name.size≤maxLen)(h8:c.fields.length<8)
 (hp:w.heap[p]? =some (oI c.name fv x a true (.func (.func f1) #[] b1) (.func (.func f2) #[] b2)))(bz:ae M w fv c.fields)(hne:(x.name.toList==x.more.toList)=false)(hs:hasB c x.name=false∨x.name=x.field)(iJ:hasB c x.more=false∨x.more=x.field):
 Calls Tryz.prog 182 #[.pointer (some ⟨p,0,none⟩)] w fun e w'=>e= .returned (.bool true)∧Below w.heap.size w w':=by
 have gy:p<w.heap.size:=(Array.getElem?_eq_some_iff.1 hp).1
 have HW:=hD (bV hp)
 have HFa:Hid (∀W,Below w.heap.size w W→_):=(show∀W,_→_ from fun W hb=>sZ M W c fv x a true _ _ p x.name x.field eU ((hb.block p gy).trans hp) (bz.below hb) hs)
 have HFb:Hid (∀W,Below w.heap.size w W→_):=(show∀W,_→_ from fun W hb=>sZ M W c fv x a true _ _ p x.more x.field eU ((hb.block p gy).trans hp) (bz.below hb) iJ)
 have q0:=HW.out.cb
 have q1:=HW.out.c1
 have q3:=HW.out.c3
 have q4:=HW.out.c4
 have q5:=HW.out.c5
 have q6:=HW.out.cc
 have q7:=HW.out.cd
 have qf:=lJ
 have s0:decide (((c.fields.length:Nat):Int)≥8)=false:=by simp;omega
 obtain⟨a0,c0,rfl,cq,po,ho⟩:=bz.open_
 obtain⟨n,hn⟩:∃n,c.fields.length=n:=⟨_,rfl⟩
 rw[hn]at q1 s0
 have dm:Hid (∀W,Below w.heap.size w W→W.cell? ⟨p,3,none⟩=some (.string x.field)∧W.cell? ⟨p,4,none⟩=some (.string x.name)∧W.cell? ⟨p,5,none⟩=some (.string x.more)∧W.cell? ⟨p,12,none⟩=some (.func (.func f1) #[] b1)∧W.cell? ⟨p,13,none⟩=some (.func (.func f2) #[] b2)):=(show∀W,_→_ from fun W hb=>by
  have h:=HW.out.below gy hb
  exact⟨h.c3,h.c4,h.c5,h.cc,h.cd⟩)
 have HJ:Hid (Below w.heap.size w w):=(show Below _ _ _ from Below.refl _ _)
 clear bz hp ho hs iJ
 go_enter Tryz.func182,Tryz.ntmps182
 go_wp2_with fail
 go_quiet(fail)
 obtain⟨w2,kV⟩:∃w2:World,w2=w.drewN nq:=⟨_,rfl⟩
 have HJ:Hid (Below w.heap.size w w2):=(show Below _ _ _ by rw[kV];exact⟨rfl,rfl,rfl,Nat.le_refl _,fun _ _=>rfl⟩)
 rw[←kV]
 have q3:=(dm.out _ HJ.out).1
 have q4:=(dm.out _ HJ.out).2.1
 have q5:=(dm.out _ HJ.out).2.2.1
 have q6:=(dm.out _ HJ.out).2.2.2.1
 have q7:=(dm.out _ HJ.out).2.2.2.2
 clear kV
 go_upto_region 3 with fail
 have HJ2:Hid (Below w.heap.size w w2):=HJ
 go_cut [2](fun s2 wx=>s2= .bool true∧Hid (Below w.heap.size w wx))
 case first=>
  go_region_held3(fun w'=>w'.cell? ⟨p,3,none⟩=some (.string x.field)∧w'.cell? ⟨p,4,none⟩=some (.string x.name)∧w'.cell? ⟨p,5,none⟩=some (.string x.more)∧w'.cell? ⟨p,12,none⟩=some (.func (.func f1) #[] b1)∧w'.cell? ⟨p,13,none⟩=some (.func (.func f2) #[] b2))
   (first|with_reducible exact dm.out _ HJ.out|with_reducible exact dm.out _ HJ.out.drew|with_reducible exact dm.out _ ez.out|with_reducible exact dm.out _ ez.out.drew|with_reducible exact dm.out _ dn.out|with_reducible exact dm.out _ dn.out.drew)
   (first
     |(go_at_call 202
       with_reducible refine(HFa.out _ (by first|with_reducible exact HJ.out|with_reducible exact HJ.out.drew)).mono ?_
       rintro e w3⟨rfl,hb⟩
       have ez:Hid (Below w.heap.size w w3):=(show Below _ _ _ by first|with_reducible exact HJ.out.trans (hb.mono HJ.out.size)|exact HJ.out.drew.trans (hb.mono HJ.out.size))
       clear hb)
     |(go_at_call 202
       with_reducible refine(HFb.out _ (by first|with_reducible exact ez.out|with_reducible exact ez.out.drew)).mono ?_
       rintro e w4⟨rfl,hb⟩
       have dn:Hid (Below w.heap.size w w4):=(show Below _ _ _ by first|with_reducible exact ez.out.trans (hb.mono ez.out.size)|exact ez.out.drew.trans (hb.mono ez.out.size))
       clear hb))
  all_goals(go_wp2_with fail;go_meet)
  all_goals exact⟨rfl,dn⟩
 case rest=>
  obtain⟨rfl,HB⟩:=hcut
  go_wp2_with fail
  go_ret
  exact⟨rfl,HB.out⟩
theorem BL {M:Nat→Prop}{w:World}{a:Option Addr}{n cap:Nat}{xs:List ak}(h:ae M w (.slice a n cap) xs){i:Nat}{f:ak}(hx:xs[i]? =some f):
 ∃g off,a=some ⟨g,off,none⟩∧g<w.heap.size∧w.cell? ⟨g,off+i*4,none⟩=some (.string f.name)∧w.cell? ⟨g,off+i*4+1,none⟩=some (.int .i64 f.type.kind)∧w.cell? ⟨g,off+i*4+2,none⟩=some (.int .i64 f.type.of)∧w.cell? ⟨g,off+i*4+3,none⟩=some (.bool f.indexed):=by
 have hl:=(List.getElem?_eq_some_iff.1 hx).1
 obtain⟨a',dE,hv,_,_,ho⟩:=h.open_
 obtain⟨b,off,h1,_,h3,h4⟩:=ho (by omega)
 obtain⟨cs,⟨rfl,_⟩,h5⟩:=h4 i f hx
 injection hv with ha _ _
 exact⟨b,off,ha.trans h1,h3,h5 0 _ rfl,h5 1 _ rfl,h5 2 _ rfl,h5 3 _ rfl⟩
theorem BM(M:Nat→Prop)(w:World)(c:ai)(fv:Value)(x:aq)(i:Nat)(f:ak)(g1 g2:Value)(p:Nat)(h8:c.fields.length≤8)(hi:c.fields[i]? =some f)(h3:f.type.kind≤3)
 (hp:w.heap[p]? =some (oI c.name fv x i true g1 g2))(bz:ae M w fv c.fields):
 Calls Tryz.prog 185 #[.pointer (some ⟨p,0,none⟩)] w fun e w'=>e= .returned (.bool true)∧Below w.heap.size w w':=by
 have q0:=(bV hp).cb
 have q1:=(bV hp).c1
 have q2:=(bV hp).ca
 have hl:=(List.getElem?_eq_some_iff.1 hi).1
 obtain⟨a0,c0,rfl,cq,po,_⟩:=bz.open_
 obtain⟨g,off,rfl,hg,z0,z1,z2,z3⟩:=BL bz hi
 obtain⟨n,hn⟩:∃n,c.fields.length=n:=⟨_,rfl⟩
 rw[hn]at hl cq q1 h8
 clear bz hp hi
 go_enter Tryz.func185,Tryz.ntmps185
 go_wp2_with fail
 go_region
 all_goals
  go_wp2_with fail
  go_ret
  exact⟨rfl,by first|exact Below.refl _ _|exact(Below.refl _ _).drew⟩
def vX(k:Int):Nat:=if k=1 then 170 else if k=2 then 173 else if k=3 then 176 else if k=4 then 179 else if k=5 then 182 else 185
def nX(c:ai)(x:aq):Int:=if fieldAt c x.field<0 then 0 else fieldAt c x.field
theorem FJ {c:ai}{s u:ByteArray}(h:(!hasB c s||s.toList==u.toList)=true):hasB c s=false∨s=u:=by
 rw[Bool.or_eq_true]at h
 rcases h with h|h
 ·exact .inl (by simpa using h)
 ·exact .inr (qV h)
theorem Ny(M:Nat→Prop)(w:World)(c:ai)(hc:bR c)(fv:Value)(x:aq)(hx:ot c x)(hb:gY c x=true)(f1 f2:Nat)(b1 b2:Array Value)(p:Nat)
 (hp:w.heap[p]? =some (oI c.name fv x (nX c x) (hasB c x.field) (.func (.func f1) #[] b1) (.func (.func f2) #[] b2)))(bz:ae M w fv c.fields):
 Calls Tryz.prog (vX x.kind) #[.pointer (some ⟨p,0,none⟩)] w fun e w'=>e= .returned (.bool true)∧Below w.heap.size w w':=by
 have eU:=bQ hc.small
 have h8:=((aZ c).1 hc.right).2.1
 have hk:x.kind=1∨x.kind=2∨x.kind=3∨x.kind=4∨x.kind=5∨x.kind=6:=by have:=hx.sh;simp only[lg]at this;omega
 unfold gY at hb
 rcases hk with hk|hk|hk|hk|hk|hk<;>rw[hk]at hb⊢
 ·simp only[if_true,Bool.and_eq_true,decide_eq_true_eq,Bool.not_eq_true']at hb
  exact Hu M w c fv x _ _ f1 b1 _ p eU (by omega) hp bz hb.2
 ·have hh:hasB c x.field=true:=by simpa using hb
  rw[hh]at hp
  exact Ec w c.name fv x _ true _ _ p hp
 ·have hh:hasB c x.field=true∧hasB c x.name=false:=by simpa using hb
  rw[hh.1]at hp
  exact zj M w c fv x _ _ _ p eU hp bz hh.2
 ·have hh:hasB c x.field=true:=by simpa using hb
  rw[hh]at hp
  exact Ed w c.name fv x _ f1 b1 _ p hp
 ·simp only[show¬((5:Int)=1)by decide,show¬((5:Int)=2)by decide,show¬((5:Int)=3)by decide,show¬((5:Int)=4)by decide,if_false,if_true]at hb
  rw[Bool.and_eq_true,Bool.and_eq_true,Bool.and_eq_true,Bool.and_eq_true]at hb
  obtain⟨⟨⟨⟨h1,h2⟩,h3⟩,h4⟩,h5⟩:=hb
  rw[h1]at hp
  have h2:=of_decide_eq_true h2
  exact BK M w c fv x _ f1 f2 b1 b2 p eU (by omega) hp bz (by simpa using h3) (FJ h4) (FJ h5)
 ·simp only[show¬((6:Int)=1)by decide,show¬((6:Int)=2)by decide,show¬((6:Int)=3)by decide,show¬((6:Int)=4)by decide,show¬((6:Int)=5)by decide,if_false]at hb
  rw[Bool.and_eq_true]at hb
  obtain⟨i,f,h1,h2,h3⟩:=yt hb.1
  have h4:=of_decide_eq_true hb.2
  rw[hb.1,show nX c x=(i:Int)by unfold nX;rw[h1,if_neg (by omega)]]at hp
  exact BM M w c fv x i f _ _ p (by omega) h2 (by
   unfold tS at h4
   rw[h1]at h4
   simpa [h2]using h4) hp bz
def gU(lv:Value)(pm:Nat):Obj:= .cells #[lv, .map (some pm)] 67 (0,0)
theorem mc.inside {x:cG}(h:fm x){i:Nat}{o:dz}(hl:mc x i o):∀n∈o.cz.flatMap (bT 3),1≤n∧n≤x.objs.length:=by
 rw[hl.refs h]
 obtain⟨o0,k,v,l,us,h1,_⟩:=hl
 have:=(List.getElem?_eq_some_iff.1 h1).1
 exact h.closed.refs _ (by omega) (by omega)
theorem Ie(x:cG)(h:fm x)(M:Nat→Prop)(w:World)(hM:Bd M w)(hT:Tb w)(lv rv:Value)(pm:Nat)(RP:KJ x M w lv pm)(rJ:ae M w rv x.roots):
 Calls Tryz.prog 43 #[.agg #[lv, .map (some pm)],rv] w fun e w'=>e= .returned (.bool true)∧Below w.heap.size w w':=by
 obtain⟨⟨ls,IF,hlen,mj⟩,es,clk,Iw,Ow⟩:=RP
 have eg:∀args w,(callFunc 69 args).run Tryz.prog w= .ok (.enter 69 args) w:=enters_of Tryz.func69 (by kernel_rfl) rfl
 have zA:∀W(n:Int),Below w.heap.size w W→W.heap[w.heap.size]? =some (gU lv pm)→1≤n→n≤x.objs.length→Calls Tryz.prog 69 #[.int .i64 n, .pointer (some ⟨w.heap.size,0,none⟩)] W fun e w'=>e= .returned (.bool false)∧Below W.heap.size W w':=fun W n hb hc h1 h2=>by
  have hv:=Ow (n-1).toNat (by omega)
  rw[show(((n-1).toNat:Nat):Int)+1=n from by omega]at hv
  exact Ef W w.heap.size pm es clk n _ (af hc).2 ((hb.block _ (Array.getElem?_eq_some_iff.1 Iw).1).trans Iw) hv
 have HM:=hD zA
 have HR:Hid (∀i r,x.roots[i]? =some r→_):=(show∀i r,_→_ from fun i r hr=>gq rJ hr)
 have HRI:Hid (∀(i:Nat)r,x.roots[i]? =some r→1≤r.id∧r.id≤x.objs.length):=(show∀(i:Nat)r,_→_ from fun i r hr=>h.roots r (List.mem_of_getElem? hr))
 have HO:Hid (∀i o,ls[i]? =some o→_):=(show∀i o,_→_ from fun i o ho=>iy IF ho)
 have HRF:Hid (∀(i:Nat)o,ls[i]? =some o→∀W u,Below w.heap.size w W→ae M W u o.cz→Calls Tryz.prog 32 #[.agg #[.int .i64 o.id, .int .i64 o.cls, .int .i64 o.ver,u]] W (aF W fun v w'=>ae M w' v (o.cz.flatMap (bT 3)))):=(show∀(i:Nat)o,_→∀W u,_→_→_ from fun i o ho W u hb hu=>by
  obtain⟨fs,h1,h8⟩:=(mj i o ho).cz h
  exact yM o x.objs.length (by have:=h.len;omega) fs h1 h8 M W (hM.below hb) u hu (hT.below hb))
 have QM:Hid (∀(i:Nat)o,ls[i]? =some o→∀W u,Below w.heap.size w W→W.heap[w.heap.size]? =some (gU lv pm)→ae M W u (o.cz.flatMap (bT 3))→_):=(show∀(i:Nat)o,_→∀W u,_→_→_→_ from fun i o ho W u hb hc hu=>lz 69 #[.pointer (some ⟨w.heap.size,0,none⟩)] eg _ M u W hu (fun n hn W' jq=>zA W' n (hb.trans (jq.mono hb.size)) ((jq.block _ (Array.getElem?_eq_some_iff.1 hc).1).trans hc) ((mj i o ho).inside h n hn).1 ((mj i o ho).inside h n hn).2))
 have Iy:=h.len
 have h5:=h.rlen
 obtain⟨la,lc,rfl,EK,ZY,_⟩:=IF.open_
 obtain⟨ra,rc,rfl,NV,Sw,_⟩:=rJ.open_
 clear IF rJ h zA Iw Ow mj hM hT
 generalize hn:ls.length=n at*
 generalize IZ:x.roots.length=m at*
 have qbc:n≤10:=by omega
 clear hlen Iy
 have HN:=hD hn;clear hn;have MJ:=hD IZ;clear IZ
 have HEG:=hD eg
 go_enter Tryz.func43,Tryz.ntmps43
 go_wp2_with fail
 go_loopg [4,7,13]m(fun g r4 _ iv wr=>∃j:Nat,j≤m∧g=m-j∧iv= .int .i64 j∧r4= .bool false∧Hid (Bx w [gU (.slice la n lc) pm] wr))
 case atStart=>exact⟨0,Nat.zero_le _,rfl,rfl,rfl,(show Bx _ _ _ from Bx.fA w _)⟩
 case round=>
  obtain⟨j,hj,rfl,rfl,rfl,HB⟩:=hrel
  by_cases aT:j<m
  ·obtain⟨r,hr⟩:∃r,x.roots[j]? =some r:=⟨_,List.getElem?_eq_getElem (by rw[MJ.out];exact aT)⟩
   obtain⟨b,off,cap,hv,bZ,_,ao⟩:=HR.out j r hr
   obtain⟨rfl,rfl⟩:ra=some ⟨b,off,none⟩∧rc=cap:=by first|simpa using hv|(rw[MJ.out]at hv;simpa using hv)
   obtain⟨g0,g1⟩:=ao wr HB.out.1
   have HRX:=hD (HRI.out j r hr)
   clear hv ao hr
   go_wp2_with fail
   refine(HM.out _ r.id (HB.out.alloc _).1 ((HB.out.alloc _).bJ rfl) HRX.out.1 HRX.out.2).mono ?_
   rintro e w1⟨rfl,aw⟩
   have aO:Hid (Bx w [gU (.slice la n lc) pm] w1):=(show Bx _ _ _ from(HB.out.alloc _).below aw)
   clear aw g0 g1
   go_wp2_with fail
   go_roundg(m-(j+1))
   case measure=>omega
   case rel=>exact⟨j+1,by omega,rfl,by go_num,rfl,aO⟩
  ·obtain rfl:j=m:=by omega
   obtain⟨c0,c1⟩:=af (HB.out.bJ rfl)
   go_wp2_with fail
   go_loopg [4,9,25]n(fun g r4 _ iv wr=>∃i:Nat,i≤n∧g=n-i∧iv= .int .i64 i∧r4= .bool false∧Hid (Bx w [gU (.slice la n lc) pm] wr))
   case atStart=>exact⟨0,Nat.zero_le _,rfl,rfl,rfl,HB⟩
   case round=>
    obtain⟨i,hi,rfl,rfl,rfl,HX⟩:=hrel
    clear c0 c1
    by_cases LY:i<n
    ·obtain⟨o,ho⟩:∃o,ls[i]? =some o:=⟨_,List.getElem?_eq_getElem (by rw[HN.out];exact LY)⟩
     obtain⟨b,off,cap,va,vc,hv,bZ,dk,ao⟩:=HO.out i o ho
     obtain⟨rfl,rfl⟩:la=some ⟨b,off,none⟩∧lc=cap:=by first|simpa using hv|(rw[HN.out]at hv;simpa using hv)
     obtain⟨g0,g1,g2,g3⟩:=ao wr HX.out.1
     have aS:=hD (fun o'=>HRF.out i o ho (wr.alloc o') _ (HX.out.alloc o').1 (dk.below (HX.out.alloc o').1))
     have VX:=hD (QM.out i o ho)
     obtain⟨nl,Ln⟩:∃nl,nl=o.cz.flatMap (bT 3):=⟨_,rfl⟩
     rw[←Ln]at aS VX
     clear Ln
     obtain⟨oi,oc,ov,os⟩:=o
     clear hv ao ho dk
     go_wp2_with fail
     refine(aS.out _).mono ?_
     rintro e w1⟨u,rfl,hu,aw⟩
     have WZ:=hu
     obtain⟨ua,uc,rfl,_⟩:=WZ.open_
     have HU:=hD hu
     have aO:Hid (Bx w [gU (.slice (some ⟨b,off,none⟩) n lc) pm] w1):=(show Bx _ _ _ from(HX.out.alloc _).below aw)
     clear aw hu g0 g1 g2 g3
     go_wp2_with fail
     refine(VX.out _ _ aO.out.1 (aO.out.bJ rfl) HU.out).mono ?_
     rintro e w2⟨rfl,aM⟩
     have aA:Hid (Bx w [gU (.slice (some ⟨b,off,none⟩) n lc) pm] w2):=(show Bx _ _ _ from aO.out.below aM)
     clear aM
     go_wp2_with fail
     go_roundg(n-(i+1))
     case measure=>omega
     case rel=>exact⟨i+1,by omega,rfl,by go_num,rfl,aA⟩
    ·obtain rfl:i=n:=by omega
     go_wp2_with fail
     go_ret
     exact⟨rfl,HX.out.1⟩
def FM(b:Nat):Obj:= .cells #[.map (some b)] 74 (0,0)
def sn(v:Value):Obj:= .cells #[v] 27 (0,0)
def qq(w0:World):Nat→Prop:=fun i=>i=w0.heap.size+1∨i=w0.heap.size+1+1+1
structure fS(w0 w:World)(g:Obj)(v:Value)(S wk:List Int):Prop where
 b0:w.heap[w0.heap.size]? =some g
 b5:w.heap[w0.heap.size+1+1]? =some (FM (w0.heap.size+1))
 b6:w.heap[w0.heap.size+1+1+1]? =some (sn v)
 set:Mk.cL w (w0.heap.size+1) S
 acc:aK (α:=Int) (qq w0) (w0.heap.size+4) 3 w v wk
 low:Below w0.heap.size w0 w
 short:wk.length≤S.length
section
variable {w0 w w2 w4 W:World}{g:Obj}{v v2:Value}{S wk:List Int}{x:Int}
theorem fS.lt(h:fS w0 w g v S wk):w0.heap.size+4≤w.heap.size:=(Array.getElem?_eq_some_iff.1 h.b6).1
theorem fS.below(h:fS w0 w g v S wk)(hb:Below w.heap.size w W):fS w0 W g v S wk:=
 ⟨(hb.block _ (by have:=h.lt;omega)).trans h.b0,(hb.block _ (by have:=h.lt;omega)).trans h.b5,(hb.block _ (by have:=h.lt;omega)).trans h.b6,h.set.same (hb.block _ (by have:=h.lt;omega)),h.acc.below hb,h.low.trans (hb.mono h.low.size),h.short⟩
theorem fS.bd(h:fS w0 w g v S wk):Bd (bc v (qq w0)) w:=fun i hi=>by
 have hl:=h.lt
 rcases hi with(hi|hi)|hi
 ·omega
 ·omega
 ·exact(h.acc.dO i hi).2
theorem fS.next(h:fS w0 w g v S wk)(hs:Mk.cL w2 (w0.heap.size+1) (S++[x]))(ho:ag (fun i=>i=w0.heap.size+1) w w2)(o:Obj)(bn:aK (α:=Int) (qq w0) (w0.heap.size+4) 3 w4 v2 (wk++[x]))(zH:Ev (bc v (qq w0)) (w2.alloc o) (bc v2 (qq w0)) w4)(hb:Below (w0.heap.size+4) (w2.alloc o) w4):
 fS w0 (w4.setCell ⟨w0.heap.size+1+1+1,0,none⟩ v2) g v2 (S++[x]) (wk++[x])∧Ev (bc v (qq w0)) w (bc v2 (qq w0)) (w4.setCell ⟨w0.heap.size+1+1+1,0,none⟩ v2):=by
 have hl:=h.lt
 have hz:=ho.size
 have e1:∀i,i<w0.heap.size+4→w4.heap[i]? =w2.heap[i]? :=fun i hi=>(hb.block i hi).trans (((Below.refl _ w2).alloc (Nat.le_refl _) o).block i (by omega))
 have e2:∀i,i≠w0.heap.size+1+1+1→i<w0.heap.size+4→(w4.setCell ⟨w0.heap.size+1+1+1,0,none⟩ v2).heap[i]? =w2.heap[i]? :=fun i hn hi=>(heap_setCell_other _ _ _ _ hn).trans (e1 i hi)
 refine⟨⟨?_,?_,?_,?_,?_,?_,?_⟩,⟨?_,fun i hi=> ?_⟩⟩
 ·exact(e2 _ (by omega) (by omega)).trans (ho.at_ h.b0 (by omega))
 ·exact(e2 _ (by omega) (by omega)).trans (ho.at_ h.b5 (by omega))
 ·have:=heap_setCell_same w4 (w0.heap.size+1+1+1) 0 _ _ v2 ((e1 _ (by omega)).trans (ho.at_ h.b6 (by omega)))
  simpa [sn]using this
 ·exact hs.same (e2 _ (by omega) (by omega))
 ·exact bn.sD (p:=⟨w0.heap.size+1+1+1,0,none⟩) (.inr rfl) (by show w0.heap.size+1+1+1<_;omega) _
 ·exact(((cA h.low h.low.size ho (fun i hi=>by subst hi;omega)).alloc (by have:=h.low.size;omega) o).trans (hb.mono (by omega))).setCell (p:=⟨w0.heap.size+1+1+1,0,none⟩) (by show w0.heap.size≤w0.heap.size+1+1+1;omega) _
 ·have:=h.short;simp;omega
 ·refine ag.setCell ?_ (p:=⟨w0.heap.size+1+1+1,0,none⟩) (.inl (.inl (.inr rfl))) _
  exact((ho.mono (fun i hi=> .inl (.inl hi))).alloc o).trans zH.only
 ·rcases zH.sub i hi with h1|h1
  ·exact .inl h1
  ·right
   have:(w2.alloc o).heap.size=w2.heap.size+1:=by simp
   omega
end
theorem qs:∀(ids S wk:List Int),((Mk.cZ (S,wk) ids).1).length≤S.length+ids.length
 |[],S,wk=>by simp[Mk.cZ]
 |a::r,S,wk=>by
  have e:Mk.cZ (S,wk) (a::r)=Mk.cZ (if a∈S then(S,wk)else(S++[a],wk++[a])) r:=rfl
  rw[e]
  split
  ·have:=qs r S wk;simp;omega
  ·have:=qs r (S++[a]) (wk++[a]);simp at this⊢;omega
theorem K8(w0 w:World)(g:Obj)(v:Value)(S wk ids:List Int)(hS:S.length+ids.length≤1000)(h:fS w0 w g v S wk)(iv:Value)(hi:ae (α:=Int) (bc v (qq w0)) w iv ids):
 Calls Tryz.prog 46 #[iv, .pointer (some ⟨w0.heap.size+1+1,0,none⟩), .pointer (some ⟨w0.heap.size+1+1+1,0,none⟩)] w fun e w'=>e= .returned (.tuple #[])∧∃v',fS w0 w' g v' (Mk.cZ (S,wk) ids).1 (Mk.cZ (S,wk) ids).2∧Ev (bc v (qq w0)) w (bc v' (qq w0)) w':=by
 obtain⟨i0,dF,dM,db,dL⟩:=info_parts jz
 have eM:Hid (∀k,((Mk.cZ (S,wk) (ids.take k)).1).length≤1000):=(show∀k,_ from fun k=>by
  have h2:=qs (ids.take k) S wk
  have h3:(ids.take k).length≤ids.length:=by rw[List.length_take];omega
  omega)
 have jL:Hid (fS w0 w g v (Mk.cZ (S,wk) (ids.take 0)).1 (Mk.cZ (S,wk) (ids.take 0)).2∧Ev (bc v (qq w0)) w (bc v (qq w0)) w∧ae (α:=Int) (bc v (qq w0)) w iv ids):=(show _ from⟨h,Ev.refl _ _,hi⟩)
 obtain⟨a,cap,rfl,cq,hm,_⟩:=hi.open_
 clear h hi hS
 generalize hn:ids.length=n at*
 have HN:=hD hn;clear hn
 go_enter Tryz.func46,Tryz.ntmps46
 go_wp2_with fail
 go_loopg [5,8]n(fun gg _ kv wr=>∃(k:Nat)(v1:Value),k≤n∧gg=n-k∧kv= .int .i64 k∧Hid (fS w0 wr g v1 (Mk.cZ (S,wk) (ids.take k)).1 (Mk.cZ (S,wk) (ids.take k)).2∧Ev (bc v (qq w0)) w (bc v1 (qq w0)) wr∧ae (α:=Int) (bc v1 (qq w0)) wr (.slice a n cap) ids))
 case atStart=>exact⟨0,v,Nat.zero_le _,rfl,rfl,jL⟩
 case round=>
  obtain⟨k,v1,hk,rfl,rfl,HX⟩:=hrel
  by_cases aT:k<n
  ·obtain⟨x,hx⟩:∃x,ids[k]? =some x:=⟨_,List.getElem?_eq_getElem (by rw[HN.out];exact aT)⟩
   obtain⟨b,off,dE,hv,hb,ao⟩:=kG HX.out.2.2 hx
   obtain⟨rfl,rfl⟩:a=some ⟨b,off,none⟩∧cap=dE:=by rw[HN.out]at hv;simpa using hv
   have Xc:=ao wr (Below.refl _ _)
   have c5:=one_cell HX.out.1.b5
   have nQ:=HX.out.1.set.lookup x
   have HKX:=hD hx
   clear hv ao hx hb
   by_cases jP:x∈(Mk.cZ (S,wk) (ids.take k)).1
   ·rw[decide_eq_true jP]at nQ
    have eT:Hid (fS w0 wr g v1 (Mk.cZ (S,wk) (ids.take (k+1))).1 (Mk.cZ (S,wk) (ids.take (k+1))).2):=(show _ from by
     rw[Mk.xI HKX.out,if_pos jP];exact HX.out.1)
    clear jP
    go_wp2_with fail
    go_roundg(n-(k+1))
    case measure=>omega
    case rel=>exact⟨k+1,v1,by omega,rfl,by go_num,(show _∧_∧_ from⟨eT.out,HX.out.2.1,HX.out.2.2⟩)⟩
   ·rw[decide_eq_false jP]at nQ
    obtain⟨w2,Wt,jK,kW⟩:=HX.out.1.set.store x jP
    have kh:=Mk.xI (p:=(S,wk)) HKX.out
    rw[if_neg jP]at kh
    have nr:=hD kh
    have hlen:=eM.out k
    clear kh jP
    obtain⟨S1,XQ⟩:∃S1,(Mk.cZ (S,wk) (ids.take k)).1=S1:=⟨_,rfl⟩
    obtain⟨K1,hK1⟩:∃K1,(Mk.cZ (S,wk) (ids.take k)).2=K1:=⟨_,rfl⟩
    rw[XQ]at jK hlen
    have gZ:Hid (fS w0 wr g v1 S1 K1∧Ev (bc v (qq w0)) w (bc v1 (qq w0)) wr∧ae (α:=Int) (bc v1 (qq w0)) wr (.slice (some ⟨b,off,none⟩) n cap) ids):=(show _ from by rw[←XQ,←hK1];exact HX.out)
    have qbf:Hid (Mk.cZ (S,wk) (ids.take (k+1))=(S1++[x],K1++[x])):=(show _=_ from by rw[nr.out,XQ,hK1])
    clear HX nr XQ hK1
    have hl:=gZ.out.1.lt
    have mh:=gZ.out.1.short
    have c6:=one_cell (kW.at_ gZ.out.1.b6 (by omega))
    have HZ2:=hD kW.size
    have qbg:=hD jK
    have ko:=hD kW
    have hac:=gZ.out.1.acc
    obtain⟨a1,c1,rfl,_,_⟩:=hac.open_
    have HAC:Hid (aK (α:=Int) (qq w0) (w0.heap.size+4) 3 w2 (.slice a1 K1.length c1) K1):=(show aK _ _ _ _ _ _ from hac.only ko.out (fun i hi=>⟨.inl hi,by have h:i=w0.heap.size+1:=hi;omega⟩))
    have vJ:Hid (w2.heap[w0.heap.size+1+1+1]? =some (sn (.slice a1 K1.length c1))):=(show _=_ from kW.at_ gZ.out.1.b6 (by omega))
    have qdp:w0.heap.size+4≤w2.heap.size:=Nat.le_trans hl HZ2.out
    clear jK kW hac
    go_wp2_with(at_builtin
                refine aQ (α:=Int) rfl _ _ _ rfl (qq w0) (w0.heap.size+4) 3 i0 _ 8 Tryz.underlying27 dF dM db dL rfl (by decide) (.slice a1 K1.length c1) K1 rfl (HAC.out.alloc _) (fun _=>True) _ _ x rfl (ct _ _ _ _ rfl trivial) rfl (by unfold maxLen;omega) (by omega) (by simp;omega) ?_
                intro a2 c2 w4 bj dj aM
                have CH:=hD (gZ.out.1.next qbg.out ko.out _ bj dj aM)
                have qy:w4.heap[w0.heap.size+1+1+1]? =some (sn (.slice a1 K1.length c1)):=(aM.block _ (by omega)).trans ((((Below.refl _ w2).alloc (Nat.le_refl _) _).block _ (by omega)).trans vJ.out)
                have p6:=one_cell qy
                have f6:=aa qy 0
                clear bj dj aM qy)
    go_roundg(n-(k+1))
    case measure=>omega
    case rel=>
     refine⟨k+1,_,by omega,rfl,by go_num,(show _∧_∧_ from⟨?_,gZ.out.2.1.trans CH.out.2,gZ.out.2.2.ev CH.out.2⟩)⟩
     rw[qbf.out];exact CH.out.1
  ·obtain rfl:k=n:=by omega
   go_wp2_with fail
   have hh:=HX.out
   rw[List.take_of_length_le (by rw[HN.out];omega)]at hh
   refine bodyPost_end (results_none rfl _ _ _) rfl ?_
   exact⟨rfl,v1,hh.1,hh.2.1⟩
theorem NI {M:Nat→Prop}{base:Nat}{w:World}{v:Value}{wk:List Int}{id:Int}(h:aK (α:=Int) M base 3 w v (wk++[id]))(hM:∀i,M i→i<base):
 ∃g c,v= .slice (some ⟨g,0,none⟩) (wk.length+1) c∧wk.length+1≤c∧w.cell? ⟨g,wk.length,none⟩=some (.int .i64 id)∧aK (α:=Int) M base 3 w (.slice (some ⟨g,0,none⟩) wk.length c) wk:=by
 have aU:=h.slice hM
 obtain⟨css,h1,h2,h3⟩:=h
 have e:css=(wk++[id]).map (fun x=>[Value.int .i64 x]):=by
  refine List.ext_getElem (by simpa using h2) (fun i p q=> ?_)
  rw[List.getElem_map]
  exact h3 i _ _ (List.getElem?_eq_getElem p) (List.getElem?_eq_getElem (by simpa using q))
 subst e
 have fl:∀l:List Int,(l.map (fun x=>[Value.int .i64 x])).flatten=l.map (Value.int .i64):=fun l=>by
  induction l with
  |nil=>rfl
  |cons a r ih=>simp only[List.map_cons,List.flatten_cons,ih];rfl
 rw[fl,List.map_append,show(wk++[id]).length=wk.length+1 by simp]at h1
 have Xp:=h1
 obtain⟨_,⟨_,h0⟩|⟨g,c,cur,rfl,_,_,hc,_⟩⟩:=Xp
 ·omega
 have hp:=ownsRow_pop (size:=1) (n:=wk.length) (by simp) h1
 obtain⟨b,off,cap,hv,_,aC⟩:=kGe aU (k:=wk.length) (x:=id) (by simp)
 have Co:g=b∧0=off:=by
  have:=hv;simp at this;exact⟨this.1.1,this.1.2⟩
 obtain⟨rfl,rfl⟩:=Co
 refine⟨g,c,rfl,hc,by simpa using aC w (Below.refl _ _),⟨wk.map (fun x=>[Value.int .i64 x]),?_,by simp,fun i cs x bE hx=> ?_⟩⟩
 ·rw[fl];exact hp
 ·rw[List.getElem?_map,hx]at bE
  simp at bE
  exact bE.symm
theorem fS.pop {w0 w:World}{g:Obj}{v:Value}{S wk:List Int}{id:Int}(h:fS w0 w g v S (wk++[id])):
 ∃q c,v= .slice (some ⟨q,0,none⟩) (wk.length+1) c∧wk.length+1≤c∧w.cell? ⟨q,wk.length,none⟩=some (.int .i64 id)∧fS w0 (w.setCell ⟨w0.heap.size+1+1+1,0,none⟩ (.slice (some ⟨q,0,none⟩) wk.length c)) g (.slice (some ⟨q,0,none⟩) wk.length c) S wk:=by
 have hN:∀i,qq w0 i→i<w0.heap.size+4:=fun i hi=>by rcases hi with hi|hi<;>omega
 obtain⟨q,c,rfl,hc,aC,bn⟩:=NI h.acc hN
 have ho:=fun i(hn:i≠w0.heap.size+1+1+1)=>heap_setCell_other w ⟨w0.heap.size+1+1+1,0,none⟩ i (.slice (some ⟨q,0,none⟩) wk.length c) hn
 refine⟨q,c,rfl,hc,aC,⟨(ho _ (by omega)).trans h.b0,(ho _ (by omega)).trans h.b5,?_,h.set.same (ho _ (by omega)),?_,?_,?_⟩⟩
 ·have:=heap_setCell_same w (w0.heap.size+1+1+1) 0 _ _ (.slice (some ⟨q,0,none⟩) wk.length c) h.b6
  simpa [sn]using this
 ·exact bn.sD (p:=⟨w0.heap.size+1+1+1,0,none⟩) (.inr rfl) (by show w0.heap.size+1+1+1<_;omega) _
 ·exact h.low.setCell (p:=⟨w0.heap.size+1+1+1,0,none⟩) (by show w0.heap.size≤w0.heap.size+1+1+1;omega) _
 ·have:=h.short;simp at this;omega
theorem Ey {w:World}{b:Nat}{es:List (Int×Value×Nat)}{clk:Nat}(h:bq mm w b es clk)(n:Int)(v:Value)(hv:bA es n=some v):(Instr.lookup 65 (.map (some b)) (.int .i64 n) false).run Tryz.prog w= .ok v w:=
 bq.Ts mm Tryz.underlying65 rC qm h n v hv
theorem K9(x:cG)(h:fm x)(M:Nat→Prop)(w:World)(hM:Bd M w)(hT:Tb w)(lv rv:Value)(pm:Nat)(RP:KJ x M w lv pm)(rJ:ae M w rv x.roots):
 Calls Tryz.prog 25 #[.agg #[lv, .map (some pm)],rv] w fun e w'=>∃S sb,e= .returned (.map (some sb))∧Mk.cL w' sb S∧(∀n,n∈S↔Mk.BI (bo x) (cK x) n)∧Below w.heap.size w w':=by
 obtain⟨⟨ls,IF,hlen,mj⟩,es,clk,Iw,Ow⟩:=RP
 have Oh:∀j,(Mk.cZ ([],[]) ((bo x).take j)).1.length≤5:=fun j=>by
  have h1:=qs ((bo x).take j) [] []
  have h2:=h.rlen
  have h3:((bo x).take j).length≤5:=by rw[List.length_take];unfold bo;rw[List.length_map];omega
  have h4:([]:List Int).length=0:=rfl
  omega
 have XP:=hD Oh
 have HR:Hid (∀i r,x.roots[i]? =some r→_):=(show∀i r,_→_ from fun i r hr=>gq rJ hr)
 have HRS:Hid (∀(i:Nat)r,x.roots[i]? =some r→Mk.cZ ([],[]) ((bo x).take (i+1))=Mk.cZ (Mk.cZ ([],[]) ((bo x).take i)) [r.id]):=(show∀(i:Nat)r,_→_ from fun i r hr=>by
  have e:(bo x)[i]? =some r.id:=by unfold bo;rw[List.getElem?_map,hr];rfl
  rw[List.take_add_one,e]
  show(List.foldl _ _ (_++[r.id]))=_
  rw[List.foldl_append];rfl)
 have N0:Hid ((bo x).take x.roots.length=bo x):=(show _=_ from by unfold bo;rw[List.take_of_length_le (by rw[List.length_map];exact Nat.le_refl _)])
 have HIV:Hid (∀S wk(W:World)g v,fS w W g v S wk→Mk.l9 (bo x) (cK x) S wk→S.length≤x.objs.length∧S.length≤10):=(show∀S wk(W:World)g v,_→_→_ from fun S wk W g v h1 h2=>by
  have h3:=Mk.di x.objs.length S h1.set.nodup (fun y hy=>h.closed.range (h2.reached y hy))
  have:=h.len
  exact⟨h3,by omega⟩)
 have HOB:Hid (∀(n:Int),Mk.BI (bo x) (cK x) n→∃(i:Nat)(o:dz),n=(i:Int)+1∧ls[i]? =some o):=(show∀(n:Int),_→_ from fun n hn=>by
  have hr:=h.closed.range hn
  exact⟨(n-1).toNat,_,by omega,List.getElem?_eq_getElem (by omega)⟩)
 have HO:Hid (∀i o,ls[i]? =some o→_):=(show∀i o,_→_ from fun i o ho=>iy IF ho)
 have zW:Hid (∀(i:Nat)o W,ls[i]? =some o→Below w.heap.size w W→_):=(show∀(i:Nat)o W,_→_→_ from fun i o W ho hb=>Ey (w:=W) ((hb.block _ (Array.getElem?_eq_some_iff.1 Iw).1).trans Iw) ((i:Int)+1) _ (Ow i (by have:=(List.getElem?_eq_some_iff.1 ho).1;omega)))
 have HRF:Hid (∀(i:Nat)o,ls[i]? =some o→∀W g v S wk u,fS w W g v S wk→ae M w u o.cz→Calls Tryz.prog 32 #[.agg #[.int .i64 o.id, .int .i64 o.cls, .int .i64 o.ver,u]] W (aF W fun r w'=>ae (bc v (qq w)) w' r (cK x ((i:Int)+1)))):=(show∀(i:Nat)o,_→∀W g v S wk u,_→_→_ from fun i o ho W g v S wk u bK hu=>by
  obtain⟨fs,h1,h8⟩:=(mj i o ho).cz h
  have ID:Bd (fun i=>M i∨bc v (qq w) i) W:=fun i hi=>by
   rcases hi with hi|hi
   ·exact hM.below bK.low i hi
   ·exact bK.bd i hi
  have zH:Ev M w (fun i=>M i∨bc v (qq w) i) W:=⟨ag.aj bK.low,fun i hi=>by
   rcases hi with hi|(hi|hi)|hi
   ·exact .inl hi
   ·right;omega
   ·right;omega
   ·right;have:=(bK.acc.dO i hi).1;omega⟩
  have hr:=yM o x.objs.length (by have:=h.len;omega) fs h1 h8 (fun i=>M i∨bc v (qq w) i) W ID u (hu.ev zH) (hT.below bK.low)
  rw[(mj i o ho).refs h]at hr
  refine hr.mono ?_
  rintro e w'⟨r,rfl,hs,hb⟩
  exact⟨r,rfl,hs.ev (Ev.ee _ fun i hi=> .inr hi),hb⟩)
 have QX:Hid (∀(i:Nat)o,ls[i]? =some o→(cK x ((i:Int)+1)).length≤96):=(show∀(i:Nat)o,_→_ from fun i o ho=>Ee h (mj i o ho))
 have h5:=h.rlen
 obtain⟨la,lc,rfl,EK,ZY,_⟩:=IF.open_
 obtain⟨ra,rc,rfl,NV,Sw,_⟩:=rJ.open_
 have qbh:Hid (Mk.l9 (bo x) (cK x) (Mk.cZ ([],[]) (bo x)).1 (Mk.cZ ([],[]) (bo x)).2):=(show _ from Mk.l9.start _ _)
 have qz:Hid (ls.length≤10):=(show _ from by rw[hlen];exact h.len)
 clear IF rJ h Iw Ow mj hM hT Oh
 generalize hn:ls.length=n at*
 generalize IZ:x.roots.length=m at*
 have HN:=hD hn;clear hn;have MJ:=hD IZ;clear IZ;have jJ:=hD hlen;clear hlen
 have qbi:Hid (∀(wr:World)v1 S wk(id:Int)(o:Obj),fS w wr (gU (.slice la n lc) pm) v1 S wk→S.length≤900→Calls Tryz.prog 46 #[.slice (some ⟨wr.heap.size+1,0,none⟩) 1 1, .pointer (some ⟨w.heap.size+1+1,0,none⟩), .pointer (some ⟨w.heap.size+1+1+1,0,none⟩)] ((wr.alloc o).alloc (.cells #[.int .i64 id] 3)) fun e w'=>e= .returned (.tuple #[])∧∃v',fS w w' (gU (.slice la n lc) pm) v' (Mk.cZ (S,wk) [id]).1 (Mk.cZ (S,wk) [id]).2):=(show∀(wr:World)v1 S wk(id:Int)(o:Obj),_→_→_ from fun wr v1 S wk id o h hS=>by
  have h1:fS w (wr.alloc o) (gU (.slice la n lc) pm) v1 S wk:=h.below ((Below.refl _ _).alloc (Nat.le_refl _) o)
  have h2:fS w ((wr.alloc o).alloc (.cells #[.int .i64 id] 3)) (gU (.slice la n lc) pm) v1 S wk:=h1.below ((Below.refl _ _).alloc (Nat.le_refl _) _)
  have hz:(wr.alloc o).heap.size=wr.heap.size+1:=by simp
  have hs:ae (α:=Int) (bc v1 (qq w)) ((wr.alloc o).alloc (.cells #[.int .i64 id] 3)) (.slice (some ⟨wr.heap.size+1,0,none⟩) 1 1) [id]:=by
   rw[←hz]
   refine⟨[[.int .i64 id]],ct (F:=fun i=>¬bc v1 (qq w) i) (wr.alloc o) #[.int .i64 id] _ 1 rfl (fun hh=>by have:=h1.bd _ hh;omega),rfl,fun i cs y hc hy=> ?_⟩
   match i,hc,hy with
   |0,hc,hy=>cases hc;cases hy;rfl
   |i+1,hc,hy=>simp at hc
  refine(K8 w _ _ v1 S wk [id] (by simp;omega) h2 _ hs).mono ?_
  rintro e w'⟨rfl,v',k1,k2⟩
  exact⟨rfl,v',k1⟩)
 have qbj:Hid (∀(W:World)v S wk ids u,fS w W (gU (.slice la n lc) pm) v S wk→S.length+ids.length≤1000→ae (α:=Int) (bc v (qq w)) W u ids→_):=(show∀(W:World)v S wk ids u,_→_→_→_ from fun W v S wk ids u h1 h2 h3=>K8 w W _ v S wk ids h2 h1 u h3)
 have Cc:=fun w=>kN 74 w
 go_enter Tryz.func25,Tryz.ntmps25
 go_upto_region 4 with fail
 obtain⟨W0,OD⟩:∃W0:World,W0=(((w.alloc (gU (.slice la n lc) pm)).alloc (.map #[] 0)).alloc (FM (w.heap.size+1))).alloc (sn (.slice none 0 0)):=⟨_,rfl⟩
 have jL:Hid (fS w W0 (gU (.slice la n lc) pm) (.slice none 0 0) (Mk.cZ ([],[]) ((bo x).take 0)).1 (Mk.cZ ([],[]) ((bo x).take 0)).2):=(show _ from by
  have hX:=Bx.MW w (gU (.slice la n lc) pm) (.map #[] 0) (FM (w.heap.size+1)) (sn (.slice none 0 0))
  rw[←OD]at hX
  exact⟨hX.bJ rfl,hX.df rfl,hX.Gr rfl,⟨[],0,⟨hX.bh rfl,by simp,by simp,by simp⟩,rfl⟩,aK.nil _ _ _ _,hX.1,Nat.le_refl _⟩)
 unfold gU FM sn at OD
 rw[←OD]
 clear OD
 go_wp2_with fail
 go_loopg [9,15]m(fun gg _ jv wr=>∃(j:Nat)(v1:Value),j≤m∧gg=m-j∧jv= .int .i64 j∧Hid (fS w wr (gU (.slice la n lc) pm) v1 (Mk.cZ ([],[]) ((bo x).take j)).1 (Mk.cZ ([],[]) ((bo x).take j)).2))
 case atStart=>exact⟨0,_,Nat.zero_le _,rfl,rfl,jL⟩
 case round=>
  obtain⟨j,v1,hj,rfl,rfl,HX⟩:=hrel
  by_cases aT:j<m
  ·obtain⟨r,hr⟩:∃r,x.roots[j]? =some r:=⟨_,List.getElem?_eq_getElem (by rw[MJ.out];exact aT)⟩
   obtain⟨b,off,cap,hv,bZ,_,ao⟩:=HR.out j r hr
   obtain⟨rfl,rfl⟩:ra=some ⟨b,off,none⟩∧rc=cap:=by first|simpa using hv|(rw[MJ.out]at hv;simpa using hv)
   obtain⟨g0,g1⟩:=ao wr HX.out.low
   have eT:=hD (HRS.out j r hr)
   have aS:=hD (fun o=>qbi.out wr v1 _ _ r.id o HX.out (by have:=XP.out j;omega))
   clear hv ao hr
   go_wp2_with fail
   refine(aS.out _).mono ?_
   rintro e w1⟨rfl,v2,bK⟩
   have HY:=hD bK
   clear bK g0 g1
   go_wp2_with fail
   go_roundg(m-(j+1))
   case measure=>omega
   case rel=>exact⟨j+1,v2,by omega,rfl,by go_num,(show fS _ _ _ _ _ _ from by rw[eT.out];exact HY.out)⟩
  ·obtain rfl:j=m:=by omega
   have we:Hid (fS w wr (gU (.slice la n lc) pm) v1 (Mk.cZ ([],[]) (bo x)).1 (Mk.cZ ([],[]) (bo x)).2):=(show _ from by have:=HX.out;rw[N0.out]at this;exact this)
   clear HX
   go_wp2_with fail
   go_loopg [10](Mk.mW x.objs.length (Mk.cZ ([],[]) (bo x)).1 (Mk.cZ ([],[]) (bo x)).2)(fun gg _ wr=>∃(S wk:List Int)(v1:Value),gg=Mk.mW x.objs.length S wk∧Hid (fS w wr (gU (.slice la n lc) pm) v1 S wk∧Mk.l9 (bo x) (cK x) S wk))
   case atStart=>exact⟨_,_,_,rfl,(show _∧_ from⟨we.out,qbh.out⟩)⟩
   case round=>
    obtain⟨S,wk,v2,rfl,HZ⟩:=hrel
    have c5:=one_cell HZ.out.1.b5
    rcases List.eq_nil_or_concat wk with rfl|⟨F3,id,rfl⟩
    ·have hop:=HZ.out.1.acc.open_
     obtain⟨za,zc,rfl,_⟩:=hop
     have c6:=one_cell HZ.out.1.b6
     rw[List.length_nil]at c6
     go_wp2_with fail
     go_ret
     exact⟨S,_,rfl,HZ.out.1.set,HZ.out.2.done,HZ.out.1.low⟩
    ·rw[List.concat_eq_append]at HZ
     have T3:=HZ.out.1.pop
     obtain⟨q,c,Co,hc,aC,LP⟩:=T3
     subst Co
     have mh:=HZ.out.1.short
     have VY:=HIV.out _ _ _ _ _ HZ.out.1 HZ.out.2
     have c6:=one_cell HZ.out.1.b6
     have f6:=aa HZ.out.1.b6 0
     have wE:=hD LP
     have XF:=HOB.out id (HZ.out.2.reached id (HZ.out.2.sub id (by simp)))
     obtain⟨i,o,hid,ho⟩:=XF
     subst hid
     have qbk:F3.length+1≤10:=by simp at mh;omega
     obtain⟨k,hk⟩:∃k,F3.length=k:=⟨_,rfl⟩
     rw[hk]at c6 aC hc qbk
     have wE:Hid (fS w (wr.setCell ⟨w.heap.size+1+1+1,0,none⟩ (.slice (some ⟨q,0,none⟩) k c)) (gU (.slice la n lc) pm) (.slice (some ⟨q,0,none⟩) k c) S F3):=(show _ from by rw[←hk];exact wE.out)
     have L5:=hD VY
     have SZ:=hD ho
     have R8:(0:Int)≤(k:Int):=Int.natCast_nonneg _
     have hiw:IntKind.i64.wrap (((k+1:Nat):Int)-1)=(k:Int):=by rw[show((k+1:Nat):Int)-1=(k:Int)from by omega];exact IntWalk.i64_in _ (by omega)
     have Uv:decide ((0:Int)<((k+1:Nat):Int))=true:=by simp
     have hkc:(k:Int)≤(c:Int):=by omega
     have qdq:k≤c:=by omega
     clear LP mh VY hk ho hc
     go_upto_region 12 with fail
     obtain⟨W,hW⟩:∃W:World,W=wr.setCell ⟨w.heap.size+1+1+1,0,none⟩ (.slice (some ⟨q,0,none⟩) k c):=⟨_,rfl⟩
     rw[←hW]at wE⊢
     clear hW f6 c6 c5 aC
     obtain⟨g0,g1⟩:=af wE.out.b0
     obtain⟨b,off,cap,va,vc,hv,bZ,dk,ao⟩:=HO.out i o SZ.out
     obtain⟨rfl,rfl⟩:la=some ⟨b,off,none⟩∧lc=cap:=by first|simpa using hv|(rw[HN.out]at hv;simpa using hv)
     obtain⟨q0,q1,q2,q3⟩:=ao W wE.out.low
     have nQ:=zW.out i o W SZ.out wE.out.low
     have Sc:=hD (HRF.out i o SZ.out W _ _ _ _ _ wE.out dk)
     have VZ:=hD (QX.out i o SZ.out)
     have jP:i<n:=by have:=(List.getElem?_eq_some_iff.1 SZ.out).1;have:=HN.out;omega
     have Y1:(0:Int)≤(i:Int):=Int.natCast_nonneg _
     have qdr:(i:Int)<(n:Int):=by omega
     obtain⟨nl,Ln⟩:∃nl,nl=cK x ((i:Int)+1):=⟨_,rfl⟩
     rw[←Ln]at Sc VZ
     have Wy:=hD Ln
     clear Ln ao hv dk bZ SZ
     obtain⟨oi,oc,ov,os⟩:=o
     go_wp2_with fail
     refine(Sc.out).mono ?_
     rintro e w5⟨u5,rfl,Ca,sA⟩
     have qbl:=Ca
     obtain⟨ua,uc,rfl,_⟩:=qbl.open_
     have sL:=hD (wE.out.below sA)
     have x9:=hD (qbj.out w5 _ S F3 nl _ sL.out (by have:=VZ.out;have:=L5.out.2;omega) Ca)
     clear Ca sA nQ q0 q1 q2 q3 g0 g1
     go_wp2_with fail
     refine(x9.out).mono ?_
     rintro e w6⟨rfl,v',k1,k2⟩
     have nM:=hD k1
     clear k1 k2
     go_wp2_with fail
     have FX:Hid (Mk.l9 (bo x) (cK x) (Mk.cZ (S,F3) nl).1 (Mk.cZ (S,F3) nl).2):=(show _ from by rw[Wy.out];exact HZ.out.2.step)
     have V3:Mk.mW x.objs.length (Mk.cZ (S,F3) nl).1 (Mk.cZ (S,F3) nl).2<Mk.mW x.objs.length S (F3++[(i:Int)+1]):=by
      refine Mk.BJ (R:=cK x) (by rw[←Wy.out]) (HIV.out _ _ _ _ _ nM.out FX.out).1
     go_roundg(Mk.mW x.objs.length (Mk.cZ (S,F3) nl).1 (Mk.cZ (S,F3) nl).2)
     case measure=>rw[List.concat_eq_append];exact V3
     case rel=>exact⟨_,_,v',rfl,(show _∧_ from⟨nM.out,FX.out⟩)⟩
theorem oM {P:Program}{id:Nat}{Q:Exit→Act→World→Prop}{a:Act}{w:World}{l:List Oper}(hm:P.follows .mixedOrders=true)(hB:Region.lexB .any l.toArray=true)
 (h:∀(ι:Type) [Nonempty ι](F:ι→World),(∀i,Below w.heap.size w (F i))→(∀W,Below w.heap.size w W→∃j,W=F j)→wpQuiet P l.toArray (fun w'=>∃n,w'=F n) (fun a'=>∀w',(∃n,w'=F n)→Q .normal a' w') l a):(Code.region id l.toArray true).wp P Q a w:=
 wp_region_quiet (C:=fun w'=>∃n:{W:World//Below w.heap.size w W},w'=n.1) hm hB ⟨⟨_,(Below.refl _ w).drew⟩,rfl⟩ (by haveI:Nonempty {W:World//Below w.heap.size w W}:=⟨⟨_,Below.refl _ w⟩⟩;simpa using h {W:World//Below w.heap.size w W} Subtype.val (fun i=>i.2) (fun W hW=>⟨⟨W,hW⟩,rfl⟩))
theorem zt(s:ByteArray)(h:ax s=true)(hs:s.size≤maxLen)(w:World):Calls Tryz.prog 67 #[.string s] w fun e w'=>e= .returned (.bool true)∧Below w.heap.size w w':=by
 have HR:Hid (Calls Tryz.prog 95 #[.agg #[.string s, .slice none 0 0]] w fun e w'=>e= .returned (.bool true)∧Below w.heap.size w w'):=(show _ from by
  have h1:=eY (fun _=>False) (.slice none 0 0) w ⟨s,[]⟩ (ae.nil _ _) hs
  have h2:aH ⟨s,[]⟩=true:=(de _).2 ⟨h,by simp,fun f hf=>by simp at hf,by simp⟩
  rw[h2]at h1
  exact h1)
 go_enter Tryz.func67,Tryz.ntmps67
 go_wp2_with fail
 refine(HR.out).mono ?_
 rintro e w1⟨rfl,hb⟩
 have HB:=hD hb
 clear hb
 go_wp2_with fail
 go_ret
 exact⟨rfl,HB.out⟩
theorem Ez(x:cG)(h:fm x)(M:Nat→Prop)(w:World)(lv ov rv:Value)(sC:ae M w lv x.lines)(vM:ae M w ov x.objs)(rJ:ae M w rv x.roots):
 Calls Tryz.prog 40 #[.agg #[lv,ov,rv, .int .i64 x.next]] w fun e w'=>e= .returned (.bool true)∧Below w.heap.size w w':=by
 have HO:Hid (∀i o,x.objs[i]? =some o→_):=(show∀i o,_→_ from fun i o ho=>iy vM ho)
 have HOI:Hid (∀(i:Nat)o,x.objs[i]? =some o→o.id=(i:Int)+1):=(show∀(i:Nat)o,_→_ from fun i o ho=>(h.objs i o ho).1)
 have HR:Hid (∀i r,x.roots[i]? =some r→_):=(show∀i r,_→_ from fun i r hr=>gq rJ hr)
 have QX:Hid (∀i r W,x.roots[i]? =some r→_):=(show∀i r W,_→_ from fun i r W hr=>zt r.name (h.OI hr).1 (bQ (h.OI hr).2) W)
 have XP:Hid (∀i r s,x.roots[i]? =some r→x.roots[i+1]? =some s→_):=(show∀i r s,_→_→_ from fun i r s hr hs=>h.S8 hr hs)
 have Iy:=h.len
 have WY:=h.next
 have h5:=h.rlen
 obtain⟨la,lc,rfl,_⟩:=sC.open_
 obtain⟨oa,oc,rfl,VH,hom,_⟩:=vM.open_
 obtain⟨ra,rc,rfl,NV,Sw,_⟩:=rJ.open_
 clear sC vM rJ h
 obtain⟨xl,xo,xr,xn⟩:=x
 dsimp only at*
 obtain⟨n,hn⟩:∃n,xo.length=n:=⟨_,rfl⟩
 obtain⟨m,IZ⟩:∃m,xr.length=m:=⟨_,rfl⟩
 rw[hn]at Iy WY VH
 rw[IZ]at h5 NV
 obtain⟨FN,xX⟩:=WY
 have Se:1≤xn:=by omega
 have CB:xn≤100001:=by omega
 simp only[hn,IZ]
 have HN:=hD hn;clear hn;have MJ:=hD IZ;clear IZ
 go_enter Tryz.func40,Tryz.ntmps40
 go_wp2_with fail
 go_loopg [2,3,5,19]n(fun g r2 r3 _ iv wr=>∃k:Nat,k≤n∧g=n-k∧iv= .int .i64 k∧r3= .int .i64 k∧r2= .bool false∧Hid (Bx w [fw (.slice la xl.length lc) (.slice oa n oc) (.slice ra m rc) xn] wr))
 case atStart=>exact⟨0,Nat.zero_le _,rfl,rfl,rfl,rfl,(show Bx _ _ _ from Bx.fA w _)⟩
 case round=>
  obtain⟨k,hk,rfl,rfl,rfl,rfl,HX⟩:=hrel
  obtain⟨c0,c1,c2,c3⟩:=ab (HX.out.bJ rfl)
  by_cases aT:k<n
  ·obtain⟨o,ho⟩:∃o,xo[k]? =some o:=⟨_,List.getElem?_eq_getElem (by rw[HN.out];exact aT)⟩
   obtain⟨b,off,cap,a',c',hv,bZ,_,ao⟩:=HO.out k o ho
   obtain⟨rfl,rfl⟩:oa=some ⟨b,off,none⟩∧oc=cap:=by first|simpa using hv|(rw[HN.out]at hv;simpa using hv)
   obtain⟨g0,g1,g2,g3⟩:=ao wr HX.out.1
   have hid:=HOI.out k o ho
   rw[hid]at g0
   have d3:=fun o=>(ab ((HX.out.alloc o).bJ rfl)).2.2.2
   have e1:(k:Int)+1<xn:=by omega
   clear hv ao ho hid
   go_wp2_with fail
   go_roundg(n-(k+1))
   case measure=>omega
   case rel=>exact⟨k+1,by omega,rfl,by go_num,by go_num,rfl,(show Bx _ _ _ from HX.out.alloc _)⟩
  ·obtain rfl:k=n:=by omega
   go_wp2_with fail
   go_loopg [2,6,7,40]m(fun g r2 _ _ iv wr=>∃j:Nat,j≤m∧g=m-j∧iv= .int .i64 j∧r2= .bool false∧Hid (Bx w [fw (.slice la xl.length lc) (.slice oa k oc) (.slice ra m rc) xn] wr))
   case atStart=>exact⟨0,Nat.zero_le _,rfl,rfl,rfl,HX⟩
   case round=>
    obtain⟨j,hj,rfl,rfl,rfl,HY⟩:=hrel
    clear HX c0 c1 c2 c3
    obtain⟨c0,c1,c2,c3⟩:=ab (HY.out.bJ rfl)
    by_cases LY:j<m
    ·obtain⟨r,hr⟩:∃r,xr[j]? =some r:=⟨_,List.getElem?_eq_getElem (by rw[MJ.out];exact LY)⟩
     obtain⟨b,off,cap,hv,bZ,_,ao⟩:=HR.out j r hr
     obtain⟨rfl,rfl⟩:ra=some ⟨b,off,none⟩∧rc=cap:=by first|simpa using hv|(rw[MJ.out]at hv;simpa using hv)
     obtain⟨g0,g1⟩:=ao wr HY.out.1
     have zV:=hD (fun W=>QX.out j r W hr)
     have Io:=hD hr
     clear hv ao hr
     go_upto_region 14 with fail
     obtain⟨W7,vD⟩:∃W7:World,W7=wr.alloc (.cells #[.string r.name, .int .i64 r.id] 64):=⟨_,rfl⟩
     have oe:Hid (Bx w [fw (.slice la xl.length lc) (.slice oa k oc) (.slice (some ⟨b,off,none⟩) m rc) xn] W7):=(show Bx _ _ _ by rw[vD];exact HY.out.alloc _)
     have Lw:Hid (W7.heap[wr.heap.size]? =some (.cells #[.string r.name, .int .i64 r.id] 64 (0,0))):=(show _=_ by rw[vD];exact heap_alloc_new wr _)
     rw[←vD]
     clear vD c0 c1 c2 c3 g0 g1
     generalize wr.heap.size=Q at*
     have HS:Hid (∀W,Below W7.heap.size W7 W→W.cell? ⟨Q,0,none⟩=some (.string r.name)∧W.cell? ⟨w.heap.size,2,none⟩=some (.slice (some ⟨b,off,none⟩) m rc)):=(show∀W,_→_ from fun W hb=>⟨(af ((hb.block Q (Array.getElem?_eq_some_iff.1 Lw.out).1).trans Lw.out)).1,(ab ((oe.out.below hb).bJ rfl)).2.2.1⟩)
     have HJ:Hid (Below W7.heap.size W7 W7):=(show Below _ _ _ from Below.refl _ _)
     obtain _|i:=j
     ·go_cut [64](fun s64 wx=>s64= .bool false∧Hid (Bx w [fw (.slice la xl.length lc) (.slice oa k oc) (.slice (some ⟨b,off,none⟩) m rc) xn] wx))
      case first=>
       refine oM (by kernel_rfl) (by kernel_rfl) fun ι _ F CJ F0=> ?_
       have s0:=fun i=>(HS.out (F i) (CJ i)).1
       have oO:=hD CJ
       have EL:=hD F0
       clear CJ F0
       repeat(go_big_quiet_step((go_at_call 67;refine(zV.out _).mono ?_;rintro e w3⟨rfl,bP⟩;exact⟨rfl,EL.out _ ((oO.out _).trans (bP.mono (oO.out _).size))⟩)))
       refine wpQuiet_nil ?_
       rintro _⟨nq,rfl⟩
       go_wp2_with fail
       go_meet
       exact⟨rfl,oe.out.below (oO.out _)⟩
      case rest=>
       obtain⟨rfl,bO⟩:=hcut
       go_wp2_with fail
       go_roundg(m-1)
       case measure=>omega
       case rel=>exact⟨1,by omega,rfl,by go_num,rfl,bO⟩
     ·obtain⟨q,hq⟩:∃q,xr[i]? =some q:=⟨_,List.getElem?_eq_getElem (by rw[MJ.out];omega)⟩
      obtain⟨b2,UG,rI,Co,_,_,qD⟩:=HR.out i q hq
      obtain⟨⟨rfl,rfl⟩,rfl⟩:(b=b2∧off=UG)∧rc=rI:=by rw[MJ.out]at Co;simpa using Co
      have V4:=XP.out i q r hq Io.out
      obtain⟨LH,heq⟩:Op.bytesLess r.name.toList q.name.toList=false∧(r.name.toList==q.name.toList)=false:=by simpa [Bool.or_eq_false_iff]using V4
      have dF:(0:Int)≤(i:Int):=Int.natCast_nonneg _
      have him:(i:Int)<(m:Int):=by omega
      have hiw:IntKind.i64.wrap (((i+1:Nat):Int)-1)=(i:Int):=by rw[show((i+1:Nat):Int)-1=(i:Int)from by omega];exact IntWalk.i64_in _ (by omega)
      have Uv:decide ((0:Int)<((i+1:Nat):Int))=true:=by simp
      have FV:=hD qD
      clear Co qD hq V4
      go_cut [64](fun s64 wx=>s64= .bool false∧Hid (Bx w [fw (.slice la xl.length lc) (.slice oa k oc) (.slice (some ⟨b,off,none⟩) m rc) xn] wx))
      case first=>
       refine oM (by kernel_rfl) (by kernel_rfl) fun ι _ F CJ F0=> ?_
       have s0:=fun i=>(HS.out (F i) (CJ i)).1
       have s1:=fun i=>(HS.out (F i) (CJ i)).2
       have s2:=fun j=>(FV.out (F j) (oe.out.below (CJ j)).1).1
       have oO:=hD CJ
       have EL:=hD F0
       clear CJ F0
       repeat(go_big_quiet_step((go_at_call 67;refine(zV.out _).mono ?_;rintro e w3⟨rfl,bP⟩;exact⟨rfl,EL.out _ ((oO.out _).trans (bP.mono (oO.out _).size))⟩)))
       refine wpQuiet_nil ?_
       rintro _⟨nq,rfl⟩
       go_wp2_with fail
       go_meet
       exact⟨rfl,oe.out.below (oO.out _)⟩
      case rest=>
       obtain⟨rfl,bO⟩:=hcut
       go_wp2_with fail
       go_roundg(m-(i+1+1))
       case measure=>omega
       case rel=>exact⟨i+1+1,by omega,rfl,by go_num,rfl,bO⟩
    ·obtain rfl:j=m:=by omega
     go_wp2_with fail
     go_ret
     exact⟨rfl,HY.out.1⟩
end Go.Proofs.YtlkjnefenialbaaGreatDoor
