/- What Check of a class and the expression reader answer; no condition beyond each theorem's own. -/
import Derived.Test.YtlkjnefenialbaaGreatDoorM11
import Derived.Test.YtlkjnefenialbaaGreatDoorM14
import Derived.Laws.IdiomStrings
set_option linter.unusedVariables false
set_option linter.unusedSimpArgs false
set_option maxHeartbeats 8000000
set_option maxRecDepth 100000
namespace Go.Proofs.YtlkjnefenialbaaGreatDoor
open Go.RowKit
theorem lA {M:Nat→Prop}{w:World}{v:Value}{l:List ak}(h:ae M w v l){k:Nat}{x:ak}(hx:l[k]? =some x):∃b off cap,v= .slice (some ⟨b,off,none⟩) l.length cap∧b<w.heap.size∧x.name.size≤maxLen∧∀W,Below w.heap.size w W→W.cell? ⟨b,off+k*4,none⟩=some (.string x.name)∧W.cell? ⟨b,off+k*4+1,none⟩=some (.int .i64 x.type.kind)∧W.cell? ⟨b,off+k*4+2,none⟩=some (.int .i64 x.type.of)∧W.cell? ⟨b,off+k*4+3,none⟩=some (.bool x.indexed):=by
 obtain⟨a,cap,rfl,hl,_,hc⟩:=h.open_
 have hk:=(List.getElem?_eq_some_iff.1 hx).1
 obtain⟨b,off,rfl,_,hb,aC⟩:=hc (by omega)
 obtain⟨cs,⟨rfl,hs⟩,bE⟩:=aC k x hx
 refine⟨b,off,cap,rfl,hb,hs,fun W hB=> ?_⟩
 have g:∀j u,([.string x.name, .int .i64 x.type.kind, .int .i64 x.type.of, .bool x.indexed]:List Value)[j]? =some u→W.cell? ⟨b,off+k*4+j,none⟩=some u:=fun j u hu=>(hB.cell (p:=⟨b,off+k*4+j,none⟩) hb).trans (bE j u hu)
 exact⟨g 0 _ rfl,g 1 _ rfl,g 2 _ rfl,g 3 _ rfl⟩
theorem JV(n:ByteArray)(k o:Int)(i:Bool)(w:World):Calls Tryz.prog 147 #[.agg #[.string n, .int .i64 k, .int .i64 o, .bool i]] w fun e w'=>e= .returned (.agg #[.string n, .int .i64 k, .int .i64 o, .bool i])∧Below w.heap.size w w':=by
 go_enter Tryz.func147,Tryz.ntmps147
 go_wp2_with fail
 refine bodyPost_ret (v:= .agg #[.string n, .int .i64 k, .int .i64 o, .bool i]) (by simp[results,Tryz.results147,go_sem]) rfl ⟨rfl,?_⟩
 exact((Below.refl _ w).alloc (Nat.le_refl _) _).alloc (by simp) _
theorem uq(l:List ak)(hl:l.length≤12)(h0:0<l.length)(M:Nat→Prop)(w:World)(v:Value)(hM:Bd M w)(hs:ae M w v l):
 Calls Tryz.prog 146 #[v, .func (.func 147) #[] #[]] w (aF w fun v' w'=>ae M w' v' l):=by
 obtain⟨i0,dF,dM,db,dL⟩:=info_parts fZ
 have HC:Hid (∀(i:Nat)(x:ak),l[i]? =some x→_):=(show∀(i:Nat)(x:ak),_→_ from fun i x hx=>lA hs hx)
 obtain⟨a,bu,rfl,cq,po,_⟩:=hs.open_
 clear hs
 generalize hn:l.length=n at*
 have dZ:=hD hn;clear hn
 have vG:((n:Int)==0)=false:=by simp;omega
 obtain⟨cur,Cc,bE⟩:=pZ (P:=Tryz.prog) w 89 151 i0 _ Tryz.underlying89 dF dM n (by omega) (by omega)
 have Oe:Hid (dp (α:=ak) M w.heap.size 151 (w.alloc (.cells cur 151)) n []):=(show dp _ _ _ _ _ _ from dp.made cur (heap_alloc_new w _) (by rw[bE,db];rfl))
 clear bE
 go_enter Tryz.func146,Tryz.ntmps146
 go_wp2_with fail
 go_loopg [6,7,16]n(fun g _ _ iv wr=>∃i:Nat,i≤n∧g=n-i∧iv= .int .i64 i∧Hid (dp M w.heap.size 151 wr n (l.take i))∧Hid (Below w.heap.size w wr))
 case atStart=>exact⟨0,Nat.zero_le _,rfl,rfl,Oe,(show Below _ _ _ from(Below.refl _ _).alloc (Nat.le_refl _) _)⟩
 case round=>
  obtain⟨i,hi,rfl,rfl,HA,HB⟩:=hrel
  have cB:w.heap.size<wr.heap.size:=HA.out.lt
  by_cases aT:i<n
  ·obtain⟨⟨xn,⟨xk,xo⟩,xi⟩,hx⟩:∃x,l[i]? =some x:=⟨_,List.getElem?_eq_getElem (by rw[dZ.out];exact aT)⟩
   obtain⟨b,off,cap,hv,hb,fH,ao⟩:=HC.out i _ hx
   obtain⟨rfl,rfl⟩:a=some ⟨b,off,none⟩∧bu=cap:=by simpa using hv
   obtain⟨q0,q1,q2,q3⟩:=ao wr HB.out
   have nP:Hid ((l.take i).length=i):=(show _=_ by have:=dZ.out;rw[List.length_take];omega)
   have nf:Hid (l.take (i+1)=l.take i++[⟨xn,⟨xk,xo⟩,xi⟩]):=(show _=_ by rw[List.take_add_one,hx];rfl)
   have CA:=hD fH;clear fH
   clear hv ao hx
   dsimp only at q0 q1 q2 q3
   go_wp2_with fail
   refine(JV _ _ _ _ _).mono ?_
   rintro e w1⟨rfl,aw⟩
   have vi:Hid (az.rep (α:=ak) (orM M w.heap.size) w1 [.string xn, .int .i64 xk, .int .i64 xo, .bool xi] ⟨xn,⟨xk,xo⟩,xi⟩):=(show _∧_ from⟨rfl,CA.out⟩)
   have aO:=hD (aL aw)
   have lS:=hD (HA.out.below aO.out)
   clear aw
   have WR:i*4+3<n*4:=by omega
   obtain⟨u0,p0,f0⟩:=lS.out.cell (j:=i*4) (by show _<n*4;omega)
   obtain⟨u1,p1,f1⟩:=lS.out.cell (j:=i*4+1) (by show _<n*4;omega)
   obtain⟨u2,p2,f2⟩:=lS.out.cell (j:=i*4+2) (by show _<n*4;omega)
   obtain⟨u3,p3,f3⟩:=lS.out.cell (j:=i*4+3) (by show _<n*4;omega)
   go_wp2_with fail
   go_roundg(n-(i+1))
   case measure=>omega
   case rel=>
    refine⟨i+1,by omega,rfl,by go_num,(show dp _ _ _ _ _ _ by rw[nf.out];exact lS.out.PQ rfl nP.out aT vi.out),(show Below _ _ _ from ?_)⟩
    exact(((((HB.out.trans (aO.out.mono (by omega))).setCell (by simp) _).setCell (by simp) _).setCell (by simp) _).setCell (by simp) _)
  ·go_wp2_with fail
   go_ret
   refine⟨_,rfl,?_,HB.out⟩
   have h1:=HA.out
   rw[List.take_of_length_le (by rw[dZ.out];omega)]at h1
   exact h1.slice dZ.out (fun h=>by have:=hM _ h;omega) (by unfold maxLen;omega)
theorem AV(a:Option Addr)(cap:Nat)(fv:Value)(w:World):Calls Tryz.prog 146 #[.slice a 0 cap,fv] w fun e w'=>e= .returned (.slice none 0 0)∧w=w':=by
 go_enter Tryz.func146,Tryz.ntmps146
 go_wp2_with fail
 go_ret
 exact⟨rfl,rfl⟩
theorem yP(l:List ak)(hl:l.length≤12)(M:Nat→Prop)(w:World)(v:Value)(hM:Bd M w)(hs:ae M w v l):
 Calls Tryz.prog 146 #[v, .func (.func 147) #[] #[]] w (aF w fun v' w'=>ae M w' v' l):=by
 by_cases h0:0<l.length
 ·exact uq l hl h0 M w v hM hs
 ·have e:l=[]:=List.eq_nil_of_length_eq_zero (by omega)
  subst e
  obtain⟨a,cap,rfl,_⟩:=hs.open_
  refine(AV a cap _ w).mono ?_
  rintro e w'⟨rfl,rfl⟩
  exact⟨_,rfl,ae.nil _ _,Below.refl _ _⟩
theorem vR(nm:ByteArray)(l:List ak)(hl:l.length≤12)(M:Nat→Prop)(w:World)(v:Value)(hM:Bd M w)(hs:ae M w v l):
 Calls Tryz.prog 126 #[.agg #[.string nm,v]] w (aF w fun u w'=>∃v',u= .agg #[.string nm,v']∧ae M w' v' l):=by
 have FX:Hid (∀W,Below w.heap.size w W→w.heap.size+2≤W.heap.size→_):=(show∀W,_→_→_ from fun W hb hz=>yP l hl (eP M w 2) W v (dS hM hz) (hs.ev (dR hb)))
 obtain⟨a,bu,rfl,_⟩:=hs.open_
 clear hs
 go_enter Tryz.func126,Tryz.ntmps126
 go_wp2_with fail
 refine(FX.out _ (Bx.eO w _ _).1 (by simp)).mono ?_
 rintro e w1⟨_,rfl,dc,aw⟩
 obtain⟨za,zc,rfl,_⟩:=dc.open_
 have HB:=hD ((Bx.eO w (cg nm (.slice a l.length bu)) (cg ⟨#[]⟩ (.slice none 0 0))).below aw)
 obtain⟨r0,r1⟩:=af (HB.out.bJ rfl)
 obtain⟨e0,e1⟩:=af (HB.out.bh rfl)
 have f1:=aa (HB.out.bJ rfl) 1
 have g0:=aa (HB.out.bh rfl) 0
 have g1:=aa (HB.out.bh rfl) 1
 have HS:=hD dc
 clear dc aw
 go_wp2_with fail
 refine bodyPost_ret (v:= .agg #[.string nm, .slice za l.length zc]) (by simp[results,Tryz.results126,go_sem,e0,e1]) rfl ⟨_,rfl,⟨_,rfl,HS.out.ev ?_⟩,?_⟩
 ·exact((((ff w1).setCell (.inl (.inr ⟨by simp,by simp⟩)) _).setCell (.inl (.inr ⟨by simp,by simp⟩)) _).setCell (.inl (.inr ⟨by simp,by simp⟩)) _)
 ·exact((HB.out.1.setCell (by simp) _).setCell (by simp) _).setCell (by simp) _
theorem AW {c:ai}(h:aH c=true){i:Nat}{f:ak}(hf:c.fields[i]? =some f):aB f.type=true:=
 (rP (((de c).1 h).2.2.1 f (List.mem_of_getElem? hf))).2.1
theorem kl(c:ai)(hc:aH c=true)(eU:c.name.size≤maxLen)(many:Int)(hm:many≤100000)(vs:List au)(hv:aW c.fields many vs)(M:Nat→Prop)(w:World)(fv vv:Value)(bz:ae M w fv c.fields)(dk:ae M w vv vs)(hT:Tb w):
 Calls Tryz.prog 107 #[.agg #[.string c.name,fv],vv] w fun e w'=>e= .returned (.tuple #[.int .i64 0, .int .i64 0])∧Below w.heap.size w w':=by
 have h8:c.fields.length≤8:=((de c).1 hc).2.1
 have HR:Hid (∀W,Below w.heap.size w W→Calls Tryz.prog 95 #[.agg #[.string c.name,fv]] W fun e w'=>e= .returned (.bool true)∧Below W.heap.size W w'):=(show∀W,_→_ from fun W hb=>by
  have h:=eY M fv W c (bz.below hb) eU
  rw[hc]at h
  exact h)
 have N6:Hid (∀(i:Nat)(x:ak),c.fields[i]? =some x→_):=(show∀(i:Nat)(x:ak),_→_ from fun i x hx=>lA bz hx)
 have HVC:Hid (∀(i:Nat)(k n:Int)(s:ByteArray)(ll:List au),vs[i]? =some (.mk k n s ll)→_):=(show∀(i:Nat)(k n:Int)(s:ByteArray)(ll:List au),_→_ from fun i k n s ll hx=>eL dk hx)
 have TY:Hid (∀(i:Nat)(f:ak)(x:au)(W:World)(u:Value),c.fields[i]? =some f→vs[i]? =some x→Below w.heap.size w W→bI M W u x→_):=(show∀(i:Nat)(f:ak)(x:au)(W:World)(u:Value),_→_→_→_→_ from fun i f x W u hf hx hb hu=>JH (hv.2 i f x hf hx) (AW hc hf) hm hu (hT.below hb))
 have hln:=hv.1
 obtain⟨fa,fc,rfl,EK,u7,_⟩:=bz.open_
 obtain⟨va,vc,rfl,sC,hvm,_⟩:=dk.open_
 clear bz dk hv hT hc
 obtain⟨nm,fs⟩:=c
 dsimp only at*
 generalize hvn:vs.length=m at*
 generalize hn:fs.length=n at*
 obtain rfl:m=n:=hln
 have dZ:=hD hvn;clear hvn;have Mx:=hD hn;clear hn
 have SI:((m:Int)!=(m:Int))=false:=by simp
 go_enter Tryz.func107,Tryz.ntmps107
 go_wp2_with fail
 refine(HR.out _ ((Below.refl _ _).alloc (Nat.le_refl _) _)).mono ?_
 rintro e w1⟨rfl,aw⟩
 have aO:=hD ((Bx.fA w (cg nm (.slice fa m fc))).below aw)
 obtain⟨c0,c1⟩:=af (aO.out.bJ rfl)
 clear aw
 go_wp2_with fail
 go_loopg [6,7,26]m(fun g _ _ iv wr=>∃i:Nat,i≤m∧g=m-i∧iv= .int .i64 i∧Hid (Below w.heap.size w wr))
 case atStart=>exact⟨0,Nat.zero_le _,rfl,rfl,(show Below _ _ _ from aO.out.1)⟩
 case round=>
  obtain⟨i,hi,rfl,rfl,HB⟩:=hrel
  by_cases aT:i<m
  ·obtain⟨⟨xn,⟨xk,xo⟩,xi⟩,hx⟩:∃x,fs[i]? =some x:=⟨_,List.getElem?_eq_getElem (by rw[Mx.out];exact aT)⟩
   obtain⟨⟨yk,yn,ys,yl⟩,hy⟩:∃y,vs[i]? =some y:=⟨_,List.getElem?_eq_getElem (by rw[dZ.out];exact aT)⟩
   obtain⟨b,off,cap,O8,hb,_,ao⟩:=N6.out i _ hx
   obtain⟨rfl,rfl⟩:fa=some ⟨b,off,none⟩∧fc=cap:=by simpa using O8
   obtain⟨bv,Zc,Zd,a',c',zY,Ze,_,_,nR⟩:=HVC.out i yk yn ys yl hy
   obtain⟨rfl,rfl⟩:va=some ⟨bv,Zc,none⟩∧vc=Zd:=by simpa using zY
   have cB:=HB.out.size
   have aA:=hD (fun o=>HB.out.alloc cB o)
   obtain⟨q0,q1,q2,q3⟩:=ao wr HB.out
   have p0:=fun o=>(nR _ (aA.out o)).1.1
   have p1:=fun o=>(nR _ (aA.out o)).1.2.1
   have p2:=fun o=>(nR _ (aA.out o)).1.2.2.1
   have p3:=fun o=>(nR _ (aA.out o)).1.2.2.2
   have oW:=hD (fun o=>TY.out i _ _ (wr.alloc o).drew _ hx hy (aA.out o).drew ((nR _ (aA.out o)).2.ev ((Ev.refl _ _).drew)))
   clear O8 zY ao nR hx hy
   dsimp only at q0 q1 q2 q3
   go_upto_region 8 with fail
   go_region_law(first
    |(go_simp
      go_at_call 133
      refine(oW.out _).mono ?_
      rintro e w2⟨rfl,aM⟩
      have bO:Hid (Below w.heap.size w w2):=(aA.out _).drew.trans (aM.mono (by have:=(aA.out (.cells #[] 0)).size;simp at this⊢;omega))
      clear aM))
   all_goals
    go_wp2_with fail
    go_roundg(m-(i+1))
    case measure=>omega
    case rel=>exact⟨i+1,by omega,rfl,by go_num,bO⟩
  ·go_wp2_with fail
   go_ret2
   exact⟨rfl,HB.out⟩
def iZ(k n:Int)(s:ByteArray)(p:Int):Value:= .agg #[.int .i64 k, .int .i64 n, .string s, .int .i64 p]
theorem ur {nm:ByteArray}(h:ax nm=true):aH ⟨nm,[]⟩=true:=by
 rw[de]
 refine⟨h,by simp,?_,by simp⟩
 intro f hf
 cases hf
theorem xd(s:ByteArray)(h:ax s=true)(hs:s.size≤20)(w:World):Calls Tryz.prog 263 #[.string s] w fun e w'=>e= .returned (.bool true)∧Below w.heap.size w w':=by
 have HR:Hid (Calls Tryz.prog 95 #[.agg #[.string s, .slice none 0 0]] w fun e w'=>e= .returned (.bool true)∧Below w.heap.size w w'):=(show _ by
  have h1:=eY (fun _=>False) (.slice none 0 0) w ⟨s,[]⟩ (ae.nil _ _) (bQ hs)
  rw[ur h]at h1
  exact h1)
 clear h
 go_enter Tryz.func263,Tryz.ntmps263
 go_wp2_with fail
 refine(HR.out).mono ?_
 rintro e w1⟨rfl,aw⟩
 have HB:=hD aw
 clear aw
 go_wp2_with fail
 go_ret
 exact⟨rfl,HB.out⟩
theorem AX {s:ByteArray}(h:iK s.data.toList=true):eN s:=by
 unfold iK at h
 simp only[Bool.and_eq_true,decide_eq_true_eq,List.all_eq_true]at h
 exact⟨by rw[←aP];exact h.1,mJ _ fun c hc=>h.2 c hc⟩
theorem xg(s:ByteArray)(h:eN s)(w:World)(hT:Tb w):Calls Tryz.prog 264 #[.string s] w fun e w'=>e= .returned (.bool true)∧Below w.heap.size w w':=by
 have HR:=hD (ue s h none 0 w hT)
 clear h hT
 go_enter Tryz.func264,Tryz.ntmps264
 go_wp2_with fail
 refine(HR.out).mono ?_
 rintro e w1⟨rfl,aw⟩
 have HB:=hD aw
 clear aw
 go_wp2_with fail
 go_ret
 exact⟨rfl,HB.out⟩
theorem vS(s:ByteArray)(hs:s.size≤200)(h0:0<s.size)(c:Int)(hc:((s[0]'h0).toNat:Int)=c)(h1:48≤c)(h2:c≤57)(hn:∀h:1<s.size,¬(48≤((s[1]'h).toNat:Int)∧((s[1]'h).toNat:Int)≤57))(w:World):
 Calls Tryz.prog 245 #[.string s] w fun e w'=>e= .returned (.tuple #[iZ 1 (c-48) ⟨#[]⟩ 0, .int .i64 1])∧Below w.heap.size w w':=by
 have HC:=hD hc
 have HN:=hD hn
 clear hc hn
 go_enter Tryz.func245,Tryz.ntmps245
 go_wp2_with fail
 go_loopg [4,5]2(fun g n k wr=>wr=w.alloc (.cells #[.int .i64 0, .int .i64 0, .string ⟨#[]⟩, .int .i64 0] 291)∧((g=2∧n= .int .i64 0∧k= .int .i64 0)∨(g=1∧n= .int .i64 (c-48)∧k= .int .i64 1)))
 case atStart=>exact⟨rfl, .inl ⟨rfl,rfl,rfl⟩⟩
 case round=>
  obtain⟨rfl,⟨rfl,rfl,rfl⟩|⟨rfl,rfl,rfl⟩⟩:=hrel
  ·have q0:∀h,((s[0]'h).toNat:Int)=c:=fun _=>HC.out
   have q1:0<s.size:=h0
   go_wp2_with fail
   go_roundg 1
   case measure=>omega
   case rel=>exact⟨rfl, .inr ⟨rfl,by rw[Int.min_eq_left (by omega)],rfl⟩⟩
  ·have hg:¬(c-48>1000000000000000):=by omega
   by_cases hl:1<s.size
   ·have wh:=HN.out hl
    obtain⟨d,hd⟩:∃d:Int,((s[1]'hl).toNat:Int)=d:=⟨_,rfl⟩
    rw[hd]at wh
    have q1:∀h,((s[1]'h).toNat:Int)=d:=fun _=>hd
    clear hd
    by_cases a1:48≤d
    ·have a2:¬d≤57:=fun h=>wh ⟨a1,h⟩
     clear wh
     go_wp2_with fail
     refine bodyPost_ret (v:= .tuple #[iZ 1 (c-48) ⟨#[]⟩ 0, .int .i64 1]) (by simp[results,Tryz.results245,go_sem,iZ]) rfl ⟨rfl,?_⟩
     exact(Below.refl _ w).alloc (Nat.le_refl _) _
    ·clear wh
     go_wp2_with fail
     refine bodyPost_ret (v:= .tuple #[iZ 1 (c-48) ⟨#[]⟩ 0, .int .i64 1]) (by simp[results,Tryz.results245,go_sem,iZ]) rfl ⟨rfl,?_⟩
     exact(Below.refl _ w).alloc (Nat.le_refl _) _
   ·go_wp2_with fail
    refine bodyPost_ret (v:= .tuple #[iZ 1 (c-48) ⟨#[]⟩ 0, .int .i64 1]) (by simp[results,Tryz.results245,go_sem,iZ]) rfl ⟨rfl,?_⟩
    exact(Below.refl _ w).alloc (Nat.le_refl _) _
def p8(c:Int):Bool:=decide (97≤c∧c≤122)||decide (48≤c∧c≤57)||decide (c=95)
def XV:Obj:= .cells #[.int .i64 0, .int .i64 0, .string ⟨#[]⟩, .int .i64 0] 291 (0,0)
theorem AY(s:ByteArray)(hs:s.size≤200)(m:Nat)(hm:m≤s.size)(qco:m≤20)(hall:∀k(h:k<s.size),k<m→p8 ((s[k]'h).toNat:Int)=true)(Uy:∀h:m<s.size,p8 ((s[m]'h).toNat:Int)=false)(nm:ByteArray)(mf:s.extract 0 m=nm)(hr:ax nm=true)(w:World):
 Calls Tryz.prog 246 #[.string s] w fun e w'=>e= .returned (.tuple #[iZ 3 0 nm 0, .int .i64 m])∧Below w.heap.size w w':=by
 have HA:=hD hall
 have HE:=hD Uy
 have HN:=hD mf
 have HS:Hid (nm.size≤20):=(show _≤_ by rw[←mf];simp[ByteArray.size_extract];omega)
 have HR:Hid (∀W,Calls Tryz.prog 263 #[.string (s.extract 0 m)] W fun e w'=>e= .returned (.bool true)∧Below W.heap.size W w'):=(show∀W,_ from fun W=>by rw[mf];exact xd nm hr HS.out W)
 clear hall Uy hr mf
 go_enter Tryz.func246,Tryz.ntmps246
 go_wp2_with fail
 go_loopg [4](m+1)(fun g k wr=>∃i:Nat,i≤m∧g=m+1-i∧k= .int .i64 i∧wr=w.alloc XV)
 case atStart=>exact⟨0,Nat.zero_le _,rfl,rfl,rfl⟩
 case round=>
  obtain⟨i,hi,rfl,rfl,rfl⟩:=hrel
  by_cases aT:i<s.size
  ·obtain⟨d,hd⟩:∃d:Int,((s[i]'aT).toNat:Int)=d:=⟨_,rfl⟩
   have HW:Hid (p8 d=decide (i<m)):=(show _=_ by
    by_cases h:i<m
    ·rw[←hd,HA.out i aT h];simp[h]
    ·have:i=m:=by omega
     subst this
     rw[←hd,HE.out aT];simp)
   have q1:∀h,((s[i]'h).toNat:Int)=d:=fun _=>hd
   clear hd
   by_cases NM:i<m
   ·have hw:p8 d=true:=by rw[HW.out];simpa using NM
    have bE:(97≤d∧d≤122)∨(¬97≤d∧48≤d∧d≤57)∨(¬97≤d∧48≤d∧¬d≤57∧(d==95)=true):=by
     unfold p8 at hw;simp at hw;simp;omega
    clear hw
    rcases bE with⟨a1,a2⟩|⟨a1,a2,a3⟩|⟨a1,a2,a3,a4⟩
    all_goals
     go_wp2_with fail
     go_roundg(m+1-(i+1))
     case measure=>omega
     case rel=>exact⟨i+1,by omega,rfl,by go_num,rfl⟩
   ·have hw:p8 d=false:=by rw[HW.out];simpa using NM
    obtain rfl:i=m:=by omega
    have bE:(97≤d∧¬d≤122∧48≤d∧¬d≤57∧(d==95)=false)∨(¬97≤d∧48≤d∧¬d≤57∧(d==95)=false)∨(¬97≤d∧¬48≤d∧(d==95)=false):=by
     unfold p8 at hw;simp at hw;simp;omega
    clear hw
    rcases bE with⟨a1,a2,a3,a4,a5⟩|⟨a1,a2,a3,a4⟩|⟨a1,a2,a3⟩
    all_goals
     go_wp2_with fail
     refine(HR.out _).mono ?_
     rintro e w1⟨rfl,aw⟩
     obtain⟨g0,g1,g2,g3⟩:=ab (boxed aw)
     have f0:=aa (boxed aw) 0
     have f1:=aa (boxed aw) 1
     have f2:=aa (boxed aw) 2
     have f3:=aa (boxed aw) 3
     have HB:=hD (aL aw)
     clear aw
     go_wp2_with fail
     refine bodyPost_ret (v:= .tuple #[iZ 3 0 nm 0, .int .i64 i]) (by rw[←HN.out];simp[results,Tryz.results246,go_sem,iZ,g0,g1,g2,g3]) rfl ⟨rfl,?_⟩
     exact(((HB.out.setCell (by simp) _).setCell (by simp) _).setCell (by simp) _).setCell (by simp) _
  ·obtain rfl:i=m:=by omega
   go_wp2_with fail
   refine(HR.out _).mono ?_
   rintro e w1⟨rfl,aw⟩
   obtain⟨g0,g1,g2,g3⟩:=ab (boxed aw)
   have f0:=aa (boxed aw) 0
   have f1:=aa (boxed aw) 1
   have f2:=aa (boxed aw) 2
   have f3:=aa (boxed aw) 3
   have HB:=hD (aL aw)
   clear aw
   go_wp2_with fail
   refine bodyPost_ret (v:= .tuple #[iZ 3 0 nm 0, .int .i64 i]) (by rw[←HN.out];simp[results,Tryz.results246,go_sem,iZ,g0,g1,g2,g3]) rfl ⟨rfl,?_⟩
   exact(((HB.out.setCell (by simp) _).setCell (by simp) _).setCell (by simp) _).setCell (by simp) _
instance:az UInt8 where
 size:=1
 rep:=fun _ _ cs x=>cs=[.int .u8 (x.toNat:Int)]
 len:=fun h=>by rw[h];rfl
 flat:=fun h u hu=>by rw[h]at hu;simp at hu;subst hu;rfl
 ev:=fun h _=>h
theorem GV:(Tryz.prog.info? 5).map (fun i=>(i.zero,i.size,i.bytes))=some (some (.int .u8 0),1,1):=by kernel_rfl
theorem uu {w:World}{a:Option Addr}{n cap:Nat}{bs:List UInt8}(h:ae (fun _=>False) w (.slice a n cap) bs):(convert 345 9 (.slice a n cap)).run Tryz.prog w= .ok (.string (bL bs)) w:=by
 obtain⟨a',dE,e,_,_,hc⟩:=h.open_
 obtain⟨rfl,rfl,rfl⟩:a=a'∧n=bs.length∧cap=dE:=by simpa using e
 cases bs with
 |nil=>
  rw[run_convert_bytes_string w 345 9 5 a _ cap Tryz.underlying345 Tryz.underlying5 Tryz.underlying9]
  cases a with
  |none=>rfl
  |some ad=>
   have:=run_bytesToString (P:=Tryz.prog) w ad 0 cap [] (by simpa using run_loadCells_list (P:=Tryz.prog) w ad [] (fun j v hj=>by simp at hj))
   exact this
 |cons c r=>
  obtain⟨b,off,rfl,_,_,aC⟩:=hc (by simp)
  refine run_convert_bytes_back w 345 9 5 ⟨b,off,none⟩ cap (c::r) Tryz.underlying345 Tryz.underlying5 Tryz.underlying9 fun j hj=> ?_
  obtain⟨cs,rfl,bE⟩:=aC j _ (List.getElem?_eq_getElem hj)
  have:=bE 0 _ rfl
  rw[show az.size UInt8=1 from rfl]at this
  unfold Addr.add
  split
  ·rename_i h;subst h;simpa using this
  ·simpa using this
theorem AZ {s:ByteArray}{l:List UInt8}(h:s.data.toList=l){k:Nat}{c:UInt8}(hk:l[k]? =some c):∃h:k<s.size,s[k]'h=c:=by
 subst h
 have hl:=(List.getElem?_eq_some_iff.1 hk).1
 have h3:k<s.size:=by rw[←aP];exact hl
 have:=cR s k h3
 rw[this]at hk
 exact⟨h3,by simpa using hk⟩
theorem A0(s:ByteArray)(hs:s.size≤200)(bs rest:List UInt8)(hl:s.data.toList=34::(bs++34::rest))(hp:∀c∈bs,ec c=true)(ht:iK bs=true)(w:World)(hT:Tb w):
 Calls Tryz.prog 247 #[.string s] w fun e w'=>e= .returned (.tuple #[iZ 2 0 (bL bs) 0, .int .i64 (bs.length+2:Nat)])∧Below w.heap.size w w':=by
 obtain⟨i0,dF,dM,db,dL⟩:=info_parts GV
 have hlen:bs.length+2+rest.length=s.size:=by rw[←aP,hl];simp;omega
 have HBY:Hid (∀i c,bs[i]? =some c→∃h:i+1<s.size,s[i+1]'h=c):=(show∀i c,_→_ from fun i c h=>AZ hl (by
  rw[List.getElem?_cons_succ,List.getElem?_append_left (List.getElem?_eq_some_iff.1 h).1];exact h))
 have HEN:Hid (∃h:bs.length+1<s.size,s[bs.length+1]'h=34):=(show _ from AZ hl (by
  rw[List.getElem?_cons_succ,List.getElem?_append_right (Nat.le_refl _)];simp))
 have HP:=hD hp
 have HTX:Hid (eN (bL bs)):=(show _ from AX (by simpa [bL]using ht))
 have Xa:=hD hT
 have HX:Hid (∀W,Below w.heap.size w W→_):=(show∀W,_→_ from fun W hb=>xg (bL bs) HTX.out W (Xa.out.below hb))
 clear hl hp ht hT
 generalize hm:bs.length=m at*
 have HM:=hD hm;clear hm
 go_enter Tryz.func247,Tryz.ntmps247
 go_wp2_with fail
 go_loopg [4,5,14,15,27]m(fun g r4 r5 _ _ _ wr=>∃(i c1:Nat)(a1:Option Addr),i≤m∧g=m-i∧r5= .int .i64 ((i:Int)+1)∧r4= .slice a1 i c1∧Hid (aK (fun _=>False) (w.heap.size+1) 5 wr (.slice a1 i c1) (bs.take i))∧Hid (Bx w [XV] wr))
 case atStart=>exact⟨0,0,none,Nat.zero_le _,rfl,rfl,rfl,(show aK _ _ _ _ _ _ from aK.nil _ _ _ _),(show Bx _ _ _ from Bx.fA w _)⟩
 case round=>
  obtain⟨i,c1,a1,hi,rfl,rfl,rfl,HA,HB⟩:=hrel
  have cB:=HB.out.b8
  simp only[List.length_cons,List.length_nil]at cB
  have nP:Hid ((bs.take i).length=i):=(show _=_ by have:=HM.out;rw[List.length_take];omega)
  by_cases aT:i<m
  ·obtain⟨d,hd⟩:∃d,bs[i]? =some d:=⟨_,List.getElem?_eq_getElem (by rw[HM.out];exact aT)⟩
   obtain⟨aw,aM⟩:=HBY.out i d hd
   have nf:Hid (bs.take (i+1)=bs.take i++[d]):=(show _=_ by rw[List.take_add_one,hd];rfl)
   have gy:=HP.out d (List.mem_of_getElem? hd)
   have q1:∀h,s[i+1]'h=d:=fun _=>aM
   have e1:((d.toNat:Int)==34)=false:=by
    unfold ec at gy;simp at gy
    have h1:=gy.1
    have:d.toNat≠34:=fun h=>h1 (by rw[←UInt8.toNat_inj];simpa using h)
    simpa using by omega
   have e2:((d.toNat:Int)==92)=false:=by
    unfold ec at gy;simp at gy
    have h1:=gy.2
    have:d.toNat≠92:=fun h=>h1 (by rw[←UInt8.toNat_inj];simpa using h)
    simpa using by omega
   clear hd aM gy
   go_wp2_with(at_builtin
               refine aQ (α:=UInt8) rfl _ _ _ rfl (fun _=>False) (w.heap.size+1) 5 i0 _ 1 Tryz.underlying345 dF dM db dL rfl (by decide) (.slice a1 i c1) (bs.take i) rfl (HA.out.alloc _) (fun _=>True) _ [.int .u8 (d.toNat:Int)] d rfl (iw _ _ #[.int .u8 (d.toNat:Int)] _ 1 rfl rfl trivial) (show _=_ from rfl) (by rw[nP.out];unfold maxLen;omega) (by rw[nP.out];omega) (by simp;omega) ?_
               rw[nP.out,←nf.out]
               intro a2 c2 w2 bj dj aM
               have cw:=hD bj
               have bO:=hD aM
               clear bj dj aM)
   go_roundg(m-(i+1))
   case measure=>omega
   case rel=>
    exact⟨i+1,c2,a2,by omega,rfl,by go_num,rfl,cw,(show Bx _ _ _ from(HB.out.alloc _).cJ bO.out (by simp))⟩
  ·obtain rfl:i=m:=by omega
   obtain⟨aw,aM⟩:=HEN.out
   have q1:∀h,s[i+1]'h=34:=fun _=>aM
   clear aM
   have HS:Hid (ae (fun _=>False) wr (.slice a1 i c1) bs):=(show _ by
    have h1:=HA.out.slice (fun i h=>h.elim)
    rw[List.take_of_length_le (by rw[HM.out];omega)]at h1
    exact h1)
   have rH:=uu HS.out
   have oW:=hD (HX.out wr HB.out.1)
   go_wp2_with fail
   refine(oW.out).mono ?_
   rintro e w1⟨rfl,QZ⟩
   have aO:=hD (HB.out.below QZ)
   have qcp:=uu (HS.out.below QZ)
   obtain⟨g0,g1,g2,g3⟩:=ab (aO.out.bJ rfl)
   have f0:=aa (aO.out.bJ rfl) 0
   have f1:=aa (aO.out.bJ rfl) 1
   have f2:=aa (aO.out.bJ rfl) 2
   have f3:=aa (aO.out.bJ rfl) 3
   clear QZ rH
   go_wp2_with fail
   refine bodyPost_ret (v:= .tuple #[iZ 2 0 (bL bs) 0, .int .i64 ((i:Int)+1+1)]) (by simp[results,Tryz.results247,go_sem,iZ,g0,g1,g2,g3]) rfl ⟨by first|rfl|(congr 3;done)|(congr 3;omega),?_⟩
   exact(((aO.out.1.setCell (by simp) _).setCell (by simp) _).setCell (by simp) _).setCell (by simp) _
end Go.Proofs.YtlkjnefenialbaaGreatDoor
