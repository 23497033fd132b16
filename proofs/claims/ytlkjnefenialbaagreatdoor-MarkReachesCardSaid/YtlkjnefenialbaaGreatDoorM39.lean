/- Slices.Grow, slices.Concat, clone; no condition beyond each theorem's own. -/
import Derived.Test.YtlkjnefenialbaaGreatDoorM38
import Derived.Shelf.Spec.SlicesGrow
set_option linter.unusedVariables false
set_option linter.unusedSimpArgs false
set_option maxHeartbeats 8000000
set_option maxRecDepth 100000
namespace Go.Proofs.YtlkjnefenialbaaGreatDoor
open Go.RowKit Go.Shelf
theorem sd {α:Type}(ls:List (List α))(i:Nat):(ls.take i).flatten.length≤ls.flatten.length:=by
 conv=>rhs;rw[←List.take_append_drop i ls,List.flatten_append,List.length_append]
 omega
theorem fu {α:Type}{ls:List (List α)}{i:Nat}{l:List α}(h:ls[i]? =some l):(ls.take (i+1)).flatten=(ls.take i).flatten++l:=by
 rw[List.take_add_one,h];simp
theorem zg {M:Nat→Prop}{base:Nat}{e:TypeId}{w W:World}{α:Type} [az α]{v:Value}{xs:List α}(h:aK M base e W v xs)(Um:base=w.heap.size)(hb:Below w.heap.size w W):Ev M w (bc v M) W:=
 ⟨ag.aj hb,fun i hi=>by
   rcases hi with hi|hi
   ·exact .inl hi
   ·exact .inr (by rw[←Um];exact(h.dO i hi).1)⟩
def rA {α:Type} [az α](M:Nat→Prop)(w:World)(b:Nat)(rows:List Value)(ls:List (List α)):Prop:=
 rows.length=ls.length∧b<w.heap.size∧(∀i v,rows[i]? =some v→w.cell? ⟨b,i,none⟩=some v)∧∀(i:Nat)(v:Value)(l:List α),rows[i]? =some v→ls[i]? =some l→ae M w v l
theorem rA.get {α:Type} [az α]{M:Nat→Prop}{w:World}{b:Nat}{rows:List Value}{ls:List (List α)}(h:rA M w b rows ls){i:Nat}(hi:i<ls.length):
 ∃a c,∃l:List α,ls[i]? =some l∧ae M w (.slice a l.length c) l∧∀W,Below w.heap.size w W→W.cell? ⟨b,i,none⟩=some (.slice a l.length c):=by
 obtain⟨h1,h2,h3,h4⟩:=h
 obtain⟨l,hl⟩:∃l,ls[i]? =some l:=⟨_,List.getElem?_eq_getElem hi⟩
 obtain⟨v,hv⟩:∃v,rows[i]? =some v:=⟨_,List.getElem?_eq_getElem (by omega)⟩
 have hs:=h4 i v l hv hl
 obtain⟨a,c,rfl,_⟩:=hs.open_
 refine⟨a,c,l,hl,hs,fun W hb=> ?_⟩
 rw[hb.cell h2]
 exact h3 i _ hv
def gS:Go.Shelf.Ren:=⟨fun|4=>242|n=>n,fun|22=>89|25=>151|3=>3|4=>4|9=>9|20=>20|0=>0|n=>n,fun|n=>n⟩
theorem oH:Go.Proofs.Lays8.n4 Tryz.prog gS:={
 mixed:=by kernel_rfl
 f4:=⟨Tryz.f242.name,by decide,Tryz.func242.trans (congrArg some (by kernel_rfl))⟩
 t0:=Tryz.underlying0
 a0:=Tryz.isAgg0
 z0:=Tryz.sizeOf0
 v0:=Tryz.zeroValue0
 t3:=Tryz.underlying3
 a3:=Tryz.isAgg3
 z3:=Tryz.sizeOf3
 v3:=Tryz.zeroValue3
 t4:=Tryz.underlying4
 a4:=Tryz.isAgg4
 z4:=Tryz.sizeOf4
 v4:=Tryz.zeroValue4
 t9:=Tryz.underlying9
 a9:=Tryz.isAgg9
 z9:=Tryz.sizeOf9
 v9:=Tryz.zeroValue9
 t20:=Tryz.underlying20
 a20:=Tryz.isAgg20
 z20:=Tryz.sizeOf20
 v20:=Tryz.zeroValue20
 t22:=Tryz.underlying89
 a22:=Tryz.isAgg89
 z22:=Tryz.sizeOf89
 v22:=Tryz.zeroValue89}
theorem Ea:gS.f 4=242:=by kernel_rfl
theorem uP:gS.t 25=151:=by kernel_rfl
theorem zh(M:Nat→Prop)(n:Nat)(hn:n≤1000)(w:World):Calls Tryz.prog 242 #[.slice none 0 0, .int .i64 n] w (aF w fun v w'=>aK (α:=ak) M w.heap.size 151 w' v []):=by
 obtain⟨i0,dF,dM,db,dL⟩:=info_parts fZ
 rw[←Ea]
 by_cases h0:n=0
 ·subst h0
  refine(Any8.slices_Grow_room oH none 0 0 0 w (Nat.le_refl _) (by decide) (by decide) (Nat.le_refl _)).mono ?_
  rintro e w1⟨rfl,rfl⟩
  exact⟨_,rfl,aK.nil _ _ _ _,Below.refl _ _⟩
 ·refine(Any8.slices_Grow_grow oH i0 _ (by rw[uP];exact dF) dM (by rw[db];decide) none 0 0 n [] w (Nat.le_refl _) (by omega) (by rw[dL];omega) (by omega) (by simp) (fun _=>rfl) (fun a h=>by cases h)).mono ?_
  rintro e w1⟨rfl,rfl⟩
  rw[uP]
  refine⟨_,rfl,aK.made (w:=w.drew) M _ _ (Nat.le_refl _) (grownCap_le_maxLen w _ _ _ (by unfold maxLen;omega)) ?_,(Below.refl _ _).drew.alloc (Nat.le_refl _) _⟩
  have NT:=grownCap_ge w (0+n) 0 151
  simp only[Array.size_append,size_zeroCells]
  show 0+(0+n-0)*4+(grownCap w (0+n) 0 151-(0+n))*4=grownCap w (0+n) 0 151*4
  omega
theorem mU(M:Nat→Prop)(w:World)(hM:Bd M w)(b n:Nat)(rows:List Value)(ls:List (List ak))(h:rA M w b rows ls)(hn:ls.length=n)(hl:ls.flatten.length≤40)(h3:n≤3):
 Calls Tryz.prog 205 #[.slice (some ⟨b,0,none⟩) n n] w (aF w fun v w'=>ae M w' v ls.flatten):=by
 obtain⟨i0,dF,dM,db,dL⟩:=info_parts fZ
 have HG:=hD (zh M ls.flatten.length (by omega) w)
 have HR:=hD h
 have bZ:b<w.heap.size:=h.2.1
 have I1:=hD (fun i=>sd ls i)
 have dZ:=hD hn;clear hn
 clear h
 go_enter Tryz.func205,Tryz.ntmps205
 go_wp2_with fail
 obtain⟨LL,Rx⟩:∃L,L=ls.flatten.length:=⟨_,rfl⟩
 rw[←Rx]at hl HG
 have qz:=hD Rx
 clear Rx
 go_loopg [3,5,11]n(fun g r3 r5 iv wr=>∃i L:Nat,i≤n∧g=n-i∧iv= .int .i64 i∧r3= .int .i64 (L:Int)∧Hid (L=(ls.take i).flatten.length)∧w=wr)
 case atStart=>exact⟨0,0,Nat.zero_le _,rfl,rfl,rfl,(show _=_ by simp),rfl⟩
 case round=>
  obtain⟨i,L,hi,rfl,rfl,rfl,HL,rfl⟩:=hrel
  by_cases aT:i<n
  ·obtain⟨a,c,l,hx,aU,aC⟩:=HR.out.get (i:=i) (by rw[dZ.out];exact aT)
   have q0:=aC w (Below.refl _ _)
   obtain⟨m,hm⟩:∃m,m=l.length:=⟨_,rfl⟩
   have hk:L+m=(ls.take (i+1)).flatten.length:=by rw[fu hx,List.length_append,←HL.out,hm]
   have ni:L+m≤40:=by have:=I1.out (i+1);have:=qz.out;omega
   have HK:=hD hk
   rw[←hm]at q0
   clear hx aU aC hk hm
   go_wp2_with fail
   go_roundg(n-(i+1))
   case measure=>omega
   case rel=>exact⟨i+1,L+m,by omega,rfl,by go_num,by go_num,HK,rfl⟩
  ·have Xo:i=n:=by omega
   subst Xo
   obtain rfl:L=LL:=by rw[HL.out,qz.out,List.take_of_length_le (by rw[dZ.out];exact Nat.le_refl _)]
   go_wp2_with fail
   refine(HG.out).mono ?_
   rintro e w1⟨_,rfl,bn,aw⟩
   obtain⟨a0,c0,rfl,_⟩:=bn.open_
   have HA0:=hD bn
   have lR:=hD aw
   clear bn aw
   go_wp2_with fail
   go_loopg [6,8,27]i(fun g r6 r8 iv Vi=>∃(k c1 K:Nat)(a1:Option Addr),k≤i∧g=i-k∧iv= .int .i64 k∧r6= .slice a1 K c1∧Hid (K=(ls.take k).flatten.length)∧Hid (aK M w.heap.size 151 Vi (.slice a1 K c1) (ls.take k).flatten)∧Hid (Below w.heap.size w Vi))
   case atStart=>exact⟨0,c0,0,a0,Nat.zero_le _,rfl,rfl,rfl,(show _=_ by simp),HA0,lR⟩
   case round=>
    obtain⟨k,c1,K,a1,hk,rfl,rfl,rfl,HK,HA,HB⟩:=hrel
    by_cases LZ:k<i
    ·obtain⟨a,c,l,hx,aU,aC⟩:=HR.out.get (i:=k) (by rw[dZ.out];exact LZ)
     obtain⟨m,hm⟩:∃m,m=l.length:=⟨_,rfl⟩
     have vm:K+m=(ls.take (k+1)).flatten.length:=by rw[fu hx,List.length_append,←HK.out,hm]
     have ni:K+m≤40:=by have:=I1.out (k+1);have:=qz.out;omega
     have nf:=hD (fu hx)
     have q0:=aC _ HB.out
     have eM:=hD aU
     have Mv:=hD vm
     have OZ:=hD hm
     rw[←hm]at q0
     clear hx aU aC vm hm
     have Ry:Hid ((ls.take k).flatten.length=K):=(show _=_ from HK.out.symm)
     have Rz:Hid (l.length=m):=(show _=_ from OZ.out.symm)
     go_wp2_with(at_builtin
                 go_loud(refine cP (α:=ak) rfl _ _ _ rfl M w.heap.size 151 i0 _ 40 Tryz.underlying89 dF dM db dL rfl (by decide) (.slice a1 K c1) (ls.take k).flatten rfl HA.out (.slice a m c) l rfl (by rw[OZ.out];exact eM.out.ev (zg HA.out rfl HB.out)) (by rw[Ry.out,Rz.out];unfold maxLen;omega) (by rw[Ry.out,Rz.out];omega) HB.out.size ?_)
                 rw[Ry.out,Rz.out,←nf.out]
                 intro a2 c2 w2 bj dj aM
                 have cw:=hD bj
                 have bO:=hD (HB.out.trans aM)
                 clear bj dj aM)
     go_roundg(i-(k+1))
     case measure=>omega
     case rel=>exact⟨k+1,c2,K+m,a2,by omega,rfl,by go_num,rfl,Mv,cw,bO⟩
    ·go_wp2_with fail
     go_ret
     refine⟨_,rfl,?_,HB.out⟩
     have h1:=HA.out.slice hM
     rwa [List.take_of_length_le (by rw[dZ.out];omega)]at h1
def iV:Go.Shelf.Ren:=⟨fun|4=>243|n=>n,fun|22=>54|25=>134|3=>3|4=>4|9=>9|20=>20|0=>0|n=>n,fun|n=>n⟩
theorem se:Go.Proofs.Lays8.n4 Tryz.prog iV:={
 mixed:=by kernel_rfl
 f4:=⟨Tryz.f243.name,by decide,Tryz.func243.trans (congrArg some (by kernel_rfl))⟩
 t0:=Tryz.underlying0
 a0:=Tryz.isAgg0
 z0:=Tryz.sizeOf0
 v0:=Tryz.zeroValue0
 t3:=Tryz.underlying3
 a3:=Tryz.isAgg3
 z3:=Tryz.sizeOf3
 v3:=Tryz.zeroValue3
 t4:=Tryz.underlying4
 a4:=Tryz.isAgg4
 z4:=Tryz.sizeOf4
 v4:=Tryz.zeroValue4
 t9:=Tryz.underlying9
 a9:=Tryz.isAgg9
 z9:=Tryz.sizeOf9
 v9:=Tryz.zeroValue9
 t20:=Tryz.underlying20
 a20:=Tryz.isAgg20
 z20:=Tryz.sizeOf20
 v20:=Tryz.zeroValue20
 t22:=Tryz.underlying54
 a22:=Tryz.isAgg54
 z22:=Tryz.sizeOf54
 v22:=Tryz.zeroValue54}
theorem KF:iV.f 4=243:=by kernel_rfl
theorem BF:iV.t 25=134:=by kernel_rfl
theorem Eb(M:Nat→Prop)(n:Nat)(hn:n≤1000)(w:World):Calls Tryz.prog 243 #[.slice none 0 0, .int .i64 n] w (aF w fun v w'=>aK (α:=au) M w.heap.size 134 w' v []):=by
 obtain⟨i0,dF,dM,db,dL⟩:=info_parts fN
 rw[←KF]
 by_cases h0:n=0
 ·subst h0
  refine(Any8.slices_Grow_room se none 0 0 0 w (Nat.le_refl _) (by decide) (by decide) (Nat.le_refl _)).mono ?_
  rintro e w1⟨rfl,rfl⟩
  exact⟨_,rfl,aK.nil _ _ _ _,Below.refl _ _⟩
 ·refine(Any8.slices_Grow_grow se i0 _ (by rw[BF];exact dF) dM (by rw[db];decide) none 0 0 n [] w (Nat.le_refl _) (by omega) (by rw[dL];omega) (by omega) (by simp) (fun _=>rfl) (fun a h=>by cases h)).mono ?_
  rintro e w1⟨rfl,rfl⟩
  rw[BF]
  refine⟨_,rfl,aK.made (w:=w.drew) M _ _ (Nat.le_refl _) (grownCap_le_maxLen w _ _ _ (by unfold maxLen;omega)) ?_,(Below.refl _ _).drew.alloc (Nat.le_refl _) _⟩
  have NT:=grownCap_ge w (0+n) 0 134
  simp only[Array.size_append,size_zeroCells]
  show 0+(0+n-0)*4+(grownCap w (0+n) 0 134-(0+n))*4=grownCap w (0+n) 0 134*4
  omega
theorem ql(M:Nat→Prop)(w:World)(hM:Bd M w)(b n:Nat)(rows:List Value)(ls:List (List au))(h:rA M w b rows ls)(hn:ls.length=n)(hl:ls.flatten.length≤40)(h3:n≤3):
 Calls Tryz.prog 206 #[.slice (some ⟨b,0,none⟩) n n] w (aF w fun v w'=>ae M w' v ls.flatten):=by
 obtain⟨i0,dF,dM,db,dL⟩:=info_parts fN
 have HG:=hD (Eb M ls.flatten.length (by omega) w)
 have HR:=hD h
 have bZ:b<w.heap.size:=h.2.1
 have I1:=hD (fun i=>sd ls i)
 have dZ:=hD hn;clear hn
 clear h
 go_enter Tryz.func206,Tryz.ntmps206
 go_wp2_with fail
 obtain⟨LL,Rx⟩:∃L,L=ls.flatten.length:=⟨_,rfl⟩
 rw[←Rx]at hl HG
 have qz:=hD Rx
 clear Rx
 go_loopg [3,5,11]n(fun g r3 r5 iv wr=>∃i L:Nat,i≤n∧g=n-i∧iv= .int .i64 i∧r3= .int .i64 (L:Int)∧Hid (L=(ls.take i).flatten.length)∧w=wr)
 case atStart=>exact⟨0,0,Nat.zero_le _,rfl,rfl,rfl,(show _=_ by simp),rfl⟩
 case round=>
  obtain⟨i,L,hi,rfl,rfl,rfl,HL,rfl⟩:=hrel
  by_cases aT:i<n
  ·obtain⟨a,c,l,hx,aU,aC⟩:=HR.out.get (i:=i) (by rw[dZ.out];exact aT)
   have q0:=aC w (Below.refl _ _)
   obtain⟨m,hm⟩:∃m,m=l.length:=⟨_,rfl⟩
   have hk:L+m=(ls.take (i+1)).flatten.length:=by rw[fu hx,List.length_append,←HL.out,hm]
   have ni:L+m≤40:=by have:=I1.out (i+1);have:=qz.out;omega
   have HK:=hD hk
   rw[←hm]at q0
   clear hx aU aC hk hm
   go_wp2_with fail
   go_roundg(n-(i+1))
   case measure=>omega
   case rel=>exact⟨i+1,L+m,by omega,rfl,by go_num,by go_num,HK,rfl⟩
  ·have Xo:i=n:=by omega
   subst Xo
   obtain rfl:L=LL:=by rw[HL.out,qz.out,List.take_of_length_le (by rw[dZ.out];exact Nat.le_refl _)]
   go_wp2_with fail
   refine(HG.out).mono ?_
   rintro e w1⟨_,rfl,bn,aw⟩
   obtain⟨a0,c0,rfl,_⟩:=bn.open_
   have HA0:=hD bn
   have lR:=hD aw
   clear bn aw
   go_wp2_with fail
   go_loopg [6,8,27]i(fun g r6 r8 iv Vi=>∃(k c1 K:Nat)(a1:Option Addr),k≤i∧g=i-k∧iv= .int .i64 k∧r6= .slice a1 K c1∧Hid (K=(ls.take k).flatten.length)∧Hid (aK M w.heap.size 134 Vi (.slice a1 K c1) (ls.take k).flatten)∧Hid (Below w.heap.size w Vi))
   case atStart=>exact⟨0,c0,0,a0,Nat.zero_le _,rfl,rfl,rfl,(show _=_ by simp),HA0,lR⟩
   case round=>
    obtain⟨k,c1,K,a1,hk,rfl,rfl,rfl,HK,HA,HB⟩:=hrel
    by_cases LZ:k<i
    ·obtain⟨a,c,l,hx,aU,aC⟩:=HR.out.get (i:=k) (by rw[dZ.out];exact LZ)
     obtain⟨m,hm⟩:∃m,m=l.length:=⟨_,rfl⟩
     have vm:K+m=(ls.take (k+1)).flatten.length:=by rw[fu hx,List.length_append,←HK.out,hm]
     have ni:K+m≤40:=by have:=I1.out (k+1);have:=qz.out;omega
     have nf:=hD (fu hx)
     have q0:=aC _ HB.out
     have eM:=hD aU
     have Mv:=hD vm
     have OZ:=hD hm
     rw[←hm]at q0
     clear hx aU aC vm hm
     have Ry:Hid ((ls.take k).flatten.length=K):=(show _=_ from HK.out.symm)
     have Rz:Hid (l.length=m):=(show _=_ from OZ.out.symm)
     go_wp2_with(at_builtin
                 go_loud(refine cP (α:=au) rfl _ _ _ rfl M w.heap.size 134 i0 _ 56 Tryz.underlying54 dF dM db dL rfl (by decide) (.slice a1 K c1) (ls.take k).flatten rfl HA.out (.slice a m c) l rfl (by rw[OZ.out];exact eM.out.ev (zg HA.out rfl HB.out)) (by rw[Ry.out,Rz.out];unfold maxLen;omega) (by rw[Ry.out,Rz.out];omega) HB.out.size ?_)
                 rw[Ry.out,Rz.out,←nf.out]
                 intro a2 c2 w2 bj dj aM
                 have cw:=hD bj
                 have bO:=hD (HB.out.trans aM)
                 clear bj dj aM)
     go_roundg(i-(k+1))
     case measure=>omega
     case rel=>exact⟨k+1,c2,K+m,a2,by omega,rfl,by go_num,rfl,Mv,cw,bO⟩
    ·go_wp2_with fail
     go_ret
     refine⟨_,rfl,?_,HB.out⟩
     have h1:=HA.out.slice hM
     rwa [List.take_of_length_le (by rw[dZ.out];omega)]at h1
theorem vW {w:World}{g j:Nat}{cur:Array Value}{t:TypeId}{fr:Nat×Nat}(u:Value)(h:w.heap[g]? =some (.cells cur t fr)):(w.setCell ⟨g,j,none⟩ u).heap[g]? =some (.cells (cur.setIfInBounds j u) t fr):=by
 obtain⟨hl,h'⟩:=Array.getElem?_eq_some_iff.1 h
 show(w.heap.modify g _)[g]? =_
 rw[Array.getElem?_eq_getElem (by simpa using hl),Array.getElem_modify_self,h']
 rfl
theorem BG {w:World}{base:Nat}{e:TypeId}{size n cap g j:Nat}{xs:List Value}(h:w.ownsRow base e size (.slice (some ⟨g,0,none⟩) n cap) n xs)(u:Value):
 (w.setCell ⟨g,j,none⟩ u).ownsRow base e size (.slice (some ⟨g,0,none⟩) n cap) n (xs.set j u):=by
 obtain⟨h1,h2|⟨g',dE,cur,hv,hg,hh,hn,hm,hs,hx⟩⟩:=h
 ·cases h2.1
 ·obtain⟨rfl,rfl⟩:g=g'∧cap=dE:=by simpa using hv
  refine⟨by simpa using h1, .inr ⟨g,cap,_,rfl,hg,vW u hh,hn,hm,by simpa using hs,?_⟩⟩
  rw[←hx]
  simp[List.take_set]
theorem BH {css:List (List Value)}{size:Nat}(hs:∀(i:Nat)(cs:List Value),css[i]? =some cs→cs.length=size):∀(i j:Nat)(cs:List Value)(u:Value),css[i]? =some cs→j<size→css.flatten.set (i*size+j) u=(css.set i (cs.set j u)).flatten:=by
 induction css with
 |nil=>intro i j cs u h;simp at h
 |cons a r ih=>
  intro i j cs u hi hj
  have ha:a.length=size:=hs 0 a rfl
  cases i with
  |zero=>
   simp at hi;subst hi
   simp only[Nat.zero_mul,Nat.zero_add,List.flatten_cons,List.set_cons_zero]
   rw[List.set_append_left _ _ (by omega)]
  |succ i=>
   have Mn:r[i]? =some cs:=by simpa using hi
   have:=ih (fun k c hk=>hs (k+1) c (by simpa using hk)) i j cs u Mn hj
   simp only[List.flatten_cons,List.set_cons_succ]
   rw[List.set_append_right _ _ (by rw[ha,Nat.succ_mul];omega),ha,←this]
   congr 2
   rw[Nat.succ_mul];omega
theorem aK.cell {α:Type} [az α]{M:Nat→Prop}{base:Nat}{e:TypeId}{w:World}{g n cap:Nat}{xs:List α}(h:aK M base e w (.slice (some ⟨g,0,none⟩) n cap) xs){i j:Nat}{x y:α}(hx:xs[i]? =some x)(hj:j<az.size α)(u:Value)
 (hr:∀cs W,az.rep (bc (.slice (some ⟨g,0,none⟩) n cap) M) W cs x→Ev (bc (.slice (some ⟨g,0,none⟩) n cap) M) w (bc (.slice (some ⟨g,0,none⟩) n cap) M) W→az.rep (bc (.slice (some ⟨g,0,none⟩) n cap) M) W (cs.set j u) y):
 aK M base e (w.setCell ⟨g,i*az.size α+j,none⟩ u) (.slice (some ⟨g,0,none⟩) n cap) (xs.set i y):=by
 have hn:=h.open_
 obtain⟨_,_,hn,_⟩:=hn
 injection hn with _ hn _
 subst hn
 have hE:Ev (bc (.slice (some ⟨g,0,none⟩) xs.length cap) M) w (bc (.slice (some ⟨g,0,none⟩) xs.length cap) M) (w.setCell ⟨g,i*az.size α+j,none⟩ u):=(Ev.refl _ _).setCell (.inl (.inr rfl)) u
 obtain⟨css,h1,h2,h3⟩:=h
 have xY:=(List.getElem?_eq_some_iff.1 hx).1
 obtain⟨cs,bE⟩:∃cs,css[i]? =some cs:=⟨_,List.getElem?_eq_getElem (by omega)⟩
 have hlen:∀(k:Nat)(c:List Value),css[k]? =some c→c.length=az.size α:=fun k c hc=>by
  obtain⟨z,hz⟩:∃z,xs[k]? =some z:=⟨_,List.getElem?_eq_getElem (by rw[←h2];exact(List.getElem?_eq_some_iff.1 hc).1)⟩
  exact az.len (h3 k c z hc hz)
 refine⟨css.set i (cs.set j u),?_,by simpa using h2,fun k c z hc hz=> ?_⟩
 ·rw[←BH hlen i j cs u bE hj,List.length_set]
  exact BG h1 u
 ·by_cases hki:k=i
  ·subst hki
   rw[List.getElem?_set_self (by omega)]at hc hz
   obtain rfl:=Option.some.inj hc
   obtain rfl:=Option.some.inj hz
   exact hr _ _ (az.ev (h3 k cs x bE hx) hE) hE
  ·rw[List.getElem?_set_ne (by omega)]at hc hz
   exact az.ev (h3 k c z hc hz) hE
theorem iH(M:Nat→Prop)(w:World)(v:Value)(l:List ak)(h:ae M w v l)(hl:l.length≤40):
 Calls Tryz.prog 203 #[v] w (aF w fun v w'=>aK M w.heap.size 151 w' v l):=by
 obtain⟨i0,dF,dM,db,dL⟩:=info_parts fZ
 have HS:=hD h
 obtain⟨a,c,rfl,cq,po,ho⟩:=h.open_
 have HE:Hid (aK (α:=ak) M w.heap.size 151 (w.alloc (.cells #[] 151)) (.slice (some ⟨w.heap.size,0,none⟩) 0 0) []):=(show aK _ _ _ _ _ _ from aK.made M #[] 0 (Nat.le_refl _) (by unfold maxLen;omega) rfl)
 have q89:∀(w:World)(a:Option Addr)(n c n' c':Nat),(binOp .eql 89 (.slice a n c) (.slice none n' c')).run Tryz.prog w= .ok (.bool a.isNone) w:=fun w a n c n' c'=>Lib.run_eql_slice_nil w _ _ a n c n' c' Tryz.underlying89
 obtain⟨n,hn⟩:∃n,l.length=n:=⟨_,rfl⟩
 have HO:Hid (a=none→l=[]):=(show _→_ from fun ha=>by
  by_cases hp:0<l.length
  ·obtain⟨b,off,h1,_⟩:=ho hp
   rw[ha]at h1;cases h1
  ·exact List.length_eq_zero_iff.1 (by omega))
 rw[hn]at hl cq⊢
 have eB:Hid (ae M w (.slice a n c) l):=(show ae _ _ _ _ by rw[←hn];exact HS.out)
 have HN:=hD hn;clear hn
 clear h ho
 cases a with
 |none=>
  obtain rfl:=HO.out rfl
  go_enter Tryz.func203,Tryz.ntmps203
  go_wp2_with fail
  go_ret
  exact⟨_,rfl,aK.nil _ _ _ _,Below.refl _ _⟩
 |some adr=>
 go_enter Tryz.func203,Tryz.ntmps203
 go_wp2_with(at_builtin
             go_loud(refine cP (α:=ak) rfl _ _ _ rfl M w.heap.size 151 i0 _ 40 Tryz.underlying89 dF dM db dL rfl (by decide) (.slice (some ⟨w.heap.size,0,none⟩) 0 0) [] rfl HE.out (.slice (some adr) n c) l rfl (eB.out.ev (zg HE.out rfl ((Below.refl _ _).alloc (Nat.le_refl _) _))) (by rw[HN.out];simp;unfold maxLen;omega) (by rw[HN.out];simp;omega) (by simp) ?_)
             rw[HN.out]
             simp only[List.length_nil,Nat.zero_add,List.nil_append]
             intro a2 c2 w2 bj dj aM
             have cw:=hD bj
             have bO:Hid (Below w.heap.size w w2):=(show Below _ _ _ from((Below.refl _ _).alloc (Nat.le_refl _) _).trans aM)
             clear bj dj aM)
 go_ret
 exact⟨_,rfl,cw.out,bO.out⟩
def oI(nm:ByteArray)(fv:Value)(x:aq)(a:Int)(b:Bool)(g1 g2:Value):Obj:=
 .cells #[.string nm,fv, .int .i64 x.kind, .string x.field, .string x.name, .string x.more, .int .i64 x.type.kind, .int .i64 x.type.of, .string x.expr, .string x.other, .int .i64 a, .bool b,g1,g2] 250 (0,0)
structure Wf(W:World)(p:Nat)(nm:ByteArray)(fv:Value)(x:aq)(a:Int)(b:Bool)(g1 g2:Value):Prop where
 c0:W.cell? ⟨p,0,none⟩=some (.string nm)
 c1:W.cell? ⟨p,1,none⟩=some fv
 c2:W.cell? ⟨p,2,none⟩=some (.int .i64 x.kind)
 c3:W.cell? ⟨p,3,none⟩=some (.string x.field)
 c4:W.cell? ⟨p,4,none⟩=some (.string x.name)
 c5:W.cell? ⟨p,5,none⟩=some (.string x.more)
 c6:W.cell? ⟨p,6,none⟩=some (.int .i64 x.type.kind)
 c7:W.cell? ⟨p,7,none⟩=some (.int .i64 x.type.of)
 c8:W.cell? ⟨p,8,none⟩=some (.string x.expr)
 c9:W.cell? ⟨p,9,none⟩=some (.string x.other)
 ca:W.cell? ⟨p,10,none⟩=some (.int .i64 a)
 cb:W.cell? ⟨p,11,none⟩=some (.bool b)
 cc:W.cell? ⟨p,12,none⟩=some g1
 cd:W.cell? ⟨p,13,none⟩=some g2
theorem bV {W:World}{p:Nat}{nm:ByteArray}{fv:Value}{x:aq}{a:Int}{b:Bool}{g1 g2:Value}(h:W.heap[p]? =some (oI nm fv x a b g1 g2)):Wf W p nm fv x a b g1 g2:=by
 have g:∀(j:Nat)(u:Value),(#[.string nm,fv, .int .i64 x.kind, .string x.field, .string x.name, .string x.more, .int .i64 x.type.kind, .int .i64 x.type.of, .string x.expr, .string x.other, .int .i64 a, .bool b,g1,g2]:Array Value)[j]? =some u→W.cell? ⟨p,j,none⟩=some u:=fun j u hj=>by
  simp only[World.cell?,h,oI];exact hj
 exact⟨g 0 _ rfl,g 1 _ rfl,g 2 _ rfl,g 3 _ rfl,g 4 _ rfl,g 5 _ rfl,g 6 _ rfl,g 7 _ rfl,g 8 _ rfl,g 9 _ rfl,g 10 _ rfl,g 11 _ rfl,g 12 _ rfl,g 13 _ rfl⟩
theorem Wf.below {W W':World}{p:Nat}{nm:ByteArray}{fv:Value}{x:aq}{a:Int}{b:Bool}{g1 g2:Value}(h:Wf W p nm fv x a b g1 g2)(hp:p<W.heap.size)(hb:Below W.heap.size W W'):Wf W' p nm fv x a b g1 g2:=by
 have e:∀j,W'.cell? ⟨p,j,none⟩=W.cell? ⟨p,j,none⟩:=fun j=>hb.cell hp
 exact⟨(e _).trans h.c0,(e _).trans h.c1,(e _).trans h.c2,(e _).trans h.c3,(e _).trans h.c4,(e _).trans h.c5,(e _).trans h.c6,(e _).trans h.c7,(e _).trans h.c8,(e _).trans h.c9,(e _).trans h.ca,(e _).trans h.cb,(e _).trans h.cc,(e _).trans h.cd⟩
theorem rB {M:Nat→Prop}{base:Nat}{e:TypeId}{w:World}{a:Option Addr}{n cap:Nat}{xs:List ak}(h:aK M base e w (.slice a n cap) xs){i:Nat}{f:ak}(hx:xs[i]? =some f):
 ∃g,a=some ⟨g,0,none⟩∧base≤g∧g<w.heap.size∧(w.cell? ⟨g,i*4,none⟩=some (.string f.name)∧w.cell? ⟨g,i*4+1,none⟩=some (.int .i64 f.type.kind)∧w.cell? ⟨g,i*4+2,none⟩=some (.int .i64 f.type.of)∧w.cell? ⟨g,i*4+3,none⟩=some (.bool f.indexed))∧∀j,w.frozen? ⟨g,j,none⟩=false:=by
 obtain⟨css,h1,h2,h3⟩:=h
 have xY:=(List.getElem?_eq_some_iff.1 hx).1
 obtain⟨cs,bE⟩:∃cs,css[i]? =some cs:=⟨_,List.getElem?_eq_getElem (by omega)⟩
 have hlen:∀(k:Nat)(c:List Value),css[k]? =some c→c.length=4:=fun k c hc=>by
  obtain⟨z,hz⟩:∃z,xs[k]? =some z:=⟨_,List.getElem?_eq_getElem (by rw[←h2];exact(List.getElem?_eq_some_iff.1 hc).1)⟩
  exact az.len (h3 k c z hc hz)
 obtain⟨hl,hv|⟨g,dE,cur,hv,hg,hh,hn,hm,hs,CF⟩⟩:=h1
 ·have:=hv.2;omega
 ·injection hv with ha hn' hc'
  have F1:=(Array.getElem?_eq_some_iff.1 hh).1
  have G:∀(j:Nat)(u:Value),cs[j]? =some u→w.cell? ⟨g,i*4+j,none⟩=some u:=fun j u hj=>by
   have h4:=kY hlen i cs j u bE hj
   rw[←CF]at h4
   have h5:cur.toList[i*4+j]? =some u:=by
    rw[List.getElem?_take]at h4
    split at h4
    ·exact h4
    ·cases h4
   simp only[World.cell?,hh]
   simpa using h5
  have hr:=(h3 i cs f bE hx).1
  subst hr
  refine⟨g,ha,hg,F1,⟨G 0 _ rfl,G 1 _ rfl,G 2 _ rfl,G 3 _ rfl⟩,fun j=>aa hh j⟩
theorem ae.KG {α:Type} [az α]{M:Nat→Prop}{w:World}{v:Value}{xs:List α}(h:ae M w v xs):ae M w.drew v xs:=h.below (Below.refl _ _).drew
theorem Hr(M:Nat→Prop)(w:World)(hM:Bd M w)(c:ai)(fv:Value)(x:aq)(b:Bool)(g1 g2:Value)(p:Nat)(pre post:List ak)(f:ak)(ha:gi c x.field pre f post)(hk:x.kind=3)(xX:x.name.size≤maxLen)(h8:c.fields.length≤8)
 (hp:w.heap[p]? =some (oI c.name fv x pre.length b g1 g2))(bz:ae M w fv c.fields):
 Calls Tryz.prog 177 #[.pointer (some ⟨p,0,none⟩)] w (aF w fun v w'=>ae M w' v (bC c x).fields):=by
 have gy:p<w.heap.size:=(Array.getElem?_eq_some_iff.1 hp).1
 have HW:=hD (bV hp)
 have q1:=HW.out.c1
 have HC:=hD (iH M w fv c.fields bz (by omega))
 have nJ:c.fields[pre.length]? =some f:=by rw[ha.eq];simp
 have aT:pre.length<c.fields.length:=(List.getElem?_eq_some_iff.1 nJ).1
 have oZ:Hid ((bC c x).fields=c.fields.set pre.length ⟨x.name,f.type,f.indexed⟩):=(show _=_ by
  rw[ep ha (by omega),ha.eq];simp[gI,hk])
 have vF:=hD nJ
 have jN:Hid (x.name.size≤maxLen):=xX
 obtain⟨n,hn⟩:∃n,c.fields.length=n:=⟨_,rfl⟩
 obtain⟨i,hi⟩:∃i,pre.length=i:=⟨_,rfl⟩
 have HN:=hD hn
 rw[hi]at aT HW oZ vF
 rw[hn]at aT
 clear bz ha hp nJ
 go_enter Tryz.func177,Tryz.ntmps177
 go_wp2_with fail
 refine(HC.out).mono ?_
 rintro e w1⟨_,rfl,bn,hb⟩
 have HA:=hD bn
 obtain⟨a1,c1,rfl,cq,po⟩:=bn.open_
 obtain⟨g,rfl,hg,F1,⟨z0,z1,z2,z3⟩,kX⟩:=rB bn vF.out
 rw[hn]at HA cq⊢
 have HB:=hD hb
 have iI:=hD (HW.out.below gy hb)
 have q2:=iI.out.ca
 have q3:=iI.out.c4
 have f0:=kX (i*4)
 clear bn hb kX
 go_wp2_with fail
 go_region
 all_goals
  go_wp2_with fail
  go_ret
  refine⟨_,rfl,?_,(HB.out.setCell (p:=⟨g,i*4,none⟩) hg _).drew⟩
  rw[oZ.out]
  exact((aK.cell HA.out vF.out (j:=0) (by decide) _ (fun cs W hr _=>by obtain⟨rfl,_⟩:=hr;exact⟨rfl,jN.out⟩)).slice hM).KG
theorem Hs(M:Nat→Prop)(w:World)(hM:Bd M w)(c:ai)(fv:Value)(x:aq)(b:Bool)(g1 g2:Value)(p:Nat)(pre post:List ak)(f:ak)(ha:gi c x.field pre f post)(hk:x.kind=6)(h8:c.fields.length≤8)
 (hp:w.heap[p]? =some (oI c.name fv x pre.length b g1 g2))(bz:ae M w fv c.fields):
 Calls Tryz.prog 186 #[.pointer (some ⟨p,0,none⟩)] w (aF w fun v w'=>ae M w' v (bC c x).fields):=by
 have gy:p<w.heap.size:=(Array.getElem?_eq_some_iff.1 hp).1
 have HW:=hD (bV hp)
 have q1:=HW.out.c1
 have HC:=hD (iH M w fv c.fields bz (by omega))
 have nJ:c.fields[pre.length]? =some f:=by rw[ha.eq];simp
 have aT:pre.length<c.fields.length:=(List.getElem?_eq_some_iff.1 nJ).1
 have oZ:Hid ((bC c x).fields=c.fields.set pre.length ⟨f.name,f.type,!f.indexed⟩):=(show _=_ by
  rw[ep ha (by omega),ha.eq];simp[gI,hk])
 have vF:=hD nJ
 obtain⟨n,hn⟩:∃n,c.fields.length=n:=⟨_,rfl⟩
 obtain⟨i,hi⟩:∃i,pre.length=i:=⟨_,rfl⟩
 have HN:=hD hn
 rw[hi]at aT HW oZ vF
 rw[hn]at aT
 clear bz ha hp nJ
 go_enter Tryz.func186,Tryz.ntmps186
 go_wp2_with fail
 refine(HC.out).mono ?_
 rintro e w1⟨_,rfl,bn,hb⟩
 have HA:=hD bn
 obtain⟨a1,c1,rfl,cq,po⟩:=bn.open_
 obtain⟨g,rfl,hg,F1,⟨z0,z1,z2,z3⟩,kX⟩:=rB bn vF.out
 rw[hn]at HA cq⊢
 have HB:=hD hb
 have iI:=hD (HW.out.below gy hb)
 have q2:=iI.out.ca
 have f0:=kX (i*4+3)
 clear bn hb kX
 go_wp2_with fail
 go_region
 all_goals
  go_wp2_with fail
  go_ret
  refine⟨_,rfl,?_,(HB.out.setCell (p:=⟨g,i*4+3,none⟩) hg _).drew⟩
  rw[oZ.out]
  exact((aK.cell HA.out vF.out (j:=3) (by decide) _ (fun cs W hr _=>by obtain⟨rfl,hs⟩:=hr;exact⟨rfl,hs⟩)).slice hM).KG
theorem KH(M:Nat→Prop)(w:World)(hM:Bd M w)(c:ai)(fv:Value)(x:aq)(b:Bool)(g1 g2:Value)(p:Nat)(pre post:List ak)(f:ak)(ha:gi c x.field pre f post)(hk:x.kind=4)(h8:c.fields.length≤8)
 (hp:w.heap[p]? =some (oI c.name fv x pre.length b g1 g2))(bz:ae M w fv c.fields):
 Calls Tryz.prog 180 #[.pointer (some ⟨p,0,none⟩)] w (aF w fun v w'=>ae M w' v (bC c x).fields):=by
 have gy:p<w.heap.size:=(Array.getElem?_eq_some_iff.1 hp).1
 have HW:=hD (bV hp)
 have q1:=HW.out.c1
 have HC:=hD (iH M w fv c.fields bz (by omega))
 have nJ:c.fields[pre.length]? =some f:=by rw[ha.eq];simp
 have aT:pre.length<c.fields.length:=(List.getElem?_eq_some_iff.1 nJ).1
 have oZ:Hid ((bC c x).fields=c.fields.set pre.length ⟨f.name,x.type,false⟩):=(show _=_ by
  rw[ep ha (by omega),ha.eq];simp[gI,hk])
 have vF:=hD nJ
 obtain⟨n,hn⟩:∃n,c.fields.length=n:=⟨_,rfl⟩
 obtain⟨i,hi⟩:∃i,pre.length=i:=⟨_,rfl⟩
 have HN:=hD hn
 rw[hi]at aT HW oZ vF
 rw[hn]at aT
 clear bz ha hp nJ
 go_enter Tryz.func180,Tryz.ntmps180
 go_wp2_with fail
 refine(HC.out).mono ?_
 rintro e w1⟨_,rfl,bn,hb⟩
 have HA:=hD bn
 obtain⟨a1,c1,rfl,cq,po⟩:=bn.open_
 obtain⟨g,rfl,hg,F1,⟨z0,z1,z2,z3⟩,kX⟩:=rB bn vF.out
 rw[hn]at HA cq⊢
 have HB:=hD hb
 have iI:=hD (HW.out.below gy hb)
 have q2:=iI.out.ca
 have q3:=iI.out.c6
 have q4:=iI.out.c7
 have f0:=kX (i*4+1)
 have f1:=kX (i*4+2)
 have f2:=kX (i*4+3)
 clear bn hb kX
 go_wp2_with fail
 go_region
 all_goals
  go_wp2_with fail
  go_ret
  refine⟨_,rfl,?_,(((HB.out.setCell (p:=⟨g,i*4+1,none⟩) hg _).setCell (p:=⟨g,i*4+1+1,none⟩) hg _).setCell (p:=⟨g,i*4+3,none⟩) hg _).drew⟩
  rw[oZ.out]
  have yf:∀y:ak,(c.fields.set i y)[i]? =some y:=fun y=>List.getElem?_set_self (by rw[HN.out];exact aT)
  have A1:=aK.cell HA.out vF.out (j:=1) (by decide) (.int .i64 x.type.kind) (y:=⟨f.name,⟨x.type.kind,f.type.of⟩,f.indexed⟩) (fun cs W hr _=>by obtain⟨rfl,hs⟩:=hr;exact⟨rfl,hs⟩)
  have A2:=aK.cell A1 (yf _) (j:=2) (by decide) (.int .i64 x.type.of) (y:=⟨f.name,x.type,f.indexed⟩) (fun cs W hr _=>by obtain⟨rfl,hs⟩:=hr;exact⟨rfl,hs⟩)
  rw[List.set_set]at A2
  have A3:=aK.cell A2 (yf _) (j:=3) (by decide) (.bool false) (y:=⟨f.name,x.type,false⟩) (fun cs W hr _=>by obtain⟨rfl,hs⟩:=hr;exact⟨rfl,hs⟩)
  rw[List.set_set]at A3
  exact(A3.slice hM).KG
end Go.Proofs.YtlkjnefenialbaaGreatDoor
