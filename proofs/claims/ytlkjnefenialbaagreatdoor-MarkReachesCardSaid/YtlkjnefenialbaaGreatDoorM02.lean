/- What class.small, RightType, rightName, rightField, Field and Right answer; no condition beyond each theorem's own. -/
import Derived.Test.YtlkjnefenialbaaGreatDoorM01
import Derived.Test.YtlkjnefenialbaaGreatDoorProg
import Derived.Deep.DeepCutAuto
import Derived.Deep.CutBlock
import Derived.Deep.LoopGhost
import Derived.Deep.RegionWith
set_option linter.unusedVariables false
set_option linter.unusedSimpArgs false
set_option maxHeartbeats 8000000
set_option maxRecDepth 100000
namespace Go.Proofs.YtlkjnefenialbaaGreatDoor
open Go.RowKit
def dP(c:Int):Bool:=decide (97≤c∧c≤122)
theorem F5(c:Int)(w:World)(h0:0≤c)(h1:c≤255):
 Calls Tryz.prog 142 #[.int .u8 c] w fun e w'=>e= .returned (.bool (dP c))∧w=w':=by
 by_cases h2:97≤c
 ·by_cases h3:c≤122
  ·go_enter Tryz.func142,Tryz.ntmps142
   go_wp2
   go_ret
   exact⟨aN (by simp[dP,h2,h3]),rfl⟩
  ·go_enter Tryz.func142,Tryz.ntmps142
   go_wp2
   go_ret
   exact⟨aN (by simp[dP,h2];omega),rfl⟩
 ·go_enter Tryz.func142,Tryz.ntmps142
  go_wp2
  go_ret
  exact⟨aN (by simp[dP];omega),rfl⟩
theorem js(b:Bool)(c:Int)(w:World)(hb:dP c=b)(h0:0≤c)(h1:c≤255):
 Calls Tryz.prog 142 #[.int .u8 c] w fun e w'=>e= .returned (.bool b)∧w=w':=by subst hb;exact F5 c w h0 h1
def aV(c:Int):Bool:=dP c||decide (48≤c∧c≤57)||decide (c=95)
def ax(s:ByteArray):Bool:=decide (1≤s.size)&&decide (s.size≤20)&&(match s.data.toList with|[]=>false|c::r=>dP c.toNat&&(c::r).all fun c=>aV c.toNat)
def aB(t:aJ):Bool:=if t.kind=5 then decide (1≤t.of∧t.of≤4)else decide (1≤t.kind∧t.kind≤4∧t.of=0)
theorem og(t:aJ)(w:World):
 Calls Tryz.prog 143 #[.agg #[.int .i64 t.kind, .int .i64 t.of]] w fun e w'=>e= .returned (.bool (aB t))∧Below w.heap.size w w':=by
 obtain⟨k,o⟩:=t
 by_cases hk:k=5
 ·subst hk
  by_cases h1:1≤o
  ·go_enter Tryz.func143,Tryz.ntmps143
   go_wp2
   go_ret
   exact⟨aN (by simp[aB,h1]),(Below.refl _ _).alloc (Nat.le_refl _) _⟩
  ·go_enter Tryz.func143,Tryz.ntmps143
   go_wp2
   go_ret
   exact⟨aN (by simp[aB];omega),(Below.refl _ _).alloc (Nat.le_refl _) _⟩
 ·have R4:(k==5)=false:=by simpa using hk
  by_cases h1:1≤k
  ·by_cases h2:k≤4
   ·go_enter Tryz.func143,Tryz.ntmps143
    go_wp2
    go_ret
    exact⟨aN (by by_cases ho:o=0<;>simp[aB,hk,h1,h2,ho]),(Below.refl _ _).alloc (Nat.le_refl _) _⟩
   ·go_enter Tryz.func143,Tryz.ntmps143
    go_wp2
    go_ret
    exact⟨aN (by simp[aB,hk];omega),(Below.refl _ _).alloc (Nat.le_refl _) _⟩
  ·go_enter Tryz.func143,Tryz.ntmps143
   go_wp2
   go_ret
   exact⟨aN (by simp[aB,hk];omega),(Below.refl _ _).alloc (Nat.le_refl _) _⟩
theorem cR(s:ByteArray)(k:Nat)(h:k<s.size):s.data.toList[k]? =some s[k]:=by
 rw[List.getElem?_eq_getElem (by simpa using h)];rfl
theorem F6(s:ByteArray)(k:Nat)(h:k<s.size):s.data.toList.take (k+1)=s.data.toList.take k++[s[k]]:=by
 rw[List.take_add_one,cR s k h];rfl
theorem aP(s:ByteArray):s.data.toList.length=s.size:=by rw[Array.length_toList];rfl
theorem vP(s:ByteArray)(w:World)(hs:s.size≤maxLen):
 Calls Tryz.prog 123 #[.string s] w fun e w'=>e= .returned (.bool (ax s))∧w=w':=by
 unfold maxLen at hs
 by_cases h1:s.size<1
 ·go_enter Tryz.func123,Tryz.ntmps123
  go_wp2_with fail
  go_ret
  exact⟨aN (by simp[ax];omega),rfl⟩
 ·by_cases h2:20<s.size
  ·go_enter Tryz.func123,Tryz.ntmps123
   go_wp2_with fail
   go_ret
   exact⟨aN (by simp[ax];omega),rfl⟩
  ·obtain⟨c0,oN⟩:∃c,s[0]=c:=⟨_,rfl⟩
   have mw:(c0.toNat:Int)≤255:=by have:=c0.toNat_lt;omega
   obtain⟨r,hr⟩:∃r,s.data.toList=c0::r:=by
    have h:=cR s 0 (by omega)
    rw[oN]at h
    cases hl:s.data.toList with
    |nil=>rw[hl]at h;simp at h
    |cons a r=>rw[hl]at h;simp at h;exact⟨r,by rw[h]⟩
   have HR:=hD hr
   clear hr
   cases NK:dP c0.toNat
   ·have HS:=hD NK
    clear NK
    go_enter Tryz.func123,Tryz.ntmps123
    go_wp2_with fail
    refine(js false _ _ HS.out (by omega) mw).mono ?_
    rintro e w'⟨rfl,rfl⟩
    go_wp2_with fail
    go_ret
    exact⟨aN (by simp[ax,HR.out,HS.out]),rfl⟩
   ·have HS:=hD NK
    clear NK
    go_enter Tryz.func123,Tryz.ntmps123
    go_wp2_with fail
    refine(js true _ _ HS.out (by omega) mw).mono ?_
    rintro e w'⟨rfl,rfl⟩
    go_wp2_with fail
    clear oN
    go_loopg [3,20]s.size(fun g _ iv wr=>∃k:Nat,k≤s.size∧g=s.size-k∧iv= .int .i64 k∧Hid ((s.data.toList.take k).all (fun c=>aV c.toNat)=true)∧w=wr)
    case atStart=>exact⟨0,Nat.zero_le _,rfl,rfl,by exact(rfl:(s.data.toList.take 0).all (fun c=>aV c.toNat)=true),rfl⟩
    case round=>
     obtain⟨k,hk,rfl,rfl,HT,rfl⟩:=hrel
     by_cases aT:k<s.size
     ·obtain⟨c,hc⟩:∃c,s[k]=c:=⟨_,rfl⟩
      have zO:(c.toNat:Int)≤255:=by have:=c.toNat_lt;omega
      have nf:=hD (F6 s k aT)
      have OT:=hD hc
      have oW:=hD (cR s k aT)
      have X5:(k:Int)<s.size:=by omega
      have fin:aV c.toNat=true→(s.data.toList.take (k+1)).all (fun c=>aV c.toNat)=true:=fun h=>by
       rw[nf.out,List.all_append,HT.out,OT.out];simp[h]
      have kR:=hD fin
      clear fin
      cases NK:dP c.toNat
      ·have eB:=hD NK
       clear NK
       have NO:Hid (aV c.toNat=false→ax s=false):=by
        have h:aV c.toNat=false→ax s=false:=fun hn=>by
         have hm:c∈s.data.toList:=List.mem_of_getElem? (by rw[oW.out,OT.out])
         have ha:(s.data.toList.all fun c=>aV c.toNat)=false:=by
          rw[List.all_eq_false];exact⟨c,hm,by simp[hn]⟩
         unfold ax
         rw[HR.out]at ha⊢
         simp only[ha,Bool.and_false]
        exact h
       by_cases hu:(c.toNat:Int)=95
       ·have hub:((c.toNat:Int)!=95)=false:=by simpa using hu
        have Ql:¬(c.toNat:Int)<48:=by omega
        have R5:57<(c.toNat:Int):=by omega
        have HU:=hD hu
        clear hu
        go_wp2_with fail
        refine(js false _ _ eB.out (by omega) zO).mono ?_
        rintro e w'⟨rfl,rfl⟩
        go_wp2_with fail
        go_roundg(s.size-(k+1))
        case measure=>omega
        case rel=>exact⟨k+1,by omega,rfl,by go_num,kR.out (by simp[aV,HU.out]),rfl⟩
       ·have hub:((c.toNat:Int)!=95)=true:=by simpa using hu
        have HU:=hD hu
        clear hu
        by_cases Ql:(c.toNat:Int)<48
        ·have HN:Hid (aV c.toNat=false):=by
          have h:aV c.toNat=false:=by
           have:=HU.out
           simp only[aV,eB.out,Bool.false_or,Bool.or_eq_false_iff,decide_eq_false_iff_not];omega
          exact h
         go_wp2_with fail
         refine(js false _ _ eB.out (by omega) zO).mono ?_
         rintro e w'⟨rfl,rfl⟩
         go_wp2_with fail
         go_ret
         refine⟨aN ?_,rfl⟩
         rw[NO.out]
         exact HN.out
        ·by_cases R5:57<(c.toNat:Int)
         ·have HN:Hid (aV c.toNat=false):=by
           have h:aV c.toNat=false:=by
            have:=HU.out
            simp only[aV,eB.out,Bool.false_or,Bool.or_eq_false_iff,decide_eq_false_iff_not];omega
           exact h
          go_wp2_with fail
          refine(js false _ _ eB.out (by omega) zO).mono ?_
          rintro e w'⟨rfl,rfl⟩
          go_wp2_with fail
          go_ret
          refine⟨aN ?_,rfl⟩
          rw[NO.out]
          exact HN.out
         ·have HN:Hid (aV c.toNat=true):=by
           have h:aV c.toNat=true:=by
            simp only[aV,eB.out,Bool.false_or,Bool.or_eq_true,decide_eq_true_eq];omega
           exact h
          go_wp2_with fail
          refine(js false _ _ eB.out (by omega) zO).mono ?_
          rintro e w'⟨rfl,rfl⟩
          go_wp2_with fail
          go_roundg(s.size-(k+1))
          case measure=>omega
          case rel=>exact⟨k+1,by omega,rfl,by go_num,kR.out (HN.out),rfl⟩
      ·have eB:=hD NK
       clear NK
       go_wp2_with fail
       refine(js true _ _ eB.out (by omega) zO).mono ?_
       rintro e w'⟨rfl,rfl⟩
       go_wp2_with fail
       go_roundg(s.size-(k+1))
       case measure=>omega
       case rel=>exact⟨k+1,by omega,rfl,by go_num,kR.out (by simp[aV,eB.out]),rfl⟩
     ·go_wp2_with fail
      go_ret
      have h:=HT.out
      rw[List.take_of_length_le (by rw[aP];omega)]at h
      refine⟨aN ?_,rfl⟩
      simp only[ax,HR.out]at h⊢
      simp[h,HS.out];omega
def aY(f:ak):Bool:=ax f.name&&aB f.type&&(!f.indexed||decide (f.type.kind≤3))
theorem kZ(b:Bool)(t:aJ)(w:World)(hb:aB t=b):
 Calls Tryz.prog 143 #[.agg #[.int .i64 t.kind, .int .i64 t.of]] w fun e w'=>e= .returned (.bool b)∧Below w.heap.size w w':=by subst hb;exact og t w
theorem eC(b:Bool)(s:ByteArray)(w:World)(hb:ax s=b)(hs:s.size≤maxLen):
 Calls Tryz.prog 123 #[.string s] w fun e w'=>e= .returned (.bool b)∧w=w':=by subst hb;exact vP s w hs
theorem boxed {w W:World}{o:Obj}(h:Below (w.alloc o).heap.size (w.alloc o) W):W.heap[w.heap.size]? =some o:=(h.block w.heap.size (by simp)).trans (heap_alloc_new w o)
theorem aL {w W:World}{o:Obj}(h:Below (w.alloc o).heap.size (w.alloc o) W):Below w.heap.size w W:=((Below.refl _ w).alloc (Nat.le_refl _) o).trans (h.mono (by simp))
theorem af {W:World}{g:Nat}{c0 c1:Value}{t:TypeId}(h:W.heap[g]? =some (.cells #[c0,c1] t (0,0))):W.cell? ⟨g,0,none⟩=some c0∧W.cell? ⟨g,1,none⟩=some c1:=by simp[World.cell?,h]
theorem ab {W:World}{g:Nat}{c0 c1 c2 c3:Value}{t:TypeId}(h:W.heap[g]? =some (.cells #[c0,c1,c2,c3] t (0,0))):
 W.cell? ⟨g,0,none⟩=some c0∧W.cell? ⟨g,1,none⟩=some c1∧W.cell? ⟨g,2,none⟩=some c2∧W.cell? ⟨g,3,none⟩=some c3:=by simp[World.cell?,h]
theorem tt(f:ak)(w:World)(hs:f.name.size≤maxLen):
 Calls Tryz.prog 124 #[.agg #[.string f.name, .int .i64 f.type.kind, .int .i64 f.type.of, .bool f.indexed]] w fun e w'=>e= .returned (.bool (aY f))∧Below w.heap.size w w':=by
 obtain⟨name,⟨k,o⟩,ix⟩:=f
 have R6:=hD hs
 clear hs
 cases h1:ax name
 ·have H1:=hD h1
  clear h1
  go_enter Tryz.func124,Tryz.ntmps124
  go_wp2_with fail
  refine(eC false _ _ H1.out R6.out).mono ?_
  rintro e w'⟨rfl,rfl⟩
  go_wp2_with fail
  go_ret
  exact⟨aN (by simp[aY,H1.out]),(Below.refl _ _).alloc (Nat.le_refl _) _⟩
 ·cases h2:aB ⟨k,o⟩
  ·have H1:=hD h1
   have H2:=hD h2
   clear h1 h2
   go_enter Tryz.func124,Tryz.ntmps124
   go_wp2_with fail
   refine(eC true _ _ H1.out R6.out).mono ?_
   rintro e w'⟨rfl,rfl⟩
   go_wp2_with fail
   refine(kZ false ⟨k,o⟩ _ H2.out).mono ?_
   rintro e w1⟨rfl,aw⟩
   go_wp2_with fail
   go_ret
   exact⟨aN (by simp[aY,H1.out,H2.out]),aL aw⟩
  ·have H1:=hD h1
   have H2:=hD h2
   clear h1 h2
   cases ix
   ·go_enter Tryz.func124,Tryz.ntmps124
    go_wp2_with fail
    refine(eC true _ _ H1.out R6.out).mono ?_
    rintro e w'⟨rfl,rfl⟩
    go_wp2_with fail
    refine(kZ true ⟨k,o⟩ _ H2.out).mono ?_
    rintro e w1⟨rfl,aw⟩
    obtain⟨q0,q1,q2,q3⟩:=ab (boxed aw)
    have aO:=hD aw
    clear aw
    go_wp2_with fail
    go_ret
    exact⟨aN (by simp[aY,H1.out,H2.out]),aL aO.out⟩
   ·go_enter Tryz.func124,Tryz.ntmps124
    go_wp2_with fail
    refine(eC true _ _ H1.out R6.out).mono ?_
    rintro e w'⟨rfl,rfl⟩
    go_wp2_with fail
    refine(kZ true ⟨k,o⟩ _ H2.out).mono ?_
    rintro e w1⟨rfl,aw⟩
    obtain⟨q0,q1,q2,q3⟩:=ab (boxed aw)
    have aO:=hD aw
    clear aw
    go_wp2_with fail
    go_ret
    exact⟨aN (by simp[aY,H1.out,H2.out]),aL aO.out⟩
def bD(a b:ByteArray):Bool:=a.toList==b.toList
theorem Ab(f:ak)(name:ByteArray)(p:Nat)(w:World)(hp:w.cell? ⟨p,0,none⟩=some (.string name))(gy:p<w.heap.size):
 Calls Tryz.prog 145 #[.agg #[.string f.name, .int .i64 f.type.kind, .int .i64 f.type.of, .bool f.indexed], .pointer (some ⟨p,0,none⟩)] w fun e w'=>e= .returned (.bool (bD f.name name))∧Below w.heap.size w w':=by
 obtain⟨fn,⟨k,o⟩,ix⟩:=f
 have Wk:p≠w.heap.size:=by omega
 go_enter Tryz.func145,Tryz.ntmps145
 go_wp2
 go_ret
 exact⟨rfl,(Below.refl _ _).alloc (Nat.le_refl _) _⟩
def idxOf {α:Type}(p:α→Bool)(xs:List α):Int:=match xs.findIdx? p with|some i=>i|none=> -1
theorem idxOf_hit {α:Type}{p:α→Bool}{xs:List α}{k:Nat}{x:α}(h:∀y∈xs.take k,p y=false)(hx:xs[k]? =some x)(hp:p x=true):idxOf p xs=k:=by
 unfold idxOf
 have:xs.findIdx? p=some k:=by
  rw[List.findIdx?_eq_some_iff_getElem]
  have hk:k<xs.length:=(List.getElem?_eq_some_iff.1 hx).1
  refine⟨hk,by rw[(List.getElem?_eq_some_iff.1 hx).2];exact hp,fun j hj=> ?_⟩
  have:=h xs[j] (List.mem_take_iff_getElem.2 ⟨j,by omega,rfl⟩)
  simp[this]
 rw[this]
theorem jt {α:Type}{p:α→Bool}{xs:List α}(h:∀y∈xs,p y=false):idxOf p xs= -1:=by
 unfold idxOf
 rw[List.findIdx?_eq_none_iff.2 (fun x hx=>by simp[h x hx])]
theorem tu(M:Nat→Prop)(v:Value)(w:World)(xs:List ak)(name:ByteArray)(p:Nat)(h:ae M w v xs)(hp:w.cell? ⟨p,0,none⟩=some (.string name))(gy:p<w.heap.size):
 Calls Tryz.prog 144 #[v, .func (.func 145) #[] #[.pointer (some ⟨p,0,none⟩)]] w fun e w'=>e= .returned (.int .i64 (idxOf (fun f=>bD f.name name) xs))∧Below w.heap.size w w':=by
 obtain⟨a,bu,rfl,cq,hm,hc⟩:=h.open_
 have HC:=hD hc
 have HP:=hD hp
 clear hc h hp
 generalize hn:xs.length=n at*
 have HN:=hD hn
 clear hn
 go_enter Tryz.func144,Tryz.ntmps144
 go_wp2_with fail
 go_loopg [5,8]n(fun g _ iv wr=>∃k:Nat,k≤n∧g=n-k∧iv= .int .i64 k∧Hid (∀x∈xs.take k,bD x.name name=false)∧Hid (Below w.heap.size w wr))
 case atStart=>exact⟨0,Nat.zero_le _,rfl,rfl,by {have h:∀x∈xs.take 0,bD x.name name=false:=(by simp);exact h},by exact(Below.refl _ w)⟩
 case round=>
  obtain⟨k,hk,rfl,rfl,HT,HB⟩:=hrel
  by_cases aT:k<n
  ·obtain⟨b,off,rfl,xW,bZ,aC⟩:=HC.out (by omega)
   obtain⟨x,hx⟩:∃x,xs[k]? =some x:=⟨_,List.getElem?_eq_getElem (by rw[HN.out];exact aT)⟩
   obtain⟨cs,bw,bE⟩:=aC k x hx
   have lQ:∀(j:Nat)(u:Value),cs[j]? =some u→wr.cell? ⟨b,off+k*4+j,none⟩=some u:=fun j u hu=>(HB.out.cell (p:=⟨b,off+k*4+j,none⟩) bZ).trans (bE j u hu)
   have me:cs=[.string x.name, .int .i64 x.type.kind, .int .i64 x.type.of, .bool x.indexed]:=bw.1
   subst me
   have g0:wr.cell? ⟨b,off+k*4,none⟩=some (.string x.name):=lQ 0 _ rfl
   have g1:=lQ 1 _ rfl
   have g2:=lQ 2 _ rfl
   have g3:=lQ 3 _ rfl
   have aX:=Ab x name p wr ((HB.out.cell (p:=⟨p,0,none⟩) gy).trans HP.out) (Nat.lt_of_lt_of_le gy HB.out.size)
   have HX:=hD hx
   clear lQ aC bE bw hx
   cases hq:bD x.name name
   ·rw[hq]at aX
    have aS:=hD aX
    have HQ:=hD hq
    clear aX hq
    go_wp2_with fail
    refine aS.out.mono ?_
    rintro e w1⟨rfl,aw⟩
    have aO:Hid (Below w.heap.size w w1):=HB.out.trans (aw.mono HB.out.size)
    clear aw
    go_wp2_with fail
    go_roundg(n-(k+1))
    case measure=>omega
    case rel=>exact⟨k+1,by omega,rfl,by go_num,by {have h:∀y∈xs.take (k+1),bD y.name name=false:=fun y hy=>by {rw[List.take_add_one,HX.out]at hy;simp at hy;rcases hy with h|h;exact HT.out y h;subst h;exact HQ.out};exact h},aO⟩
   ·rw[hq]at aX
    have aS:=hD aX
    have HQ:=hD hq
    clear aX hq
    go_wp2_with fail
    refine aS.out.mono ?_
    rintro e w1⟨rfl,aw⟩
    have aO:Hid (Below w.heap.size w w1):=HB.out.trans (aw.mono HB.out.size)
    clear aw
    go_wp2_with fail
    go_ret
    exact⟨gD (idxOf_hit (p:=fun f=>bD f.name name) HT.out HX.out HQ.out).symm,aO.out⟩
  ·go_wp2_with fail
   go_ret
   have h:=HT.out
   rw[List.take_of_length_le (by rw[HN.out];omega)]at h
   exact⟨gD (jt (p:=fun f:ak=>bD f.name name) h).symm,HB.out⟩
theorem CK {M:Nat→Prop}{w:World}{v:Value}{c:ai}(h:bI M w v c):∃fv,v= .agg #[.string c.name,fv]∧ae M w fv c.fields∧c.name.size≤maxLen:=by
 obtain⟨cs,rfl,fv,rfl,h1,h2⟩:=h;exact⟨fv,rfl,h1,h2⟩
def fieldAt(c:ai)(name:ByteArray):Int:=idxOf (fun f:ak=>bD f.name name) c.fields
theorem pB {α:Type}(p:α→Bool)(xs:List α): -1≤idxOf p xs:=by unfold idxOf;split<;>omega
theorem tw {α:Type}(p:α→Bool)(xs:List α):idxOf p xs<xs.length∨idxOf p xs= -1:=by
 unfold idxOf
 cases h:xs.findIdx? p with
 |none=>exact .inr rfl
 |some i=>exact .inl (by have:=(List.findIdx?_eq_some_iff_getElem.1 h).1;simp;omega)
theorem F8(M:Nat→Prop)(v:Value)(w:World)(c:ai)(name:ByteArray)(h:bI M w v c):
 Calls Tryz.prog 125 #[v, .string name] w fun e w'=>e= .returned (.tuple #[.int .i64 (if fieldAt c name<0 then 0 else fieldAt c name), .bool (!decide (fieldAt c name<0))])∧Below w.heap.size w w':=by
 obtain⟨fv,rfl,hs,_⟩:=CK h
 obtain⟨a,cap,rfl,_⟩:=hs.open_
 obtain⟨u,hu⟩:∃u,u=(w.alloc (.cells #[.string c.name, .slice a c.fields.length cap] 91)).alloc (.cells #[.string name] 9):=⟨_,rfl⟩
 have X6:Below w.heap.size w u:=by rw[hu];exact((Below.refl _ _).alloc (Nat.le_refl _) _).alloc (by simp) _
 have X7:u.heap[w.heap.size+1]? =some (.cells #[.string name] 9 (0,0)):=by
  rw[hu]
  have:=heap_alloc_new (w.alloc (.cells #[.string c.name, .slice a c.fields.length cap] 91)) (.cells #[.string name] 9)
  simpa using this
 have aX:=tu M _ u c.fields name (w.heap.size+1) (hs.below X6) (by simp[World.cell?,X7]) ((Array.getElem?_eq_some_iff.1 X7).1)
 have e0:fieldAt c name=idxOf (fun f=>bD f.name name) c.fields:=rfl
 rw[←e0]at aX
 have aS:=hD aX
 have Wl:=hD X6
 rw[hu]at aS
 have HU:=hD hu
 clear aX X6 X7 hu e0 hs
 by_cases hn:fieldAt c name<0
 ·rw[if_pos hn,decide_eq_true hn]
  generalize fieldAt c name=at_ at*
  generalize c.fields.length=n at*
  go_enter Tryz.func125,Tryz.ntmps125
  go_wp2_with fail
  refine aS.out.mono ?_
  rintro e w1⟨rfl,aw⟩
  rw[←HU.out]at aw
  have aO:Hid (Below w.heap.size w w1):=Wl.out.trans (aw.mono Wl.out.size)
  clear aw
  go_wp2_with fail
  go_ret2
  exact⟨rfl,aO.out⟩
 ·rw[if_neg hn,decide_eq_false hn]
  generalize fieldAt c name=at_ at*
  generalize c.fields.length=n at*
  go_enter Tryz.func125,Tryz.ntmps125
  go_wp2_with fail
  refine aS.out.mono ?_
  rintro e w1⟨rfl,aw⟩
  rw[←HU.out]at aw
  have aO:Hid (Below w.heap.size w w1):=Wl.out.trans (aw.mono Wl.out.size)
  clear aw
  go_wp2_with fail
  go_ret2
  exact⟨rfl,aO.out⟩
def pC(c:ai)(k:Nat):Prop:=∀(j:Nat)(f:ak),j<k→c.fields[j]? =some f→aY f=true∧fieldAt c f.name=j
def aH(c:ai):Bool:=ax c.name&&decide (c.fields.length≤8)&&(List.range c.fields.length).all fun k=>match c.fields[k]? with|some f=>aY f&&decide (fieldAt c f.name=k)|none=>true
theorem aZ(c:ai):aH c=true↔ax c.name=true∧c.fields.length≤8∧pC c c.fields.length:=by
 unfold aH pC
 simp only[Bool.and_eq_true,decide_eq_true_eq,List.all_eq_true,List.mem_range,and_assoc]
 refine and_congr Iff.rfl (and_congr Iff.rfl ⟨fun h j f hj hf=> ?_,fun h j hj=> ?_⟩)
 ·have:=h j hj
  rw[hf]at this
  simpa using this
 ·cases hf:c.fields[j]? with
  |none=>rfl
  |some f=>simpa using h j f hj hf
theorem tx {c:ai}(h:ax c.name=false):aH c=false:=by
 cases h2:aH c;rfl;have:=((aZ c).1 h2).1;rw[h]at this;cases this
theorem tz {c:ai}(h:8<c.fields.length):aH c=false:=by
 cases h2:aH c;rfl;have:=((aZ c).1 h2).2.1;omega
theorem mA {c:ai}{k:Nat}{f:ak}(hf:c.fields[k]? =some f)(h:¬(aY f=true∧fieldAt c f.name=k)):aH c=false:=by
 cases h2:aH c;rfl;exact absurd (((aZ c).1 h2).2.2 k f (List.getElem?_eq_some_iff.1 hf).1 hf) h
theorem CL(c:ai)(s:ByteArray): -1≤fieldAt c s:=pB _ _
theorem tA(c:ai)(s:ByteArray):fieldAt c s<c.fields.length:=by
 rcases tw (fun f:ak=>bD f.name s) c.fields with h|h
 ·exact h
 ·unfold fieldAt;rw[h];omega
theorem rK {c:ai}{k:Nat}{f:ak}(hf:c.fields[k]? =some f):0≤fieldAt c f.name:=by
 unfold fieldAt idxOf
 cases h:c.fields.findIdx? (fun g=>bD g.name f.name)with
 |some i=>simp
 |none=>
  have:=List.findIdx?_eq_none_iff.1 h f (List.mem_of_getElem? hf)
  simp[bD]at this
theorem kx(M:Nat→Prop)(fv:Value)(w:World)(c:ai)(name:ByteArray)(at_:Int)(is:Bool)(h:ae M w fv c.fields)(hn:c.name.size≤maxLen)(ha:(if fieldAt c name<0 then 0 else fieldAt c name)=at_)(hi:(!decide (fieldAt c name<0))=is):
 Calls Tryz.prog 125 #[.agg #[.string c.name,fv], .string name] w fun e w'=>e= .returned (.tuple #[.int .i64 at_, .bool is])∧Below w.heap.size w w':=by
 subst ha hi
 exact F8 M _ w c name ⟨_,rfl,fv,rfl,h,hn⟩
theorem ki(b:Bool)(f:ak)(w:World)(hs:f.name.size≤maxLen)(hb:aY f=b):
 Calls Tryz.prog 124 #[.agg #[.string f.name, .int .i64 f.type.kind, .int .i64 f.type.of, .bool f.indexed]] w fun e w'=>e= .returned (.bool b)∧Below w.heap.size w w':=by subst hb;exact tt f w hs
theorem eY(M:Nat→Prop)(fv:Value)(w:World)(c:ai)(hs:ae M w fv c.fields)(mf:c.name.size≤maxLen):
 Calls Tryz.prog 95 #[.agg #[.string c.name,fv]] w fun e w'=>e= .returned (.bool (aH c))∧Below w.heap.size w w':=by
 have HS:=hD hs
 have su:=hD mf
 obtain⟨a,bu,rfl,cq,hm,hc⟩:=hs.open_
 have HC:=hD hc
 clear hc hs mf
 generalize hn:c.fields.length=n at*
 have HN:=hD hn
 clear hn
 cases h1:ax c.name
 ·have H1:=hD h1
  clear h1
  go_enter Tryz.func95,Tryz.ntmps95
  go_wp2_with fail
  refine(eC false _ _ H1.out su.out).mono ?_
  rintro e w'⟨rfl,rfl⟩
  go_wp2_with fail
  go_ret
  exact⟨aN (tx H1.out).symm,(Below.refl _ _).alloc (Nat.le_refl _) _⟩
 ·have H1:=hD h1
  clear h1
  by_cases h8:8<n
  ·go_enter Tryz.func95,Tryz.ntmps95
   go_wp2_with fail
   refine(eC true _ _ H1.out su.out).mono ?_
   rintro e w'⟨rfl,rfl⟩
   go_wp2_with fail
   go_ret
   exact⟨aN (tz (by rw[HN.out];exact h8)).symm,(Below.refl _ _).alloc (Nat.le_refl _) _⟩
  ·go_enter Tryz.func95,Tryz.ntmps95
   go_wp2_with fail
   refine(eC true _ _ H1.out su.out).mono ?_
   rintro e w'⟨rfl,rfl⟩
   go_wp2_with fail
   go_loopg [2,3,4,5,6,20]n(fun g r _ _ _ _ iv wr=>∃k:Nat,k≤n∧g=n-k∧iv= .int .i64 k∧r= .bool false∧Hid (pC c k)∧Hid (Below w.heap.size w wr)∧wr.heap[w.heap.size]? =some (.cells #[.string c.name, .slice a n bu] 91 (0,0)))
   case atStart=>exact⟨0,Nat.zero_le _,rfl,rfl,rfl,(fun j f h=>absurd h (Nat.not_lt_zero _)),by exact((Below.refl _ _).alloc (Nat.le_refl _) _),heap_alloc_new _ _⟩
   case round=>
    obtain⟨k,hk,rfl,rfl,rfl,HT,HB,oX⟩:=hrel
    have cB:w.heap.size<wr.heap.size:=(Array.getElem?_eq_some_iff.1 oX).1
    obtain⟨g0,g1⟩:=af oX
    have Il:=hD oX
    clear oX
    by_cases aT:k<n
    ·obtain⟨b,off,rfl,xW,bZ,aC⟩:=HC.out (by omega)
     obtain⟨x,hx⟩:∃x,c.fields[k]? =some x:=⟨_,List.getElem?_eq_getElem (by rw[HN.out];exact aT)⟩
     obtain⟨cs,bw,bE⟩:=aC k x hx
     have lQ:∀(j:Nat)(u:Value),cs[j]? =some u→wr.cell? ⟨b,off+k*4+j,none⟩=some u:=fun j u hu=>(HB.out.cell (p:=⟨b,off+k*4+j,none⟩) bZ).trans (bE j u hu)
     obtain⟨rfl,fH⟩:=bw
     have q0:wr.cell? ⟨b,off+k*4,none⟩=some (.string x.name):=lQ 0 _ rfl
     have q1:=lQ 1 _ rfl
     have q2:=lQ 2 _ rfl
     have q3:=lQ 3 _ rfl
     have HX:=hD hx
     have CA:=hD fH
     have zP:b≠w.heap.size:=by omega
     clear lQ aC bE hx fH
     have qb0:=CL c x.name
     have qb1:=tA c x.name
     have qb2:=rK HX.out
     have R7:¬fieldAt c x.name<0:=by omega
     have vF:Hid ((if fieldAt c x.name<0 then 0 else fieldAt c x.name)=fieldAt c x.name):=if_neg R7
     have OU:Hid ((!decide (fieldAt c x.name<0))=true):=(show(!decide (fieldAt c x.name<0))=true by rw[decide_eq_false R7];rfl)
     cases hr:aY x
     ·have HR:=hD hr
      clear hr
      go_wp2_with fail
      refine(ki false x _ CA.out HR.out).mono ?_
      rintro e w1⟨rfl,aw⟩
      have aO:=hD aw
      clear aw
      go_wp2_with fail
      go_ret
      exact⟨aN (mA HX.out (by rw[HR.out];simp)).symm,HB.out.trans ((aL aO.out).mono (by have:=HB.out.size;omega))⟩
     ·have HR:=hD hr
      clear hr
      by_cases hq:fieldAt c x.name=k
      ·have HQ:=hD hq
       clear hq
       go_wp2_with fail
       refine(ki true x _ CA.out HR.out).mono ?_
       rintro e w1⟨rfl,aw⟩
       have s1:w.heap.size<w1.heap.size:=by have:=aw.size;simp at this;omega
       obtain⟨p0,p1,p2,p3⟩:=ab (boxed aw)
       obtain⟨p4,p5⟩:=af ((aw.block w.heap.size (by simp;omega)).trans ((Below.heap_alloc wr _ w.heap.size (by omega)).trans Il.out))
       have aO:Hid (Below w.heap.size w w1):=HB.out.trans ((aL aw).mono (by have:=HB.out.size;omega))
       have cQ:Hid (w1.heap[w.heap.size]? =some (.cells #[.string c.name, .slice (some ⟨b,off,none⟩) n bu] 91 (0,0))):=((aw.block w.heap.size (by simp;omega)).trans ((Below.heap_alloc wr _ w.heap.size (by omega)).trans Il.out))
       have aX:=kx M _ w1 c x.name _ _ (HS.out.below aO.out) su.out vF.out OU.out
       have aS:=hD aX
       clear aw aX
       go_wp2_with fail
       refine aS.out.mono ?_
       rintro e w2⟨rfl,aM⟩
       have aA:=hD aM
       clear aM
       have hqb:((fieldAt c x.name)!=(k:Int))=false:=by simpa using HQ.out
       go_wp2_with fail
       go_roundg(n-(k+1))
       case measure=>omega
       case rel=>
        refine⟨k+1,by omega,rfl,by go_num,rfl,?_,?_,?_⟩
        ·have h:pC c (k+1):=fun j f hj hf=>by
          by_cases X8:j<k
          ·exact HT.out j f X8 hf
          ·obtain rfl:j=k:=by omega
           rw[HX.out]at hf;cases hf
           exact⟨HR.out,HQ.out⟩
         exact h
        ·have h:Below w.heap.size w w2:=aO.out.trans (aA.out.mono (by omega))
         exact h
        ·exact(aA.out.block _ s1).trans cQ.out
      ·have HQ:=hD hq
       have hqb:((fieldAt c x.name)!=(k:Int))=true:=by simpa using hq
       clear hq
       go_wp2_with fail
       refine(ki true x _ CA.out HR.out).mono ?_
       rintro e w1⟨rfl,aw⟩
       have s1:w.heap.size<w1.heap.size:=by have:=aw.size;simp at this;omega
       obtain⟨p0,p1,p2,p3⟩:=ab (boxed aw)
       obtain⟨p4,p5⟩:=af ((aw.block w.heap.size (by simp;omega)).trans ((Below.heap_alloc wr _ w.heap.size (by omega)).trans Il.out))
       have aO:Hid (Below w.heap.size w w1):=HB.out.trans ((aL aw).mono (by have:=HB.out.size;omega))
       have aX:=kx M _ w1 c x.name _ _ (HS.out.below aO.out) su.out vF.out OU.out
       have aS:=hD aX
       clear aw aX
       go_wp2_with fail
       refine aS.out.mono ?_
       rintro e w2⟨rfl,aM⟩
       have aA:=hD aM
       clear aM
       go_wp2_with fail
       go_ret
       exact⟨aN (mA HX.out (fun h=>HQ.out h.2)).symm,aO.out.trans (aA.out.mono (by omega))⟩
    ·go_wp2_with fail
     go_ret
     refine⟨aN ?_,HB.out⟩
     have Qm:k=n:=by omega
     exact((aZ c).2 ⟨H1.out,by rw[HN.out];omega,by rw[HN.out];have h:=HT.out;rw[Qm]at h;exact h⟩).symm
theorem MK {s:ByteArray}{k:Nat}{c:UInt8}(hc:s.data.toList[k]? =some c)(hn:aV c.toNat=false):ax s=false:=by
 have hm:c∈s.data.toList:=List.mem_of_getElem? hc
 have ha:(s.data.toList.all fun c=>aV c.toNat)=false:=by
  rw[List.all_eq_false];exact⟨c,hm,by simp[hn]⟩
 unfold ax
 cases hl:s.data.toList with
 |nil=>simp
 |cons a r=>rw[hl]at ha;simp only[ha,Bool.and_false]
theorem I3 {s:ByteArray}{c:UInt8}(hc:s.data.toList[0]? =some c)(hn:dP c.toNat=false):ax s=false:=by
 unfold ax
 cases hl:s.data.toList with
 |nil=>simp
 |cons a r=>rw[hl]at hc;simp at hc;subst hc;simp[hn]
theorem I4 {s:ByteArray}(h1:1≤s.size)(h2:s.size≤20)(ha:s.data.toList.all (fun c=>aV c.toNat)=true)(h0:∀c,s.data.toList[0]? =some c→dP c.toNat=true):ax s=true:=by
 unfold ax
 cases hl:s.data.toList with
 |nil=>have:=aP s;rw[hl]at this;simp at this;omega
 |cons a r=>
  rw[hl]at ha
  have:=h0 a (by rw[hl];rfl)
  simp only[ha,this,Bool.and_true,Bool.and_eq_true,decide_eq_true_eq]
  exact⟨h1,h2⟩
def qI(s:ByteArray)(k:Nat):Prop:=(s.data.toList.take k).all (fun c=>aV c.toNat)=true∧(0<k→∀c,s.data.toList[0]? =some c→dP c.toNat=true)
theorem qI.succ {s:ByteArray}{k:Nat}{c:UInt8}(h:qI s k)(hk:k<s.size)(hc:s.data.toList[k]? =some c)(hn:aV c.toNat=true)(h0:k=0→dP c.toNat=true):qI s (k+1):=by
 refine⟨?_,fun _ d hd=> ?_⟩
 ·rw[List.take_add_one,hc,List.all_append,h.1];simp[hn]
 ·by_cases R8:k=0
  ·subst R8;rw[hc]at hd;cases hd;exact h0 rfl
  ·exact h.2 (by omega) d hd
theorem Ac(s:ByteArray)(w:World)(hs:s.size≤maxLen):
 Calls Tryz.prog 136 #[.string s] w fun e w'=>e= .returned (.bool (ax s))∧w=w':=by
 unfold maxLen at hs
 by_cases h1:s.size<1
 ·go_enter Tryz.func136,Tryz.ntmps136
  go_wp2_with fail
  go_ret
  exact⟨aN (by simp[ax];omega),rfl⟩
 ·by_cases h2:20<s.size
  ·go_enter Tryz.func136,Tryz.ntmps136
   go_wp2_with fail
   go_ret
   exact⟨aN (by simp[ax];omega),rfl⟩
  ·go_enter Tryz.func136,Tryz.ntmps136
   go_wp2_with fail
   go_loopg [2,3,4,5]s.size(fun g r iv _ _ wr=>∃k:Nat,k≤s.size∧g=s.size-k∧iv= .int .i64 k∧r= .bool false∧Hid (qI s k)∧w=wr)
   case atStart=>exact⟨0,Nat.zero_le _,rfl,rfl,rfl,by {have h:qI s 0:=⟨rfl,fun h=>absurd h (Nat.lt_irrefl _)⟩;exact h},rfl⟩
   case round=>
    obtain⟨k,hk,rfl,rfl,rfl,HT,rfl⟩:=hrel
    by_cases aT:k<s.size
    ·obtain⟨c,hc⟩:∃c,s[k]=c:=⟨_,rfl⟩
     have zO:(c.toNat:Int)≤255:=by have:=c.toNat_lt;omega
     have oW:Hid (s.data.toList[k]? =some c):=(cR s k aT).trans (congrArg some hc)
     have X5:(k:Int)<s.size:=by omega
     by_cases hl:97≤(c.toNat:Int)∧(c.toNat:Int)≤122
     ·obtain⟨qt,sK⟩:=hl
      have HS:Hid (dP c.toNat=true):=(show dP c.toNat=true by simp[dP];omega)
      have a1:48≤(c.toNat:Int):=by omega
      have a2:¬(c.toNat:Int)≤57:=by omega
      have a3:((c.toNat:Int)==95)=false:=by simp;omega
      go_wp2_with fail
      go_roundg(s.size-(k+1))
      case measure=>omega
      case rel=>exact⟨k+1,by omega,rfl,by go_num,rfl,HT.out.succ aT oW.out (by simp[aV,HS.out]) (fun _=>HS.out),rfl⟩
     ·have HS:Hid (dP c.toNat=false):=(show dP c.toNat=false by simp[dP];omega)
      have b1:(decide (97≤(c.toNat:Int))&&decide ((c.toNat:Int)≤122))=false:=by simp;omega
      by_cases h0:k=0
      ·subst h0
       have HR:=hD (I3 oW.out HS.out)
       clear hl
       by_cases q1:97≤(c.toNat:Int)
       ·have q2:¬(c.toNat:Int)≤122:=by simp at b1;omega
        clear b1
        go_wp2_with fail
        all_goals(go_ret;exact⟨aN HR.out.symm,rfl⟩)
       ·clear b1
        go_wp2_with fail
        all_goals(go_ret;exact⟨aN HR.out.symm,rfl⟩)
      ·have R8:((k:Int)==0)=false:=by simp;omega
       have K0:=hD h0
       clear h0
       by_cases ho:(48≤(c.toNat:Int)∧(c.toNat:Int)≤57)∨(c.toNat:Int)=95
       ·have HN:Hid (aV c.toNat=true):=(show aV c.toNat=true by simp only[aV,HS.out,Bool.false_or,Bool.or_eq_true,decide_eq_true_eq];omega)
        have kR:Hid (qI s (k+1)):=HT.out.succ aT oW.out HN.out (fun h=>absurd h K0.out)
        have q1:¬97≤(c.toNat:Int):=by omega
        clear hl b1
        by_cases X9:(c.toNat:Int)=95
        ·have a1:48≤(c.toNat:Int):=by omega
         have a2:¬(c.toNat:Int)≤57:=by omega
         have a3:((c.toNat:Int)==95)=true:=by simpa using X9
         clear ho X9
         go_wp2_with fail
         go_roundg(s.size-(k+1))
         case measure=>omega
         case rel=>exact⟨k+1,by omega,rfl,by go_num,rfl,kR,rfl⟩
        ·have a1:48≤(c.toNat:Int):=by omega
         have a2:(c.toNat:Int)≤57:=by omega
         clear ho X9
         go_wp2_with fail
         go_roundg(s.size-(k+1))
         case measure=>omega
         case rel=>exact⟨k+1,by omega,rfl,by go_num,rfl,kR,rfl⟩
       ·have HN:Hid (aV c.toNat=false):=(show aV c.toNat=false by simp only[aV,HS.out,Bool.false_or,Bool.or_eq_false_iff,decide_eq_false_iff_not];omega)
        have HR:=hD (MK oW.out HN.out)
        have a3:((c.toNat:Int)==95)=false:=by simp;omega
        clear b1
        by_cases q1:97≤(c.toNat:Int)
        ·have q2:¬(c.toNat:Int)≤122:=by omega
         have a1:48≤(c.toNat:Int):=by omega
         have a2:¬(c.toNat:Int)≤57:=by omega
         clear ho hl
         go_wp2_with fail
         all_goals(go_ret;exact⟨aN HR.out.symm,rfl⟩)
        ·by_cases a1:48≤(c.toNat:Int)
         ·have a2:¬(c.toNat:Int)≤57:=by omega
          clear ho hl
          go_wp2_with fail
          all_goals(go_ret;exact⟨aN HR.out.symm,rfl⟩)
         ·clear ho hl
          go_wp2_with fail
          all_goals(go_ret;exact⟨aN HR.out.symm,rfl⟩)
    ·go_wp2_with fail
     go_ret
     have h:=HT.out
     have hk:k=s.size:=by omega
     refine⟨aN (I4 (by omega) (by omega) ?_ (h.2 (by omega))).symm,rfl⟩
     have h3:=h.1
     rw[List.take_of_length_le (by rw[aP];omega)]at h3
     exact h3
def fT(k:Int):Bool:=decide (1≤k∧k≤4)
theorem CM(k:Int)(w:World):Calls Tryz.prog 155 #[.int .i64 k] w fun e w'=>e= .returned (.bool (fT k))∧w=w':=by
 by_cases h1:1≤k
 ·by_cases h2:k≤4
  ·go_enter Tryz.func155,Tryz.ntmps155
   go_wp2
   go_ret
   exact⟨aN (by simp[fT,h1,h2]),rfl⟩
  ·go_enter Tryz.func155,Tryz.ntmps155
   go_wp2
   go_ret
   exact⟨aN (by simp[fT];omega),rfl⟩
 ·go_enter Tryz.func155,Tryz.ntmps155
  go_wp2
  go_ret
  exact⟨aN (by simp[fT];omega),rfl⟩
theorem il(b:Bool)(k:Int)(w:World)(hb:fT k=b):Calls Tryz.prog 155 #[.int .i64 k] w fun e w'=>e= .returned (.bool b)∧w=w':=by subst hb;exact CM k w
theorem qJ(t:aJ)(w:World):
 Calls Tryz.prog 137 #[.agg #[.int .i64 t.kind, .int .i64 t.of]] w fun e w'=>e= .returned (.bool (aB t))∧Below w.heap.size w w':=by
 obtain⟨k,o⟩:=t
 cases h1:fT k
 ·have H1:=hD h1
  clear h1
  by_cases hk:k=5
  ·have R4:(k==5)=true:=by simpa using hk
   have HK:=hD hk
   clear hk
   cases h2:fT o
   ·have H2:=hD h2
    clear h2
    go_enter Tryz.func137,Tryz.ntmps137
    go_wp2_with(first|(go_at_call 155;((with_reducible refine(il false k _ H1.out).mono ?_);rintro e w'⟨rfl,rfl⟩))|(go_at_call 155;((with_reducible refine(il false o _ H2.out).mono ?_);rintro e w'⟨rfl,rfl⟩)))
    go_ret
    refine⟨aN ?_,(Below.refl _ _).alloc (Nat.le_refl _) _⟩
    have h:=H2.out;have h3:=HK.out;subst h3;simp[aB,fT]at h⊢;exact h
   ·have H2:=hD h2
    clear h2
    go_enter Tryz.func137,Tryz.ntmps137
    go_wp2_with(first|(go_at_call 155;((with_reducible refine(il false k _ H1.out).mono ?_);rintro e w'⟨rfl,rfl⟩))|(go_at_call 155;((with_reducible refine(il true o _ H2.out).mono ?_);rintro e w'⟨rfl,rfl⟩)))
    go_ret
    refine⟨aN ?_,(Below.refl _ _).alloc (Nat.le_refl _) _⟩
    have h:=H2.out;have h3:=HK.out;subst h3;simp[aB,fT]at h⊢;exact h
  ·have R4:(k==5)=false:=by simpa using hk
   have HK:=hD hk
   clear hk
   go_enter Tryz.func137,Tryz.ntmps137
   go_wp2_with(go_at_call 155;((with_reducible refine(il false k _ H1.out).mono ?_);rintro e w'⟨rfl,rfl⟩))
   go_ret
   refine⟨aN ?_,(Below.refl _ _).alloc (Nat.le_refl _) _⟩
   have h:=H1.out
   simp[aB,fT,HK.out]at h⊢
   omega
 ·have H1:=hD h1
  clear h1
  have HK:Hid (k≠5):=(show k≠5 by have:=H1.out;simp[fT]at this;omega)
  have R4:(k==5)=false:=by simpa using HK.out
  by_cases ho:o=0
  ·have th:(o==0)=true:=by simpa using ho
   have HO:=hD ho
   clear ho
   go_enter Tryz.func137,Tryz.ntmps137
   go_wp2_with(go_at_call 155;((with_reducible refine(il true k _ H1.out).mono ?_);rintro e w'⟨rfl,rfl⟩))
   go_ret
   refine⟨aN ?_,(Below.refl _ _).alloc (Nat.le_refl _) _⟩
   have h:=H1.out
   simp[aB,fT,HK.out,HO.out]at h⊢
   exact h
  ·have th:(o==0)=false:=by simpa using ho
   have HO:=hD ho
   clear ho
   go_enter Tryz.func137,Tryz.ntmps137
   go_wp2_with(go_at_call 155;((with_reducible refine(il true k _ H1.out).mono ?_);rintro e w'⟨rfl,rfl⟩))
   go_ret
   refine⟨aN ?_,(Below.refl _ _).alloc (Nat.le_refl _) _⟩
   simp[aB,HK.out,HO.out]
theorem tB {a b:Int}{c d:Bool}(h:a=b)(k:c=d):Ending.returned (.tuple #[.int .i64 a, .bool c])= .returned (.tuple #[.int .i64 b, .bool d]):=by rw[h,k]
theorem yh(M:Nat→Prop)(fv:Value)(w:World)(c:ai)(name:ByteArray)(hs:ae M w fv c.fields)(at_:Int)(is:Bool)(HA:Hid ((if fieldAt c name<0 then 0 else fieldAt c name)=at_))(HI:Hid ((!decide (fieldAt c name<0))=is)):
 Calls Tryz.prog 60 #[.agg #[.string c.name,fv], .string name] w fun e w'=>e= .returned (.tuple #[.int .i64 at_, .bool is])∧Below w.heap.size w w':=by
 obtain⟨a,bu,rfl,cq,hm,hc⟩:=hs.open_
 have HC:=hD hc;clear hc
 clear hs
 generalize hn:c.fields.length=n at*
 have HN:=hD hn;clear hn
 go_enter Tryz.func60,Tryz.ntmps60
 go_wp2_with fail
 go_loopg [4,5,6]n(fun g r0 r1 iv wr=>∃k:Nat,k≤n∧g=n-k∧iv= .int .i64 k∧r0= .int .i64 0∧r1= .bool false∧Hid (∀x∈c.fields.take k,bD x.name name=false)∧wr=w.alloc (.cells #[.string c.name, .slice a n bu] 91))
 case atStart=>exact⟨0,Nat.zero_le _,rfl,rfl,rfl,rfl,by {have h:∀x∈c.fields.take 0,bD x.name name=false:=(by simp);exact h},rfl⟩
 case round=>
  obtain⟨k,hk,rfl,rfl,rfl,rfl,HT,rfl⟩:=hrel
  by_cases aT:k<n
  ·obtain⟨b,off,rfl,xW,bZ,aC⟩:=HC.out (by omega)
   obtain⟨x,hx⟩:∃x,c.fields[k]? =some x:=⟨_,List.getElem?_eq_getElem (by rw[HN.out];exact aT)⟩
   obtain⟨cs,⟨rfl,fH⟩,bE⟩:=aC k x hx
   have q0:w.cell? ⟨b,off+k*4,none⟩=some (.string x.name):=bE 0 _ rfl
   have zP:b≠w.heap.size:=by omega
   have HX:=hD hx;clear hx
   clear aC bE fH
   cases hq:bD x.name name
   ·have hq':(x.name.toList==name.toList)=false:=hq
    have HQ:=hD hq;clear hq
    go_wp2_with fail
    go_roundg(n-(k+1))
    case measure=>omega
    case rel=>exact⟨k+1,by omega,rfl,by go_num,rfl,rfl,by {have h:∀y∈c.fields.take (k+1),bD y.name name=false:=fun y hy=>by {rw[List.take_add_one,HX.out]at hy;simp at hy;rcases hy with h|h;exact HT.out y h;subst h;exact HQ.out};exact h},rfl⟩
   ·have hq':(x.name.toList==name.toList)=true:=hq
    have HJ:Hid (fieldAt c name=k):=idxOf_hit (p:=fun f:ak=>bD f.name name) HT.out HX.out hq
    clear hq
    go_wp2_with fail
    go_ret2
    exact⟨tB (by rw[←HA.out,HJ.out,if_neg (by omega)]) (by rw[←HI.out,HJ.out,decide_eq_false (by omega)];rfl),(Below.refl _ _).alloc (Nat.le_refl _) _⟩
  ·go_wp2_with fail
   go_ret2
   have h:=HT.out
   rw[List.take_of_length_le (by rw[HN.out];omega)]at h
   have e0:fieldAt c name= -1:=jt (p:=fun f:ak=>bD f.name name) h
   exact⟨tB (by rw[←HA.out,e0];rfl) (by rw[←HI.out,e0];rfl),(Below.refl _ _).alloc (Nat.le_refl _) _⟩
theorem jS(M:Nat→Prop)(fv:Value)(w:World)(c:ai)(name:ByteArray)(at_:Int)(is:Bool)(h:ae M w fv c.fields)(ha:(if fieldAt c name<0 then 0 else fieldAt c name)=at_)(hi:(!decide (fieldAt c name<0))=is):
 Calls Tryz.prog 60 #[.agg #[.string c.name,fv], .string name] w fun e w'=>e= .returned (.tuple #[.int .i64 at_, .bool is])∧Below w.heap.size w w':=by
 exact yh M _ w c name h at_ is ha hi
theorem eZ(b:Bool)(s:ByteArray)(w:World)(hb:ax s=b)(hs:s.size≤maxLen):
 Calls Tryz.prog 136 #[.string s] w fun e w'=>e= .returned (.bool b)∧w=w':=by subst hb;exact Ac s w hs
theorem lU(b:Bool)(t:aJ)(w:World)(hb:aB t=b):
 Calls Tryz.prog 137 #[.agg #[.int .i64 t.kind, .int .i64 t.of]] w fun e w'=>e= .returned (.bool b)∧Below w.heap.size w w':=by subst hb;exact qJ t w
theorem yj {α:Type}{p:α→Bool}{xs:List α}{k j:Nat}{y:α}(h:idxOf p xs=k)(hj:j<k)(hy:xs[j]? =some y):p y=false:=by
 unfold idxOf at h
 cases hf:xs.findIdx? p with
 |none=>rw[hf]at h;simp at h
 |some i=>
  rw[hf]at h
  have hi:i=k:=by simp at h;omega
  subst hi
  obtain⟨_,_,h3⟩:=List.findIdx?_eq_some_iff_getElem.1 hf
  have h4:=h3 j hj
  rw[(List.getElem?_eq_some_iff.1 hy).2]at h4
  simpa using h4
theorem jd(M:Nat→Prop)(fv:Value)(w:World)(c:ai)(hs:ae M w fv c.fields)(mf:c.name.size≤maxLen)(hr:aH c=true):
 Calls Tryz.prog 116 #[.agg #[.string c.name,fv]] w fun e w'=>e= .returned (.bool true)∧Below w.heap.size w w':=by
 obtain⟨h1,h8,ng⟩:=(aZ c).1 hr
 clear hr
 obtain⟨a,bu,rfl,cq,hm,hc⟩:=hs.open_
 clear hs
 have HC:=hD hc;clear hc;have su:=hD mf;clear mf;have H1:=hD h1;clear h1;have Qn:=hD ng;clear ng
 generalize hn:c.fields.length=n at*
 have HN:=hD hn;clear hn
 go_enter Tryz.func116,Tryz.ntmps116
 go_wp2_with fail
 refine(eZ true _ _ H1.out su.out).mono ?_
 rintro e w'⟨rfl,rfl⟩
 have B5:¬8<n:=by omega
 go_wp2_with fail
 go_loopg [2,3,4,5]n(fun g r iv _ _ wr=>∃k:Nat,k≤n∧g=n-k∧iv= .int .i64 k∧r= .bool false∧Hid (Below w.heap.size w wr)∧wr.heap[w.heap.size]? =some (.cells #[.string c.name, .slice a n bu] 91 (0,0)))
 case atStart=>exact⟨0,Nat.zero_le _,rfl,rfl,rfl,by exact((Below.refl _ _).alloc (Nat.le_refl _) _),heap_alloc_new _ _⟩
 case round=>
  obtain⟨k,hk,rfl,rfl,rfl,HB,oX⟩:=hrel
  obtain⟨wo,rfl⟩:∃wo:World,wo=wr:=⟨_,rfl⟩
  have cB:w.heap.size<wo.heap.size:=(Array.getElem?_eq_some_iff.1 oX).1
  obtain⟨g0,g1⟩:=af oX
  have Il:=hD oX;clear oX
  by_cases aT:k<n
  ·obtain⟨b,off,rfl,xW,bZ,aC⟩:=HC.out (by omega)
   obtain⟨x,hx⟩:∃x,c.fields[k]? =some x:=⟨_,List.getElem?_eq_getElem (by rw[HN.out];exact aT)⟩
   obtain⟨cs,bw,bE⟩:=aC k x hx
   have lQ:∀(j:Nat)(u:Value),cs[j]? =some u→wo.cell? ⟨b,off+k*4+j,none⟩=some u:=fun j u hu=>(HB.out.cell (p:=⟨b,off+k*4+j,none⟩) bZ).trans (bE j u hu)
   obtain⟨rfl,fH⟩:=bw
   have q0:wo.cell? ⟨b,off+k*4,none⟩=some (.string x.name):=lQ 0 _ rfl
   have q1:=lQ 1 _ rfl
   have q2:=lQ 2 _ rfl
   have q3:=lQ 3 _ rfl
   have zP:b≠w.heap.size:=by omega
   obtain⟨hrf,nJ⟩:=Qn.out k x (by omega) hx
   have Qo:=hrf
   unfold aY at Qo
   simp only[Bool.and_eq_true]at Qo
   obtain⟨⟨FN,xX⟩,OV⟩:=Qo
   have fx:=hD aC
   have HX:=hD hx;clear hx;have CA:=hD fH;clear fH;have vF:=hD nJ;clear nJ;have gZ:=hD FN;clear FN;have jN:=hD xX;clear xX
   clear lQ aC bE hrf
   obtain⟨xn,⟨xk,xo⟩,xi⟩:=x
   have OW:xi=false∨¬3<xk:=by simp at OV;rcases OV with h|h;exact .inl h;exact .inr (by omega)
   clear OV
   go_wp2_with fail
   refine(eZ true _ _ gZ.out CA.out).mono ?_
   rintro e w1⟨rfl,rfl⟩
   go_wp2_with fail
   refine(lU true ⟨xk,xo⟩ _ jN.out).mono ?_
   rintro e w1⟨rfl,aw⟩
   have s1:w.heap.size<w1.heap.size∧wo.heap.size<w1.heap.size:=by have:=aw.size;simp at this;omega
   obtain⟨s1,s2⟩:=s1
   have Ya:Hid (w1.heap[wo.heap.size]? =some (.cells #[.string xn, .int .i64 xk, .int .i64 xo, .bool xi] 151 (0,0))):=boxed aw
   obtain⟨p0,p1,p2,p3⟩:=ab Ya.out
   have cQ:Hid (w1.heap[w.heap.size]? =some (.cells #[.string c.name, .slice (some ⟨b,off,none⟩) n bu] 91 (0,0))):=((aw.block w.heap.size (by simp;omega)).trans ((Below.heap_alloc wo _ w.heap.size (by omega)).trans Il.out))
   obtain⟨p4,p5⟩:=af cQ.out
   have aO:Hid (Below w.heap.size w w1):=HB.out.trans ((aL aw).mono (by have:=HB.out.size;omega))
   clear aw
   rcases OW with rfl|OW
   all_goals try cases xi
   all_goals
    go_wp2_with fail
    go_loopg [2,5]k(fun g r jv wr=>∃j:Nat,j≤k∧g=k-j∧jv= .int .i64 j∧r= .bool false∧∃q,wr=w1.drewN q)
    case atStart=>exact⟨0,Nat.zero_le _,rfl,rfl,rfl,0,rfl⟩
    case round=>
     obtain⟨j,hj,rfl,rfl,rfl,q,rfl⟩:=hrel
     by_cases X8:j<k
     ·obtain⟨y,hy⟩:∃y,c.fields[j]? =some y:=⟨_,List.getElem?_eq_getElem (by rw[HN.out];omega)⟩
      obtain⟨cs,⟨rfl,_⟩,bE⟩:=fx.out j y hy
      have y0:w1.cell? ⟨b,off+j*4,none⟩=some (.string y.name):=(aO.out.cell (p:=⟨b,off+j*4,none⟩) bZ).trans (bE 0 _ rfl)
      have hyq:(y.name.toList==xn.toList)=false:=yj (p:=fun f:ak=>bD f.name xn) vF.out X8 hy
      clear bE hy
      have TB:(j:Int)<n:=by omega
      go_wp2_with fail
      go_quiet(fail)
      go_wp2_with fail
      go_roundg(k-(j+1))
      case measure=>omega
      case rel=>exact⟨j+1,by omega,rfl,by go_num,rfl,_,rfl⟩
     ·go_wp2_with fail
      go_roundg(n-(k+1))
      case measure=>omega
      case rel=>exact⟨k+1,by omega,rfl,by go_num,rfl,by {have h:Below w.heap.size w (w1.drewN q):=aO.out.trans ⟨rfl,rfl,rfl,Nat.le_refl _,fun _ _=>rfl⟩;exact h},cQ.out⟩
  ·go_wp2_with fail
   go_ret
   exact⟨rfl,HB.out⟩
def aD(c:Int)(n:Nat):Nat:=((if c<0 then-(c+1)else c)%n).toNat
theorem bU(c:Int)(n:Nat)(h:0<n):aD c n<n:=by
 unfold aD
 have h1:=Int.emod_lt_of_pos (if c<0 then-(c+1)else c) (b:=n) (by omega)
 have h2:=Int.emod_nonneg (if c<0 then-(c+1)else c) (b:=n) (by omega)
 omega
theorem dW(c:Int)(n:Int)(w:World)(hc:I6 c)(hn:1≤n)(wi:n≤1000000):
 Calls Tryz.prog 59 #[.int .i64 c, .int .i64 n] w fun e w'=>e= .returned (.int .i64 (aD c n.toNat))∧w=w':=by
 obtain⟨gz,qw⟩:=hc
 have e0:((aD c n.toNat:Nat):Int)=(if c<0 then-(c+1)else c)%n:=by
  unfold aD
  rw[Int.toNat_of_nonneg (a:=n) (by omega)]
  exact Int.toNat_of_nonneg (Int.emod_nonneg _ (by omega))
 by_cases h:c<0
 ·rw[if_pos h]at e0
  have E:=hD e0;clear e0
  go_enter Tryz.func59,Tryz.ntmps59
  go_wp2
  go_ret
  refine⟨gD ?_,rfl⟩
  rw[E.out,←Int.neg_tmod,Int.tmod_eq_emod_of_nonneg (by omega)]
 ·rw[if_neg h]at e0
  have E:=hD e0;clear e0
  go_enter Tryz.func59,Tryz.ntmps59
  go_wp2
  go_ret
  exact⟨gD E.out.symm,rfl⟩
theorem fY(c:Int)(n:Int)(w:World)(hc:I6 c)(hn:1≤n)(wi:n≤1000000):
 Calls Tryz.prog 89 #[.int .i64 c, .int .i64 n] w fun e w'=>e= .returned (.int .i64 (aD c n.toNat))∧w=w':=by
 obtain⟨gz,qw⟩:=hc
 have e0:((aD c n.toNat:Nat):Int)=(if c<0 then-(c+1)else c)%n:=by
  unfold aD
  rw[Int.toNat_of_nonneg (a:=n) (by omega)]
  exact Int.toNat_of_nonneg (Int.emod_nonneg _ (by omega))
 by_cases h:c<0
 ·rw[if_pos h]at e0
  have E:=hD e0;clear e0
  go_enter Tryz.func89,Tryz.ntmps89
  go_wp2
  go_ret
  refine⟨gD ?_,rfl⟩
  rw[E.out,←Int.neg_tmod,Int.tmod_eq_emod_of_nonneg (by omega)]
 ·rw[if_neg h]at e0
  have E:=hD e0;clear e0
  go_enter Tryz.func89,Tryz.ntmps89
  go_wp2
  go_ret
  exact⟨gD E.out.symm,rfl⟩
theorem jx(c:Int)(n:Int)(w:World)(hc:I6 c)(hn:1≤n)(wi:n≤1000000):
 Calls Tryz.prog 21 #[.int .i64 c, .int .i64 n] w fun e w'=>e= .returned (.int .i64 (aD c n.toNat))∧w=w':=by
 obtain⟨gz,qw⟩:=hc
 have e0:((aD c n.toNat:Nat):Int)=(if c<0 then-(c+1)else c)%n:=by
  unfold aD
  rw[Int.toNat_of_nonneg (a:=n) (by omega)]
  exact Int.toNat_of_nonneg (Int.emod_nonneg _ (by omega))
 by_cases h:c<0
 ·rw[if_pos h]at e0
  have E:=hD e0;clear e0
  go_enter Tryz.func21,Tryz.ntmps21
  go_wp2
  go_ret
  refine⟨gD ?_,rfl⟩
  rw[E.out,←Int.neg_tmod,Int.tmod_eq_emod_of_nonneg (by omega)]
 ·rw[if_neg h]at e0
  have E:=hD e0;clear e0
  go_enter Tryz.func21,Tryz.ntmps21
  go_wp2
  go_ret
  exact⟨gD E.out.symm,rfl⟩
theorem CY(c:Int)(n:Int)(w:World)(hc:I6 c)(hn:1≤n)(wi:n≤1000000):
 Calls Tryz.prog 14 #[.int .i64 c, .int .i64 n] w fun e w'=>e= .returned (.int .i64 (aD c n.toNat))∧w=w':=by
 obtain⟨gz,qw⟩:=hc
 have e0:((aD c n.toNat:Nat):Int)=(if c<0 then-(c+1)else c)%n:=by
  unfold aD
  rw[Int.toNat_of_nonneg (a:=n) (by omega)]
  exact Int.toNat_of_nonneg (Int.emod_nonneg _ (by omega))
 by_cases h:c<0
 ·rw[if_pos h]at e0
  have E:=hD e0;clear e0
  go_enter Tryz.func14,Tryz.ntmps14
  go_wp2
  go_ret
  refine⟨gD ?_,rfl⟩
  rw[E.out,←Int.neg_tmod,Int.tmod_eq_emod_of_nonneg (by omega)]
 ·rw[if_neg h]at e0
  have E:=hD e0;clear e0
  go_enter Tryz.func14,Tryz.ntmps14
  go_wp2
  go_ret
  exact⟨gD E.out.symm,rfl⟩
end Go.Proofs.YtlkjnefenialbaaGreatDoor
