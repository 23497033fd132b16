/- What ValsOf, field and ExprOf answer; no condition beyond each theorem's own. -/
import Derived.Test.YtlkjnefenialbaaGreatDoorM06
import Derived.Deep.RegionLaw
set_option linter.unusedVariables false
set_option linter.unusedSimpArgs false
set_option maxHeartbeats 8000000
set_option maxRecDepth 100000
namespace Go.Proofs.YtlkjnefenialbaaGreatDoor
open Go.RowKit
def C2(M:Nat→Prop)(w:World)(of many:Int)(i:Nat)(wr:World):Prop:=
 ∃(a:Option Addr)(c:Nat)(xs:List au),xs.length=i∧(∀x∈xs,kj of many x)∧aK (fun i=>M i∨(w.heap.size≤i∧i<w.heap.size+4)) (w.heap.size+4) 134 wr (.slice a i c) xs∧Below w.heap.size w wr∧w.heap.size+4≤wr.heap.size∧
  wr.heap[w.heap.size]? =some (.cells #[.int .i64 5, .int .i64 of] 140 (0,0))∧wr.heap[w.heap.size+1]? =some (.cells #[.int .i64 0, .int .i64 0, .string ⟨#[]⟩, .slice none 0 0] 134 (0,0))∧
  wr.heap[w.heap.size+1+1+1]? =some (.cells #[.int .i64 5, .int .i64 0, .string ⟨#[]⟩, .slice a i c] 134 (0,0))
theorem mE {W:World}{a:Addr}{v:Value}(h:W.cell? a=some v):a.block<W.heap.size:=by
 unfold World.cell? at h
 rcases Nat.lt_or_ge a.block W.heap.size with aT|NT
 ·exact aT
 ·rw[Array.getElem?_eq_none NT]at h;cases h
theorem bF(W:World)(o:Obj)(p:Addr){v:Value}(h:W.cell? p=some v):(W.alloc o).cell? p=some v:=
 (World.cell?_of_block (w:=W) (Below.heap_alloc W o p.block (mE h))).trans h
theorem Gn(x:Int):I6 (wrap64 x):=by
 have h:=wrap64_wf x
 unfold I6
 simpa [Lit.wf,IntKind.min,IntKind.max,IntKind.signed,IntKind.bits]using h
theorem S4 {n:Int}(h:I6 n): -2305843009213693952≤n.tdiv 4∧n.tdiv 4≤2305843009213693952:=by
 obtain⟨h1,h2⟩:=h
 rcases Int.lt_or_le n 0 with h|h
 ·have e:n.tdiv 4= -((-n)/4):=by
   have h3:(-n).tdiv 4=(-n)/4:=Int.tdiv_eq_ediv_of_nonneg (by omega)
   rw[Int.neg_tdiv]at h3;omega
  rw[e];omega
 ·rw[Int.tdiv_eq_ediv_of_nonneg h];omega
theorem C3(M:Nat→Prop)(w:World)(hM:Bd M w)(of n many:Int)(ni:1≤of)(vm:of≤4)(hn:I6 n)(zA:many≤1000):
 Calls Tryz.prog 64 #[.agg #[.int .i64 5, .int .i64 of], .int .i64 n, .int .i64 many] w (aF w fun v w'=>∃x,cX ⟨5,of⟩ many x∧bI M w' v x):=by
 obtain⟨i0,dF,dM,db,dL⟩:=info_parts fN
 obtain⟨Ql,R5⟩:=S4 hn
 obtain⟨Ln,hnu⟩:=hn
 have HI:Hid (I6 n):=(show I6 n from⟨Ln,hnu⟩)
 have hp4:=bU n 4 (by omega)
 have IS:Hid (∀i,(M i∨(w.heap.size≤i∧i<w.heap.size+4))→i<w.heap.size+4):=(show∀i,_→_ from fun i h=>by rcases h with h|h;have:=hM i h;omega;omega)
 go_enter Tryz.func64,Tryz.ntmps64
 go_wp2_with fail
 obtain⟨p,hp⟩:∃p:Nat,p=aD n 4:=⟨_,rfl⟩
 rw[←hp]at hp4
 have HP:=hD hp;clear hp
 go_loopg [9]p(fun g iv wr=>∃i:Nat,i≤p∧g=p-i∧iv= .int .i64 i∧Hid (C2 M w of many i wr))
 case atStart=>
  refine⟨0,Nat.zero_le _,rfl,rfl,?_⟩
  obtain⟨b0,b1,b2,b3,hz,hb⟩:=OE (w:=w) (o0:= .cells #[.int .i64 5, .int .i64 of] 140) (o1:= .cells #[.int .i64 0, .int .i64 0, .string ⟨#[]⟩, .slice none 0 0] 134) (o2:= .cells #[.string ⟨#[]⟩, .string ⟨#[97]⟩, .string ⟨#[98,99]⟩, .string ⟨#[195,169,116,195,169]⟩, .string ⟨#[97,32,98]⟩, .string ⟨#[122,122,32,116,111,112]⟩, .string ⟨#[48]⟩, .string ⟨#[45,55]⟩] 9) (o3:= .cells #[.int .i64 5, .int .i64 0, .string ⟨#[]⟩, .slice none 0 0] 134) rfl
  exact(show C2 M w of many 0 _ from⟨none,0,[],rfl,fun x h=>(by cases h),aK.nil _ _ _ _,hb,by rw[hz];omega,b0,b1,b3⟩)
 case round=>
  obtain⟨i,hi,rfl,rfl,HL⟩:=hrel
  obtain⟨a',c',xs,qx,hxo,bn,sN,cB,mw,aw,bP⟩:=HL.out
  obtain⟨t0,t1⟩:=af mw
  obtain⟨r0,r1,r2,r3⟩:=ab aw
  obtain⟨v0,v1,v2,v3⟩:=ab bP
  have f0:=aa aw 0
  have f1:=aa aw 1
  have f2:=aa aw 2
  have f3:=aa aw 3
  have TX:=hD qx;clear qx;have HXO:=hD hxo;clear hxo;have HA:=hD bn;clear bn;have NZ:=hD sN;clear sN;have lR:=hD mw;clear mw;have aO:=hD aw;clear aw;have bO:=hD bP;clear bP
  by_cases aT:i<p
  ·go_upto_region 16 with(go_at_call 59;refine(dW _ _ _ HI.out (by omega) (by omega)).mono ?_;rintro e w'⟨rfl,rfl⟩;rw[show aD n (4:Int).toNat=p from HP.out.symm])
   have z1:IntKind.i64.wrap (n.tdiv 4)=n.tdiv 4:=IntWalk.i64_in _ (by omega)
   have z2:IntKind.i64.wrap (n.tdiv 4+(i:Int))=n.tdiv 4+(i:Int):=IntWalk.i64_in _ (by omega)
   have mi:Hid (I6 (n.tdiv 4+(i:Int))):=(show I6 _ from⟨by omega,by omega⟩)
   go_region_law(first
    |(go_simp;go_at_call 64
      refine(wN (bc (.slice a' i c') (fun i=>M i∨(w.heap.size≤i∧i<w.heap.size+4))) _ of 0 _ many ni vm mi.out zA).mono ?_
      rintro e w1⟨_,rfl,⟨⟨yk,yn,ys,yl⟩,hy,cs,rfl,bw⟩,aw⟩
      obtain⟨av,rfl,aU,iD⟩:=eV.iff.1 bw
      obtain⟨ya,yc,rfl,_⟩:=aU.open_
      have iI:Hid (Below wr.heap.size wr w1):=((Below.refl _ wr).drew.trans aw)
      have eR:=hD bw
      have HY:=hD hy
      have s1:=aw.size
      simp at s1
      have k3:w1.cell? ⟨w.heap.size+1+1+1,3,none⟩=some (.slice a' i c'):=(iI.out.cell (p:=⟨w.heap.size+1+1+1,3,none⟩) (by simp;omega)).trans v3
      have k1:w1.cell? ⟨w.heap.size,1,none⟩=some (.int .i64 of):=(iI.out.cell (p:=⟨w.heap.size,1,none⟩) (by simp;omega)).trans t1
      have n3:∀o,(w1.alloc o).cell? ⟨w.heap.size+1+1+1,3,none⟩=some (.slice a' i c'):=fun o=>bF _ _ _ k3
      have n0:∀o,(w1.alloc o).cell? ⟨w.heap.size,1,none⟩=some (.int .i64 of):=fun o=>bF _ _ _ k1
      clear aw bw aU iD hy)
    |(refine dr (α:=au) rfl _ _ _ rfl (fun i=>M i∨(w.heap.size≤i∧i<w.heap.size+4)) (w.heap.size+4) 134 i0 _ 56 Tryz.underlying54 dF dM db dL rfl (by decide) (.slice a' i c') xs rfl ((HA.out.below iI.out).alloc _) (fun _=>True) _ _ (.mk yk yn ys yl) rfl (ct _ _ _ _ rfl trivial) (az.ev eR.out (Ev.aj ((Below.refl _ _).alloc (Nat.le_refl _) _))) (by rw[TX.out];unfold maxLen;omega) (by rw[TX.out];omega) (by simp;omega) ?_
      rw[TX.out]
      intro a2 c2 w2 bj dj aM
      have cw:=hD bj
      have l3:w2.cell? ⟨w.heap.size+1+1+1,3,none⟩=some (.slice a' i c'):=(aM.cell (p:=⟨w.heap.size+1+1+1,3,none⟩) (by simp)).trans (bF _ _ _ k3)
      have l1:w2.cell? ⟨w.heap.size,1,none⟩=some (.int .i64 of):=(aM.cell (p:=⟨w.heap.size,1,none⟩) (by simp)).trans (bF _ _ _ k1)
      have l4:w2.frozen? ⟨w.heap.size+1+1+1,3,none⟩=false:=(aM.frozen (p:=⟨w.heap.size+1+1+1,3,none⟩) (by simp)).trans ((((Below.refl _ _).alloc (Nat.le_refl _) _).frozen (p:=⟨w.heap.size+1+1+1,3,none⟩) (by simp;omega)).trans ((iI.out.frozen (p:=⟨w.heap.size+1+1+1,3,none⟩) (by simp;omega)).trans (aa bO.out 3)))
      have aA:=hD aM
      clear bj dj aM))
   all_goals
    go_wp2_with fail
    go_roundg(p-(i+1))
    case measure=>omega
    case rel=>
     refine⟨i+1,by omega,rfl,by go_num,?_⟩
     have iX:∀b,b<w.heap.size+4→w2.heap[b]? =wr.heap[b]? :=fun b hb=>(aA.out.block b hb).trans ((Below.heap_alloc w1 _ b (by omega)).trans (iI.out.block b (by omega)))
     have iJ:=aA.out.size
     simp at iJ
     refine(show C2 M w of many (i+1) _ from⟨a2,c2,xs++[.mk yk yn ys yl],by simp[TX.out],?_,cw.out.sD (.inr ⟨by simp;omega,by simp⟩) (by simp) _,?_,by simp;omega,?_,?_,?_⟩)
     ·intro x hx
      rcases List.mem_append.1 hx with h|h
      ·exact HXO.out x h
      ·simp at h;subst h;exact HY.out
     ·exact(((NZ.out.trans (iI.out.mono (by omega))).alloc (by omega) _).trans (aA.out.mono (by omega))).setCell (by first|(simp;done)|(simp;omega)) _
     ·exact(heap_setCell_other _ _ _ _ (by first|(simp;done)|(simp;omega))).trans ((iX _ (by omega)).trans lR.out)
     ·exact(heap_setCell_other _ _ _ _ (by first|(simp;done)|(simp;omega))).trans ((iX _ (by omega)).trans aO.out)
     ·exact heap_setCell_same w2 _ 3 _ _ _ ((iX _ (by omega)).trans bO.out)
  ·go_wp2_with(go_at_call 59;refine(dW _ _ _ HI.out (by omega) (by omega)).mono ?_;rintro e w'⟨rfl,rfl⟩;rw[show aD n (4:Int).toNat=p from HP.out.symm])
   refine bodyPost_ret (v:= .agg #[.int .i64 5, .int .i64 0, .string ⟨#[]⟩, .slice a' i c']) (by simp[results,Tryz.results64,go_sem,r0,r1,r2,r3]) rfl ⟨_,rfl,⟨.mk 5 0 mu xs, .inl ⟨rfl,xs,rfl,by rw[TX.out];omega,HXO.out⟩,_,rfl,eV.iff.2 ⟨_,rfl,?_,jV⟩⟩,?_⟩
   ·have h:=(HA.out.slice IS.out).ev (M':=M) (((((Ev.ee wr (fun i h=> .inl h)).setCell (p:=⟨w.heap.size+1,0,none⟩) (.inl (.inr ⟨by simp,by simp⟩)) (.int .i64 5)).setCell (p:=⟨w.heap.size+1,1,none⟩) (.inl (.inr ⟨by simp,by simp⟩)) (.int .i64 0)).setCell (p:=⟨w.heap.size+1,2,none⟩) (.inl (.inr ⟨by simp,by simp⟩)) (.string ⟨#[]⟩)).setCell (p:=⟨w.heap.size+1,3,none⟩) (.inl (.inr ⟨by simp,by simp⟩)) (.slice a' i c'))
    exact h
   ·exact(((NZ.out.setCell (by simp) _).setCell (by simp) _).setCell (by simp) _).setCell (by simp) _
theorem wO(M:Nat→Prop)(w:World)(hM:Bd M w)(t:aJ)(n many:Int)(ht:aB t=true)(hn:I6 n)(zA:many≤1000):
 Calls Tryz.prog 64 #[.agg #[.int .i64 t.kind, .int .i64 t.of], .int .i64 n, .int .i64 many] w (aF w fun v w'=>∃x,cX t many x∧bI M w' v x):=by
 obtain⟨k,o⟩:=t
 unfold aB at ht
 by_cases h5:k=5
 ·subst h5
  simp at ht
  exact C3 M w hM o n many ht.1 ht.2 hn zA
 ·simp[h5]at ht
  exact(wN M w k o n many ht.1 ht.2.1 hn zA).mono fun e w'⟨v,h1,⟨x,h2,h3⟩,h4⟩=>⟨v,h1,⟨x, .inr ⟨h5,h2⟩,h3⟩,h4⟩
def aW(fs:List ak)(many:Int)(vs:List au):Prop:=vs.length=fs.length∧∀(i:Nat)(f:ak)(v:au),fs[i]? =some f→vs[i]? =some v→cX f.type many v
theorem C4(M:Nat→Prop)(w:World)(hM:Bd M w)(c:ai)(fv lv:Value)(ns:List Int)(many:Int)(hs:ae M w fv c.fields)(hl:ae M w lv ns)(hns:∀y∈ns,I6 y)(QH:c.fields.length≤8)(Mw:∀f∈c.fields,aB f.type=true)(zA:many≤1000):
 Calls Tryz.prog 38 #[.agg #[.string c.name,fv],lv, .int .i64 many] w (aF w fun v w'=>∃vs,aW c.fields many vs∧ae M w' v vs):=by
 obtain⟨i0,dF,dM,db,dL⟩:=info_parts fN
 obtain⟨a,bu,rfl,cq,hm,hc⟩:=hs.open_
 obtain⟨al,qcf,rfl,qbu,qG,lQ⟩:=hl.open_
 clear hs hl
 have HC:=hD hc;clear hc;have oW:=hD lQ;clear lQ;have Sh:=hD hns;clear hns;have TY:=hD Mw;clear Mw
 generalize hn:c.fields.length=n at*
 generalize Ln:ns.length=nl at*
 have HN:=hD hn;clear hn;have Wy:=hD Ln;clear Ln
 have IS:Hid (∀i,M i→i<w.heap.size+1):=(show∀i,_→_ from fun i h=>Nat.lt_succ_of_lt (hM i h))
 go_enter Tryz.func38,Tryz.ntmps38
 go_wp2_with fail
 go_loopg [7,8,9]n(fun g ov iv _ wr=>∃(k:Nat)(a1:Option Addr)(c1:Nat)(vs:List au),k≤n∧g=n-k∧iv= .int .i64 k∧ov= .slice a1 k c1∧Hid (vs.length=k∧∀(i:Nat)(f:ak)(v:au),c.fields[i]? =some f→vs[i]? =some v→cX f.type many v)∧Hid (aK M (w.heap.size+1) 134 wr (.slice a1 k c1) vs)∧Hid (Below w.heap.size w wr)∧Hid (wr.heap[w.heap.size]? =some (.cells #[.string c.name, .slice a n bu] 91 (0,0))))
 case atStart=>exact⟨0,none,0,[],Nat.zero_le _,rfl,rfl,rfl,(show [].length=0∧_ from⟨rfl,fun i f v _ h=>by simp at h⟩),(show aK _ _ _ _ _ _ from aK.nil _ _ _ _),(show Below _ _ _ from((Below.refl _ _).alloc (Nat.le_refl _) _)),heap_alloc_new _ _⟩
 case round=>
  obtain⟨k,a1,c1,vs,hk,rfl,rfl,rfl,HV,HA,HB,HX⟩:=hrel
  have cB:w.heap.size<wr.heap.size:=(Array.getElem?_eq_some_iff.1 HX.out).1
  obtain⟨g0,g1⟩:=af HX.out
  by_cases aT:k<n
  ·obtain⟨b,off,rfl,xW,bZ,aC⟩:=HC.out (by omega)
   obtain⟨f,hf⟩:∃f,c.fields[k]? =some f:=⟨_,List.getElem?_eq_getElem (by rw[HN.out];exact aT)⟩
   obtain⟨cs,⟨rfl,_⟩,bE⟩:=aC k f hf
   have q1:wr.cell? ⟨b,off+k*4+1,none⟩=some (.int .i64 f.type.kind):=(HB.out.cell (p:=⟨b,off+k*4+1,none⟩) bZ).trans (bE 1 _ rfl)
   have q2:wr.cell? ⟨b,off+k*4+1+1,none⟩=some (.int .i64 f.type.of):=(HB.out.cell (p:=⟨b,off+k*4+2,none⟩) bZ).trans (bE 2 _ rfl)
   have N0:Hid (aB f.type=true):=TY.out f (List.mem_of_getElem? hf)
   clear aC bE
   have HF:=hD hf;clear hf
   have Wz:Hid (Bd (bc (.slice a1 k c1) M) wr):=(show Bd _ _ from fun i h=>by rcases h with h|h;have:=hM i h;omega;exact(HA.out.dO i h).2)
   by_cases h0:0<nl
   ·obtain⟨bl,TZ,rfl,hMl,B9,Lo⟩:=oW.out h0
    have YA:k%nl<nl:=Nat.mod_lt _ h0
    obtain⟨y,hy⟩:∃y,ns[k%nl]? =some y:=⟨_,List.getElem?_eq_getElem (by rw[Wy.out];exact YA)⟩
    obtain⟨cs,rfl,bE⟩:=Lo (k%nl) y hy
    have q3:wr.cell? ⟨bl,TZ+k%nl,none⟩=some (.int .i64 y):=(HB.out.cell (p:=⟨bl,TZ+k%nl,none⟩) B9).trans (by have:=bE 0 _ rfl;rw[show az.size Int=1 from rfl]at this;simpa using this)
    obtain⟨hy1,hy2⟩:=Sh.out y (List.mem_of_getElem? hy)
    clear Lo bE hy
    go_wp2_with fail
    have T2:=Gn (y+(k:Int))
    refine(wO (bc (.slice a1 k c1) M) wr Wz.out f.type _ many N0.out T2 zA).mono ?_
    rintro e w1⟨_,rfl,⟨⟨yk,yn,ys,yl⟩,hy,cs,rfl,bw⟩,aw⟩
    obtain⟨av,rfl,aU,iD⟩:=eV.iff.1 bw
    obtain⟨ya,yc,rfl,_⟩:=aU.open_
    have s1:=aw.size
    have gZ:Hid (w1.heap[w.heap.size]? =some (.cells #[.string c.name, .slice (some ⟨b,off,none⟩) n bu] 91 (0,0))):=(aw.block w.heap.size cB).trans HX.out
    have Cd:=hD (HA.out.below aw)
    have EI:Hid (Below w.heap.size w w1):=HB.out.trans (aw.mono (by omega))
    have HY:=hD hy;clear hy;have eR:=hD bw;clear bw
    clear aw aU iD
    have Ir:=hD HV.out.1
    go_wp2_with(at_builtin
                refine aQ (α:=au) rfl _ _ _ rfl M (w.heap.size+1) 134 i0 _ 56 Tryz.underlying54 dF dM db dL rfl (by decide) (.slice a1 k c1) vs rfl (Cd.out.alloc _) (fun _=>True) _ _ (.mk yk yn ys yl) rfl (ct _ _ _ _ rfl trivial) (az.ev eR.out (Ev.aj ((Below.refl _ _).alloc (Nat.le_refl _) _))) (by rw[Ir.out];unfold maxLen;omega) (by rw[Ir.out];omega) (by simp;omega) ?_
                rw[Ir.out]
                intro a2 c2 w2 bj dj aM
                have cw:=hD bj
                have aA:=hD aM
                clear bj dj aM)
    go_roundg(n-(k+1))
    case measure=>omega
    case rel=>
     refine⟨k+1,a2,c2,vs++[.mk yk yn ys yl],by omega,rfl,by go_num,rfl,?_,cw,?_,?_⟩
     ·refine(show _∧_ from⟨by simp[Ir.out],fun i f' v hf hv=> ?_⟩)
      by_cases hi:i<vs.length
      ·rw[List.getElem?_append_left hi]at hv
       exact HV.out.2 i f' v hf hv
      ·rw[List.getElem?_append_right (by omega)]at hv
       have h0:i-vs.length=0:=by
        cases hq:i-vs.length with
        |zero=>rfl
        |succ q=>rw[hq]at hv;simp at hv
       rw[h0]at hv;simp at hv;subst hv
       obtain rfl:i=k:=by have:=Ir.out;omega
       rw[HF.out]at hf;cases hf
       exact HY.out
     ·exact(show Below w.heap.size w _ from(EI.out.alloc (by omega) _).trans (aA.out.mono (by omega)))
     ·exact(aA.out.block w.heap.size (by omega)).trans ((Below.heap_alloc w1 _ w.heap.size (by omega)).trans gZ.out)
   ·go_wp2_with fail
    have T2:I6 (k:Int):=⟨by omega,by omega⟩
    refine(wO (bc (.slice a1 k c1) M) wr Wz.out f.type _ many N0.out T2 zA).mono ?_
    rintro e w1⟨_,rfl,⟨⟨yk,yn,ys,yl⟩,hy,cs,rfl,bw⟩,aw⟩
    obtain⟨av,rfl,aU,iD⟩:=eV.iff.1 bw
    obtain⟨ya,yc,rfl,_⟩:=aU.open_
    have s1:=aw.size
    have gZ:Hid (w1.heap[w.heap.size]? =some (.cells #[.string c.name, .slice (some ⟨b,off,none⟩) n bu] 91 (0,0))):=(aw.block w.heap.size cB).trans HX.out
    have Cd:=hD (HA.out.below aw)
    have EI:Hid (Below w.heap.size w w1):=HB.out.trans (aw.mono (by omega))
    have HY:=hD hy;clear hy;have eR:=hD bw;clear bw
    clear aw aU iD
    have Ir:=hD HV.out.1
    go_wp2_with(at_builtin
                refine aQ (α:=au) rfl _ _ _ rfl M (w.heap.size+1) 134 i0 _ 56 Tryz.underlying54 dF dM db dL rfl (by decide) (.slice a1 k c1) vs rfl (Cd.out.alloc _) (fun _=>True) _ _ (.mk yk yn ys yl) rfl (ct _ _ _ _ rfl trivial) (az.ev eR.out (Ev.aj ((Below.refl _ _).alloc (Nat.le_refl _) _))) (by rw[Ir.out];unfold maxLen;omega) (by rw[Ir.out];omega) (by simp;omega) ?_
                rw[Ir.out]
                intro a2 c2 w2 bj dj aM
                have cw:=hD bj
                have aA:=hD aM
                clear bj dj aM)
    go_roundg(n-(k+1))
    case measure=>omega
    case rel=>
     refine⟨k+1,a2,c2,vs++[.mk yk yn ys yl],by omega,rfl,by go_num,rfl,?_,cw,?_,?_⟩
     ·refine(show _∧_ from⟨by simp[Ir.out],fun i f' v hf hv=> ?_⟩)
      by_cases hi:i<vs.length
      ·rw[List.getElem?_append_left hi]at hv
       exact HV.out.2 i f' v hf hv
      ·rw[List.getElem?_append_right (by omega)]at hv
       have h0:i-vs.length=0:=by
        cases hq:i-vs.length with
        |zero=>rfl
        |succ q=>rw[hq]at hv;simp at hv
       rw[h0]at hv;simp at hv;subst hv
       obtain rfl:i=k:=by have:=Ir.out;omega
       rw[HF.out]at hf;cases hf
       exact HY.out
     ·exact(show Below w.heap.size w _ from(EI.out.alloc (by omega) _).trans (aA.out.mono (by omega)))
     ·exact(aA.out.block w.heap.size (by omega)).trans ((Below.heap_alloc w1 _ w.heap.size (by omega)).trans gZ.out)
  ·go_wp2_with fail
   go_ret
   obtain rfl:k=n:=by omega
   exact⟨_,rfl,⟨vs,⟨HV.out.1.trans HN.out.symm,HV.out.2⟩,HA.out.slice IS.out⟩,HB.out⟩
def Jl(c:ai)(t:aJ)(v:Value):Prop:=(∃f∈c.fields,f.type=t∧v= .tuple #[.string f.name, .bool true])∨v= .tuple #[.string mu, .bool false]
theorem mF(M:Nat→Prop)(w:World)(c:ai)(fv:Value)(from_:Int)(t:aJ)(hs:ae M w fv c.fields)(QH:c.fields.length≤8)(hn:I6 from_):
 Calls Tryz.prog 115 #[.agg #[.string c.name,fv], .int .i64 from_, .agg #[.int .i64 t.kind, .int .i64 t.of]] w (aF w fun v _=>Jl c t v):=by
 obtain⟨tk,zT⟩:=t
 obtain⟨a,bu,rfl,cq,hm,hc⟩:=hs.open_
 clear hs
 have HC:=hD hc;clear hc;have HI:=hD hn;clear hn
 generalize hn:c.fields.length=n at*
 have HN:=hD hn;clear hn
 have hp:=bU from_ 100 (by omega)
 go_enter Tryz.func115,Tryz.ntmps115
 go_wp2_with fail
 go_loopg [6,7,8,9]n(fun g r0 r1 iv _ wr=>∃k:Nat,k≤n∧g=n-k∧iv= .int .i64 k∧r0= .string ⟨#[]⟩∧r1= .bool false∧Hid (Below w.heap.size w wr)∧Hid (wr.heap[w.heap.size]? =some (.cells #[.string c.name, .slice a n bu] 91 (0,0)))∧Hid (wr.heap[w.heap.size+1]? =some (.cells #[.int .i64 tk, .int .i64 zT] 140 (0,0))))
 case atStart=>
  obtain⟨b0,b1,hz,hb⟩:=iM (w:=w) (o0:= .cells #[.string c.name, .slice a n bu] 91) (o1:= .cells #[.int .i64 tk, .int .i64 zT] 140) rfl
  exact⟨0,Nat.zero_le _,rfl,rfl,rfl,rfl,hb,b0,b1⟩
 case round=>
  obtain⟨k,hk,rfl,rfl,rfl,rfl,HB,HX,HY⟩:=hrel
  have cB:w.heap.size+1<wr.heap.size:=(Array.getElem?_eq_some_iff.1 HY.out).1
  obtain⟨g0,g1⟩:=af HX.out
  obtain⟨g2,g3⟩:=af HY.out
  by_cases aT:k<n
  ·obtain⟨b,off,rfl,xW,bZ,aC⟩:=HC.out (by omega)
   obtain⟨p,T3⟩:∃p:Nat,p=aD from_ 100:=⟨_,rfl⟩
   rw[←T3]at hp
   obtain⟨idx,QI⟩:∃idx:Nat,idx=(p+k)%n:=⟨_,rfl⟩
   have xY:idx<n:=by rw[QI];exact Nat.mod_lt _ (by omega)
   have z2:Int.tmod ((p:Int)+(k:Int)) (n:Int)=(idx:Int):=by
    rw[Int.tmod_eq_emod_of_nonneg (by omega),QI];simp
   obtain⟨f,hf⟩:∃f,c.fields[idx]? =some f:=⟨_,List.getElem?_eq_getElem (by rw[HN.out];exact xY)⟩
   obtain⟨cs,⟨rfl,_⟩,bE⟩:=aC idx f hf
   have lQ:∀(j:Nat)(u:Value),[Value.string f.name, .int .i64 f.type.kind, .int .i64 f.type.of, .bool f.indexed][j]? =some u→wr.cell? ⟨b,off+idx*4+j,none⟩=some u:=fun j u hu=>(HB.out.cell (p:=⟨b,off+idx*4+j,none⟩) bZ).trans (bE j u hu)
   have q0:wr.cell? ⟨b,off+idx*4,none⟩=some (.string f.name):=lQ 0 _ rfl
   have q1:=lQ 1 _ rfl
   have q2:=lQ 2 _ rfl
   have q3:=lQ 3 _ rfl
   have EJ:Hid (f∈c.fields):=List.mem_of_getElem? hf
   have Si:=hD T3;clear T3
   clear aC bE lQ hf QI
   go_upto_region 4 with fail
   go_cut [9](fun s9 wx=>s9= .pointer (some ⟨wr.heap.size,0,none⟩)∧wx=(wr.alloc (.cells #[.string f.name, .int .i64 f.type.kind, .int .i64 f.type.of, .bool f.indexed] 151)).drew)
   case first=>
    have z1:IntKind.i64.wrap ((p:Int)+(k:Int))=(p:Int)+(k:Int):=IntWalk.i64_in _ (by omega)
    have z3:(0:Int)≤(idx:Int):=Int.natCast_nonneg _
    have z4:(idx:Int)<(n:Int):=by omega
    have z5:((n:Int)==0)=false:=by simp;omega
    have z6:n≠0:=by omega
    have z8:IntKind.i64.wrap (idx:Int)=(idx:Int):=IntWalk.i64_in _ (by omega)
    go_region_held3(fun w'=>w'.cell? ⟨w.heap.size,1,none⟩=some (.slice (some ⟨b,off,none⟩) n bu)∧w'.cell? ⟨b,off+idx*4,none⟩=some (.string f.name)∧w'.cell? ⟨b,off+idx*4+1,none⟩=some (.int .i64 f.type.kind)∧w'.cell? ⟨b,off+idx*4+2,none⟩=some (.int .i64 f.type.of)∧w'.cell? ⟨b,off+idx*4+3,none⟩=some (.bool f.indexed))
     (first|go_keep)
     (first|(go_at_call 89;refine(fY _ _ _ HI.out (by omega) (by omega)).mono ?_;rintro e w'⟨rfl,rfl⟩;rw[show aD from_ (100:Int).toNat=p from Si.out.symm]))
    all_goals(go_wp2_with fail;go_meet;exact⟨rfl,rfl⟩)
   case rest=>
    obtain⟨rfl,rfl⟩:=hcut
    obtain⟨fn,⟨fk,fo⟩,fi⟩:=f
    clear z2
    by_cases he:fk=tk∧fo=zT
    ·obtain⟨rfl,rfl⟩:=he
     go_wp2_with fail
     go_ret2
     exact⟨_,rfl, .inl ⟨_,EJ.out,rfl,rfl⟩,(HB.out.alloc (by omega) _).drew⟩
    ·by_cases h1:fk=tk
     ·have h2:(fo==zT)=false:=by simp;exact fun h=>he ⟨h1,h⟩
      subst h1
      clear he
      go_wp2_with fail
      go_roundg(n-(k+1))
      case measure=>omega
      case rel=>exact⟨k+1,by omega,rfl,by go_num,rfl,rfl,(show Below _ _ _ from(HB.out.alloc (by omega) _).drew),(Below.heap_alloc wr _ w.heap.size (by omega)).trans HX.out,(Below.heap_alloc wr _ (w.heap.size+1) (by omega)).trans HY.out⟩
     ·have h2:(fk==tk)=false:=by simpa using h1
      clear he h1
      go_wp2_with fail
      go_roundg(n-(k+1))
      case measure=>omega
      case rel=>exact⟨k+1,by omega,rfl,by go_num,rfl,rfl,(show Below _ _ _ from(HB.out.alloc (by omega) _).drew),(Below.heap_alloc wr _ w.heap.size (by omega)).trans HX.out,(Below.heap_alloc wr _ (w.heap.size+1) (by omega)).trans HY.out⟩
  ·go_wp2_with fail
   go_ret2
   exact⟨_,rfl, .inr rfl,HB.out⟩
def qU(c:ai)(s:ByteArray):Prop:=s=⟨#[55]⟩∨∃f∈c.fields,f.type=⟨1,0⟩∧s=f.name
def nv(c:ai)(s:ByteArray):Prop:=s=⟨#[34,97,32,98,34]⟩∨∃f∈c.fields,f.type=⟨2,0⟩∧s=f.name
def mG(num txt:ByteArray):List ByteArray:=[⟨#[]⟩,⟨#[51]⟩,num,num++⟨#[32,42,32,50,32,45,32,49]⟩,⟨#[108,101,110,40]⟩++txt++⟨#[41]⟩,
 ⟨#[105,102,40]⟩++num++⟨#[32,62,32,50,44,32]⟩++num++⟨#[44,32,48,32,45,32]⟩++num++⟨#[41]⟩,⟨#[102,105,110,100,40,34,98,34,44,32]⟩++txt++⟨#[41]⟩,num++⟨#[32,47,32]⟩++num]
def kB(num txt:ByteArray):List ByteArray:=[⟨#[]⟩,⟨#[34,120,34]⟩,txt,txt++⟨#[32,38,32,34,45,34,32,38,32]⟩++txt,⟨#[116,101,120,116,40]⟩++num++⟨#[41]⟩,
 ⟨#[108,101,102,116,40]⟩++txt++⟨#[44,32,50,41]⟩,⟨#[102,114,111,109,40]⟩++txt++⟨#[44,32,51,41]⟩,⟨#[105,102,40]⟩++num++⟨#[32,61,32,49,44,32]⟩++txt++⟨#[44,32,34,110,111,34,41]⟩]
def fO(c:ai)(t:aJ)(s:ByteArray):Prop:=
 (t=⟨1,0⟩∧∃num txt,qU c num∧nv c txt∧s∈mG num txt)∨(t=⟨2,0⟩∧∃num txt,qU c num∧nv c txt∧s∈kB num txt)∨(t.kind≠1∧t.kind≠2∧(s=⟨#[]⟩∨∃f∈c.fields,f.type=t∧s=f.name))
theorem Fg {l:List ByteArray}{k:Nat}(h:k<l.length):(l.map Value.string).toArray[k]? =some (.string (l.getD k mu))∧l.getD k mu∈l:=by
 have e:l[k]? =some l[k]:=List.getElem?_eq_getElem h
 constructor
 ·simp[List.getD,e]
 ·simp[List.getD,e]
def PH(c:ai)(w:World)(v:Value)(wx:World):Prop:=∃s,v= .string s∧qU c s∧wx=w
def MT(c:ai)(w:World)(v:Value)(wx:World):Prop:=∃s,v= .string s∧nv c s∧wx=w
theorem C5(M:Nat→Prop)(w:World)(c:ai)(fv:Value)(n:Int)(t:aJ)(hs:ae M w fv c.fields)(QH:c.fields.length≤8)(hn:I6 n)(ht:aB t=true)(mf:∀f∈c.fields,f.name.size≤20):
 Calls Tryz.prog 90 #[.int .i64 n, .agg #[.int .i64 t.kind, .int .i64 t.of], .agg #[.string c.name,fv]] w (aF w fun v _=>∃s,v= .string s∧fO c t s):=by
 obtain⟨tk,zT⟩:=t
 have HS:=hD hs
 obtain⟨a,bu,rfl,cq,hm,hc⟩:=hs.open_
 clear hs hc
 have HI:=hD hn;clear hn;have HT:=hD ht;clear ht;have T4:=hD mf;clear mf
 obtain⟨fs,bz⟩:∃fs,fs=c.fields:=⟨_,rfl⟩
 have mi:Hid (I6 (n.tdiv 2)):=(show I6 _ by
  obtain⟨h1,h2⟩:=HI.out
  rcases Int.lt_or_le n 0 with h|h
  ·have e:n.tdiv 2= -((-n)/2):=by
    have h3:(-n).tdiv 2=(-n)/2:=Int.tdiv_eq_ediv_of_nonneg (by omega)
    rw[Int.neg_tdiv]at h3;omega
   rw[e];exact⟨by omega,by omega⟩
  ·rw[Int.tdiv_eq_ediv_of_nonneg h];exact⟨by omega,by omega⟩)
 obtain⟨wh,wi⟩:=HI.out
 go_enter Tryz.func90,Tryz.ntmps90
 go_wp2_with fail
 have mw:Below w.heap.size w ((w.alloc (.cells #[.int .i64 tk, .int .i64 zT] 140)).alloc (.cells #[.string c.name, .slice a c.fields.length bu] 91)):=((Below.refl _ w).alloc (Nat.le_refl _) _).alloc (by simp) _
 refine(mF M _ c _ n ⟨1,0⟩ (HS.out.below mw) QH HI.out).mono ?_
 rintro e w1⟨v1,rfl,Mo,aw⟩
 have we:=hD ((aw.block w.heap.size (by simp;omega)).trans (iM (w:=w) rfl).1)
 have gZ:=hD ((aw.block (w.heap.size+1) (by simp)).trans (iM (w:=w) rfl).2.1)
 have aO:Hid (Below w.heap.size w w1):=mw.trans (aw.mono (by simp;omega))
 have s1:=aw.size
 simp at s1
 clear mw aw
 have IT:Hid (∃s1 b1,v1= .tuple #[.string s1, .bool b1]∧(b1=true→qU c s1)):=(show∃s1 b1,_ by
  rcases Mo with⟨f,hf,ht,rfl⟩|rfl
  ·exact⟨_,_,rfl,fun _=> .inr ⟨f,hf,ht,rfl⟩⟩
  ·exact⟨_,_,rfl,fun h=>by cases h⟩)
 clear Mo
 obtain⟨s1',b1,rfl,Lp⟩:=IT.out
 clear IT
 obtain⟨p0,p1⟩:=af we.out
 obtain⟨p2,p3⟩:=af gZ.out
 have YB:=hD Lp;clear Lp
 go_wp2_with fail
 refine(mF M _ c _ (n.tdiv 2) ⟨2,0⟩ (HS.out.below aO.out) QH mi.out).mono ?_
 rintro e w2⟨v2,rfl,FT,aM⟩
 have we:=hD ((aM.block w.heap.size (by omega)).trans we.out)
 have aA:Hid (Below w.heap.size w w2):=aO.out.trans (aM.mono (by omega))
 have gZ:=hD ((aM.block (w.heap.size+1) (by omega)).trans gZ.out)
 have s2:=aM.size
 clear aM
 have QJ:Hid (∃s2 b2,v2= .tuple #[.string s2, .bool b2]∧(b2=true→nv c s2)):=(show∃s1 b1,_ by
  rcases FT with⟨f,hf,ht,rfl⟩|rfl
  ·exact⟨_,_,rfl,fun _=> .inr ⟨f,hf,ht,rfl⟩⟩
  ·exact⟨_,_,rfl,fun h=>by cases h⟩)
 clear FT
 obtain⟨s2',b2,rfl,O5⟩:=QJ.out
 clear QJ p0 p1 p2 p3
 obtain⟨p0,p1⟩:=af we.out
 obtain⟨p2,p3⟩:=af gZ.out
 have T5:=hD O5;clear O5
 go_upto_if 29 with fail
 go_cut [7](fun s7 wx=>PH c w2 s7 wx)
 case first=>
  cases b1
  ·go_wp2_with fail
   go_meet
   exact⟨_,rfl, .inl rfl,rfl⟩
  ·go_wp2_with fail
   go_meet
   exact⟨_,rfl,YB.out trivial,rfl⟩
 case rest=>
  obtain⟨num,rfl,Lp,rfl⟩:=hcut
  have Lq:=hD Lp;clear Lp
  go_upto_if 31 with fail
  go_cut [9](fun s9 wx=>MT c wc s9 wx)
  case first=>
   cases b2
   ·go_wp2_with fail
    go_meet
    exact⟨_,rfl, .inl rfl,rfl⟩
   ·go_wp2_with fail
    go_meet
    exact⟨_,rfl,T5.out trivial,rfl⟩
  case rest=>
   obtain⟨txt,rfl,htx,rfl⟩:=hcut
   have QK:=hD htx;clear htx
   have WB:num.size≤20:=by
    rcases Lq.out with rfl|⟨f,hf,_,rfl⟩
    ·decide
    ·exact T4.out f hf
   have bK:txt.size≤20:=by
    rcases QK.out with rfl|⟨f,hf,_,rfl⟩
    ·decide
    ·exact T4.out f hf
   have Sg:=bU n 8 (by omega)
   by_cases h1:tk=1
   ·subst h1
    have YC:Hid (zT=0):=(show zT=0 by have:=HT.out;simp[aB]at this;exact this)
    go_wp2_with fail
    refine(fY _ _ _ HI.out (by omega) (by omega)).mono ?_
    rintro e w'⟨rfl,rfl⟩
    obtain⟨W,hW⟩:∃W:World,W=wc.alloc (.cells ((mG num txt).map Value.string).toArray 9):=⟨_,rfl⟩
    rw[show wc.alloc (.cells #[.string ⟨#[]⟩, .string ⟨#[51]⟩, .string num, .string (num++⟨#[32,42,32,50,32,45,32,49]⟩), .string (⟨#[108,101,110,40]⟩++txt++⟨#[41]⟩), .string (⟨#[105,102,40]⟩++num++⟨#[32,62,32,50,44,32]⟩++num++⟨#[44,32,48,32,45,32]⟩++num++⟨#[41]⟩), .string (⟨#[102,105,110,100,40,34,98,34,44,32]⟩++txt++⟨#[41]⟩), .string (num++⟨#[32,47,32]⟩++num)] 9)=W from hW.symm]
    obtain⟨c0,c1⟩:=Fg (l:=mG num txt) (k:=aD n 8) Sg
    have q:W.cell? ⟨wc.heap.size,aD n 8,none⟩=some (.string ((mG num txt).getD (aD n 8) mu)):=cell_of_heap (pI hW).1 c0
    have YD:=hD (pI hW).2.2
    have C1:=hD c1;clear c1
    clear hW c0
    go_wp2_with fail
    go_ret
    exact⟨_,rfl,⟨_,rfl, .inl ⟨by rw[YC.out],num,txt,Lq.out,QK.out,C1.out⟩⟩,aA.out.trans (YD.out.mono (by omega))⟩
   ·by_cases h2:tk=2
    ·subst h2
     have YC:Hid (zT=0):=(show zT=0 by have:=HT.out;simp[aB]at this;exact this)
     go_wp2_with fail
     refine(fY _ _ _ HI.out (by omega) (by omega)).mono ?_
     rintro e w'⟨rfl,rfl⟩
     obtain⟨W,hW⟩:∃W:World,W=wc.alloc (.cells ((kB num txt).map Value.string).toArray 9):=⟨_,rfl⟩
     rw[show wc.alloc (.cells #[.string ⟨#[]⟩, .string ⟨#[34,120,34]⟩, .string txt, .string (txt++⟨#[32,38,32,34,45,34,32,38,32]⟩++txt), .string (⟨#[116,101,120,116,40]⟩++num++⟨#[41]⟩), .string (⟨#[108,101,102,116,40]⟩++txt++⟨#[44,32,50,41]⟩), .string (⟨#[102,114,111,109,40]⟩++txt++⟨#[44,32,51,41]⟩), .string (⟨#[105,102,40]⟩++num++⟨#[32,61,32,49,44,32]⟩++txt++⟨#[44,32,34,110,111,34,41]⟩)] 9)=W from hW.symm]
     obtain⟨c0,c1⟩:=Fg (l:=kB num txt) (k:=aD n 8) Sg
     have q:W.cell? ⟨wc.heap.size,aD n 8,none⟩=some (.string ((kB num txt).getD (aD n 8) mu)):=cell_of_heap (pI hW).1 c0
     have YD:=hD (pI hW).2.2
     have C1:=hD c1;clear c1
     clear hW c0
     go_wp2_with fail
     go_ret
     exact⟨_,rfl,⟨_,rfl, .inr (.inl ⟨by rw[YC.out],num,txt,Lq.out,QK.out,C1.out⟩)⟩,aA.out.trans (YD.out.mono (by omega))⟩
    ·have e1:(tk==1)=false:=by simpa using h1
     have e2:(tk==2)=false:=by simpa using h2
     have H1:=hD h1;clear h1;have H2:=hD h2;clear h2
     go_wp2_with fail
     refine(mF M _ c _ n ⟨tk,zT⟩ (HS.out.below aA.out) QH HI.out).mono ?_
     rintro e w3⟨v3,rfl,WC,bP⟩
     have bO:Hid (Below w.heap.size w w3):=aA.out.trans (bP.mono (by omega))
     clear bP
     rcases WC with⟨f,hf,Mw,rfl⟩|rfl
     ·have WE:=hD hf;clear hf;have TY:=hD Mw;clear Mw
      by_cases h3:0<aD n 3
      ·have h3':(0:Int)<(aD n 3:Int):=by omega
       go_wp2_with fail
       refine(fY _ _ _ HI.out (by omega) (by omega)).mono ?_
       rintro e w'⟨rfl,rfl⟩
       go_wp2_with fail
       go_ret
       exact⟨_,rfl,⟨_,rfl, .inr (.inr ⟨H1.out,H2.out, .inr ⟨f,WE.out,TY.out,rfl⟩⟩)⟩,bO.out⟩
      ·have h3':¬(0:Int)<(aD n 3:Int):=by omega
       go_wp2_with fail
       refine(fY _ _ _ HI.out (by omega) (by omega)).mono ?_
       rintro e w'⟨rfl,rfl⟩
       go_wp2_with fail
       go_ret
       exact⟨_,rfl,⟨_,rfl, .inr (.inr ⟨H1.out,H2.out, .inl rfl⟩)⟩,bO.out⟩
     ·go_wp2_with fail
      go_ret
      exact⟨_,rfl,⟨_,rfl, .inr (.inr ⟨H1.out,H2.out, .inl rfl⟩)⟩,bO.out⟩
end Go.Proofs.YtlkjnefenialbaaGreatDoor
