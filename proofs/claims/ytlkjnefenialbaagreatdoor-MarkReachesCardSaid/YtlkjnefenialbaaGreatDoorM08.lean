/- What the type check and a change's checks and Apply answer; no condition beyond each theorem's own. -/
import Derived.Test.YtlkjnefenialbaaGreatDoorM05
import Derived.Test.YtlkjnefenialbaaGreatDoorM07
set_option linter.unusedVariables false
set_option linter.unusedSimpArgs false
set_option maxHeartbeats 8000000
set_option maxRecDepth 100000
namespace Go.Proofs.YtlkjnefenialbaaGreatDoor
open Go.RowKit
theorem Fe(c:ai)(x0 x1 x2:an)(p:Int)(hp:p=1∨p=2)(h0:fe c x0 1)(h1:fe c x1 p)(h2:fe c x2 p):OF c (.mk 6 0 (bL [105,102]) [x0,x1,x2]) ⟨p,0⟩:=by
 intro M w v fv ek bz
 obtain⟨a,cap,rfl,aU⟩:=dH ek
 obtain⟨k0,n0,s0,l0⟩:=x0
 obtain⟨k1,n1,s1,l1⟩:=x1
 obtain⟨k2,n2,s2,l2⟩:=x2
 obtain⟨b,off,a0,c0,rfl,bZ,Yr,Ys,Yt,Yu,g0⟩:=ji (i:=0) aU rfl
 obtain⟨b',wm,a1,c1,e,_,QF,Ww,Wx,Yv,g1⟩:=ji (i:=1) aU rfl
 simp only[Option.some.injEq,Addr.mk.injEq,and_true]at e
 obtain⟨rfl,rfl⟩:=e
 obtain⟨b',wm,a2,c2,e,_,Yw,Yx,Yy,Yz,g2⟩:=ji (i:=2) aU rfl
 simp only[Option.some.injEq,Addr.mk.injEq,and_true]at e
 obtain⟨rfl,rfl⟩:=e
 simp only[Nat.zero_mul,Nat.add_zero]at Yr Ys Yt Yu
 simp only[Nat.one_mul]at QF Ww Wx Yv
 simp only[Nat.reduceMul]at Yw Yx Yy Yz
 have ij:=hD bz
 obtain⟨fa,fc,rfl,_⟩:=bz.open_
 have we:Hid (∀W,Below w.heap.size w W→Calls Tryz.prog 193 #[.agg #[.int .i64 k0, .int .i64 n0, .string s0, .slice a0 l0.length c0], .agg #[.string c.name, .slice fa c.fields.length fc]] W fun e w'=>e= .returned (.int .i64 1)∧Below W.heap.size W w'):=(show∀W,_→_ from fun W hb=>h0 M W _ _ (g0.below hb) (ij.out.below hb))
 have gZ:Hid (∀W,Below w.heap.size w W→Calls Tryz.prog 193 #[.agg #[.int .i64 k1, .int .i64 n1, .string s1, .slice a1 l1.length c1], .agg #[.string c.name, .slice fa c.fields.length fc]] W fun e w'=>e= .returned (.int .i64 p)∧Below W.heap.size W w'):=(show∀W,_→_ from fun W hb=>h1 M W _ _ (g1.below hb) (ij.out.below hb))
 have jN:Hid (∀W,Below w.heap.size w W→Calls Tryz.prog 193 #[.agg #[.int .i64 k2, .int .i64 n2, .string s2, .slice a2 l2.length c2], .agg #[.string c.name, .slice fa c.fields.length fc]] W fun e w'=>e= .returned (.int .i64 p)∧Below W.heap.size W w'):=(show∀W,_→_ from fun W hb=>h2 M W _ _ (g2.below hb) (ij.out.below hb))
 have TT:Hid (∀W,Below w.heap.size w W→W.cell? ⟨b,off,none⟩=some (.int .i64 k0)∧W.cell? ⟨b,off+1,none⟩=some (.int .i64 n0)∧W.cell? ⟨b,off+2,none⟩=some (.string s0)∧W.cell? ⟨b,off+3,none⟩=some (.slice a0 l0.length c0)):=(show∀W,_→_ from fun W hb=>⟨(hb.cell (p:=⟨b,off,none⟩) bZ).trans Yr,(hb.cell (p:=⟨b,off+1,none⟩) bZ).trans Ys,(hb.cell (p:=⟨b,off+2,none⟩) bZ).trans Yt,(hb.cell (p:=⟨b,off+3,none⟩) bZ).trans Yu⟩)
 have TU:Hid (∀W,Below w.heap.size w W→W.cell? ⟨b,off+4,none⟩=some (.int .i64 k1)∧W.cell? ⟨b,off+4+1,none⟩=some (.int .i64 n1)∧W.cell? ⟨b,off+4+2,none⟩=some (.string s1)∧W.cell? ⟨b,off+4+3,none⟩=some (.slice a1 l1.length c1)):=(show∀W,_→_ from fun W hb=>⟨(hb.cell (p:=⟨b,off+4,none⟩) bZ).trans QF,(hb.cell (p:=⟨b,off+4+1,none⟩) bZ).trans Ww,(hb.cell (p:=⟨b,off+4+2,none⟩) bZ).trans Wx,(hb.cell (p:=⟨b,off+4+3,none⟩) bZ).trans Yv⟩)
 have TV:Hid (∀W,Below w.heap.size w W→W.cell? ⟨b,off+8,none⟩=some (.int .i64 k2)∧W.cell? ⟨b,off+8+1,none⟩=some (.int .i64 n2)∧W.cell? ⟨b,off+8+2,none⟩=some (.string s2)∧W.cell? ⟨b,off+8+3,none⟩=some (.slice a2 l2.length c2)):=(show∀W,_→_ from fun W hb=>⟨(hb.cell (p:=⟨b,off+8,none⟩) bZ).trans Yw,(hb.cell (p:=⟨b,off+8+1,none⟩) bZ).trans Yx,(hb.cell (p:=⟨b,off+8+2,none⟩) bZ).trans Yy,(hb.cell (p:=⟨b,off+8+3,none⟩) bZ).trans Yz⟩)
 clear ek bz aU g0 g1 g2 h0 h1 h2 Yr Ys Yt Yu QF Ww Wx Yv Yw Yx Yy Yz
 rw[show [an.mk k0 n0 s0 l0,an.mk k1 n1 s1 l1,an.mk k2 n2 s2 l2].length=3 from rfl,show bL [105,102]=⟨#[105,102]⟩from rfl]
 go_enter Tryz.func194,Tryz.ntmps194
 go_upto_region 4 with fail
 obtain⟨W,hW⟩:∃W:World,W=((w.alloc (.cells #[.int .i64 6, .int .i64 0, .string ⟨#[105,102]⟩, .slice (some ⟨b,off,none⟩) 3 cap] 232)).alloc (.cells #[.string c.name, .slice fa c.fields.length fc] 91)).alloc (.cells #[.int .i64 0, .int .i64 0] 140):=⟨_,rfl⟩
 rw[←hW]
 have Sf:Hid (dt w (.cells #[.int .i64 6, .int .i64 0, .string ⟨#[105,102]⟩, .slice (some ⟨b,off,none⟩) 3 cap] 232 (0,0)) (.cells #[.string c.name, .slice fa c.fields.length fc] 91 (0,0)) W):=(show dt _ _ _ _ by rw[hW];exact dt.new w _ _)
 clear hW
 go_cut [6](fun s6 wx=>s6= .int .i64 1∧Hid (dt w (.cells #[.int .i64 6, .int .i64 0, .string ⟨#[105,102]⟩, .slice (some ⟨b,off,none⟩) 3 cap] 232 (0,0)) (.cells #[.string c.name, .slice fa c.fields.length fc] 91 (0,0)) wx))
 case first=>
  obtain⟨z0,z1,z2,z3⟩:=ab Sf.out.1
  obtain⟨y0,y1⟩:=af Sf.out.2.1
  obtain⟨x0,x1,x2,x3⟩:=TT.out _ Sf.out.2.2.2.1
  go_region_law(first|(go_simp;go_at_call 193;refine(we.out _ (by exact Sf.out.2.2.2.1.drew)).mono ?_;rintro e w1⟨rfl,aw⟩;have nM:=hD (Sf.out.drew.below aw);clear aw))
  all_goals(go_wp2_with fail;go_meet;exact⟨rfl,nM⟩)
 case rest=>
  obtain⟨rfl,iI⟩:=hcut
  go_upto_region 5 with fail
  go_cut [7](fun s7 wx=>s7= .int .i64 p∧Hid (dt w (.cells #[.int .i64 6, .int .i64 0, .string ⟨#[105,102]⟩, .slice (some ⟨b,off,none⟩) 3 cap] 232 (0,0)) (.cells #[.string c.name, .slice fa c.fields.length fc] 91 (0,0)) wx))
  case first=>
   obtain⟨z0,z1,z2,z3⟩:=ab iI.out.1
   obtain⟨y0,y1⟩:=af iI.out.2.1
   obtain⟨x0,x1,x2,x3⟩:=TU.out _ iI.out.2.2.2.1
   go_region_law(first|(go_simp;go_at_call 193;refine(gZ.out _ (by exact iI.out.2.2.2.1.drew)).mono ?_;rintro e w1⟨rfl,aw⟩;have nM:=hD (iI.out.drew.below aw);clear aw))
   all_goals(go_wp2_with fail;go_meet;exact⟨rfl,nM⟩)
  case rest=>
   obtain⟨rfl,fI⟩:=hcut
   go_upto_region 6 with fail
   go_cut [8](fun s8 wx=>s8= .int .i64 p∧Hid (dt w (.cells #[.int .i64 6, .int .i64 0, .string ⟨#[105,102]⟩, .slice (some ⟨b,off,none⟩) 3 cap] 232 (0,0)) (.cells #[.string c.name, .slice fa c.fields.length fc] 91 (0,0)) wx))
   case first=>
    obtain⟨z0,z1,z2,z3⟩:=ab fI.out.1
    obtain⟨y0,y1⟩:=af fI.out.2.1
    obtain⟨x0,x1,x2,x3⟩:=TV.out _ fI.out.2.2.2.1
    go_region_law(first|(go_simp;go_at_call 193;refine(jN.out _ (by exact fI.out.2.2.2.1.drew)).mono ?_;rintro e w1⟨rfl,aw⟩;have nM:=hD (fI.out.drew.below aw);clear aw))
    all_goals(go_wp2_with fail;go_meet;exact⟨rfl,nM⟩)
   case rest=>
    obtain⟨rfl,kp⟩:=hcut
    obtain⟨r0,r1⟩:=af kp.out.2.2.1
    have f0:=aa kp.out.2.2.1 0
    have f1:=aa kp.out.2.2.1 1
    have Cg:=kp.out.2.2.2.1
    have NY:=hD Cg;clear Cg
    clear TT TU TV we gZ jN Sf iI fI
    rcases hp with rfl|rfl
    all_goals
     go_wp2_with fail
     refine bodyPost_ret (v:= .tuple #[.agg #[.int .i64 _, .int .i64 0], .bool true]) (by simp[results,Tryz.results194,go_sem,r0,r1];try rfl) rfl ⟨rfl,?_⟩
     exact(NY.out.setCell (by simp;omega) _).setCell (by simp;omega) _
theorem yr {l:List UInt8}{x:an}(h:dq l=some x):fX x=true∧ju x≤8∧dA x≤40:=by
 unfold dq at h
 split at h
 ·cases h
 ·split at h
  ·split at h
   ·rename_i hc;cases h;exact hc.2
   ·cases h
  ·cases h
theorem tQ {c:ai}(hc:aH c=true){f:ak}(hf:f∈c.fields):∃i:Nat,fieldAt c f.name=i∧c.fields[i]? =some f:=by
 obtain⟨i,hi⟩:=List.getElem?_of_mem hf
 exact⟨i,(((aZ c).1 hc).2.2 i f (List.getElem?_eq_some_iff.1 hi).1 hi).2,hi⟩
theorem Fh(s:ByteArray):bL s.data.toList=s:=(bB rfl).symm
theorem oS:∀s∈names9,s≠[55]∧s≠[34,97,32,98,34]∧s≠[]:=by decide
theorem tR {c:ai}(hc:aH c=true)(hn:∀f∈c.fields,f.name.data.toList∈names9){f:ak}(hf:f∈c.fields):ie c (qK f.name.data.toList) f.type:=by
 obtain⟨h1,h2,_⟩:=oS _ (hn f hf)
 obtain⟨i,h3,h4⟩:=tQ hc hf
 unfold qK
 rw[if_neg h1,if_neg h2]
 unfold fE
 rw[Fh]
 exact CW c f.name f i h3 h4
theorem Fj {c:ai}(hc:aH c=true)(hn:∀f∈c.fields,f.name.data.toList∈names9){s:ByteArray}(h:qU c s):s.data.toList∈[55]::names9∧ie c (qK s.data.toList) ⟨1,0⟩:=by
 rcases h with rfl|⟨f,hf,ht,rfl⟩
 ·exact⟨by decide,gn c 1 7 (bL []) [] (.inl rfl)⟩
 ·exact⟨List.mem_cons_of_mem _ (hn f hf),ht▸tR hc hn hf⟩
theorem Am {c:ai}(hc:aH c=true)(hn:∀f∈c.fields,f.name.data.toList∈names9){s:ByteArray}(h:nv c s):s.data.toList∈[34,97,32,98,34]::names9∧ie c (qK s.data.toList) ⟨2,0⟩:=by
 rcases h with rfl|⟨f,hf,ht,rfl⟩
 ·exact⟨by decide,gn c 2 0 (bL [97,32,98]) [] (.inr rfl)⟩
 ·exact⟨List.mem_cons_of_mem _ (hn f hf),ht▸tR hc hn hf⟩
section
variable {c:ai}{num txt:an}(hx:ie c num ⟨1,0⟩)(hy:ie c txt ⟨2,0⟩)
include hx hy
theorem Gp:∀x∈mB num txt,ie c x ⟨1,0⟩:=by
 have px:fe c num 1:=fU c num ⟨1,0⟩ (.inl rfl) hx
 have py:fe c txt 2:=fU c txt ⟨2,0⟩ (.inr rfl) hy
 have pn:∀n,fe c (nE n) 1:=fun n=>fU c _ ⟨1,0⟩ (.inl rfl) (gn c 1 n _ _ (.inl rfl))
 have pt:∀s,fe c (tE s) 2:=fun s=>fU c _ ⟨2,0⟩ (.inr rfl) (gn c 2 0 _ _ (.inr rfl))
 have Sj:∀s x y,(s=[42]∨s=[45]∨s=[47])→fe c x 1→fe c y 1→ie c (E7 s x y) ⟨1,0⟩:=fun s x y hs h1 h2=>sT c s x y 1 1 _ h1 h2 (.inr (.inr ⟨hs,rfl,rfl,rfl⟩))
 have pop:∀s x y,(s=[42]∨s=[45]∨s=[47])→fe c x 1→fe c y 1→fe c (E7 s x y) 1:=fun s x y hs h1 h2=>fU c _ ⟨1,0⟩ (.inl rfl) (Sj s x y hs h1 h2)
 intro x hm
 simp only[mB,List.mem_cons,List.not_mem_nil,or_false]at hm
 rcases hm with rfl|rfl|rfl|rfl|rfl|rfl|rfl
 ·exact gn c 1 3 _ _ (.inl rfl)
 ·exact hx
 ·exact Sj _ _ _ (.inr (.inl rfl)) (pop _ _ _ (.inl rfl) px (pn 2)) (pn 1)
 ·exact call5 c [108,101,110] (by decide) [txt] rfl (fun i e u he hu=>by
   match i with
   |0=>simp at he;subst he;have:u=116:=by simpa [eo]using hu.symm
       subst this;exact py
   |n+1=>simp at he)
 ·exact qT c _ _ _ (Fe c _ _ _ 1 (.inl rfl) (fU c _ ⟨1,0⟩ (.inl rfl) (sT c [62] _ _ 1 1 _ px (pn 2) (.inr (.inl ⟨.inr rfl,rfl, .inl rfl,rfl⟩)))) px (pop _ _ _ (.inr (.inl rfl)) (pn 0) px))
 ·exact call5 c [102,105,110,100] (by decide) [tE [98],txt] rfl (fun i e u he hu=>by
   match i with
   |0=>simp at he;subst he;have:u=116:=by simpa [eo]using hu.symm
       subst this;exact pt _
   |1=>simp at he;subst he;have:u=116:=by simpa [eo]using hu.symm
       subst this;exact py
   |n+2=>simp at he)
 ·exact Sj _ _ _ (.inr (.inr rfl)) px px
theorem C6:∀x∈kz num txt,ie c x ⟨2,0⟩:=by
 have px:fe c num 1:=fU c num ⟨1,0⟩ (.inl rfl) hx
 have py:fe c txt 2:=fU c txt ⟨2,0⟩ (.inr rfl) hy
 have pn:∀n,fe c (nE n) 1:=fun n=>fU c _ ⟨1,0⟩ (.inl rfl) (gn c 1 n _ _ (.inl rfl))
 have pt:∀s,fe c (tE s) 2:=fun s=>fU c _ ⟨2,0⟩ (.inr rfl) (gn c 2 0 _ _ (.inr rfl))
 have Sj:∀x y,fe c x 2→fe c y 2→ie c (E7 [38] x y) ⟨2,0⟩:=fun x y h1 h2=>sT c [38] x y 2 2 _ h1 h2 (.inl ⟨rfl,rfl,rfl,rfl⟩)
 intro x hm
 simp only[kz,List.mem_cons,List.not_mem_nil,or_false]at hm
 rcases hm with rfl|rfl|rfl|rfl|rfl|rfl|rfl
 ·exact gn c 2 0 _ _ (.inr rfl)
 ·exact hy
 ·exact Sj _ _ (fU c _ ⟨2,0⟩ (.inr rfl) (Sj _ _ py (pt _))) py
 ·exact call5 c [116,101,120,116] (by decide) [num] rfl (fun i e u he hu=>by
   match i with
   |0=>simp at he;subst he;have:u=110:=by simpa [eo]using hu.symm
       subst this;exact px
   |n+1=>simp at he)
 ·exact call5 c [108,101,102,116] (by decide) [txt,nE 2] rfl (fun i e u he hu=>by
   match i with
   |0=>simp at he;subst he;have:u=116:=by simpa [eo]using hu.symm
       subst this;exact py
   |1=>simp at he;subst he;have:u=110:=by simpa [eo]using hu.symm
       subst this;exact pn _
   |n+2=>simp at he)
 ·exact call5 c [102,114,111,109] (by decide) [txt,nE 3] rfl (fun i e u he hu=>by
   match i with
   |0=>simp at he;subst he;have:u=116:=by simpa [eo]using hu.symm
       subst this;exact py
   |1=>simp at he;subst he;have:u=110:=by simpa [eo]using hu.symm
       subst this;exact pn _
   |n+2=>simp at he)
 ·exact qT c _ _ _ (Fe c _ _ _ 2 (.inr rfl) (fU c _ ⟨1,0⟩ (.inl rfl) (sT c [61] _ _ 1 1 _ px (pn 1) (.inr (.inl ⟨.inl rfl,rfl, .inl rfl,rfl⟩)))) py (pt _))
end
theorem Jm {α β:Type}{P:α×β→Bool}{l:List α}{m:List β}(h:(l.zip m).all P=true)(hl:l.length=m.length){a:α}(ha:a∈l):∃b∈m,P (a,b)=true:=by
 obtain⟨i,hi⟩:=List.getElem?_of_mem ha
 have xY:=(List.getElem?_eq_some_iff.1 hi).1
 have hm:m[i]? =some (m[i]'(by omega)):=List.getElem?_eq_getElem (by omega)
 refine⟨_,List.mem_of_getElem? hm,List.all_eq_true.1 h _ (List.mem_of_getElem? (i:=i) ?_)⟩
 rw[List.getElem?_zip_eq_some]
 exact⟨hi,hm⟩
theorem oT:dq []=none:=by decide
def pP(c:ai)(t:aJ)(s:ByteArray):Prop:=s.data.toList=[]∨∃x,dq s.data.toList=some x∧ie c x t
theorem wP(s:ByteArray)(w:World)(h:s.data.toList=[]∨∃x,dq s.data.toList=some x):Calls Tryz.prog 139 #[.string s] w fun e w'=>e= .returned (.bool true)∧Below w.heap.size w w':=by
 rcases h with h|⟨x,h⟩
 ·obtain rfl:=bB h
  clear h
  have HC:=hD (Ak w)
  go_enter Tryz.func139,Tryz.ntmps139
  go_wp2_with fail
  refine(HC.out).mono ?_
  rintro e w1⟨rfl,aw⟩
  have aO:=hD aw;clear aw
  go_wp2_with fail
  go_ret
  exact⟨rfl,aO.out.alloc aO.out.size _⟩
 ·have hz:(s.toList==[])=false:=by
   rw[ByteArray.toList_eq]
   cases hq:s.data.toList with
   |nil=>rw[hq,oT]at h;cases h
   |cons a r=>rfl
  have HC:=hD (Fc s w x h)
  clear h
  obtain⟨xk,xn,xs,xl⟩:=x
  go_enter Tryz.func139,Tryz.ntmps139
  go_wp2_with fail
  refine(HC.out).mono ?_
  rintro e w1⟨v,rfl,ek,aw⟩
  obtain⟨a,cap,rfl,_⟩:=dH ek
  clear ek
  have aO:=hD aw;clear aw
  go_wp2_with fail
  go_ret
  exact⟨rfl,aO.out.alloc aO.out.size _⟩
theorem An(c:ai)(t:aJ)(s:ByteArray)(h:pP c t s)(hc:aH c=true)(eU:c.name.size≤maxLen)(M:Nat→Prop)(w:World)(hM:Bd M w)(fv:Value)(bz:ae M w fv c.fields):
 Calls Tryz.prog 118 #[.string s, .agg #[.string c.name,fv], .agg #[.int .i64 t.kind, .int .i64 t.of]] w fun e w'=>e= .returned (.bool true)∧Below w.heap.size w w':=by
 have ij:=hD bz
 obtain⟨fa,fc,rfl,_⟩:=bz.open_
 clear bz
 rcases h with h|⟨x,h,hk⟩
 ·obtain rfl:=bB h
  clear h
  go_enter Tryz.func118,Tryz.ntmps118
  go_wp2_with fail
  go_ret
  exact⟨rfl,((Below.refl _ _).alloc (Nat.le_refl _) _).alloc (by simp) _⟩
 ·have hz:(s.toList==[])=false:=by
   rw[ByteArray.toList_eq]
   cases hq:s.data.toList with
   |nil=>rw[hq,oT]at h;cases h
   |cons a r=>rfl
  obtain⟨wh,wi,TE⟩:=yr h
  have HT:Hid (∀W v,Below w.heap.size w W→bI M W v x→Calls Tryz.prog 141 #[v, .agg #[.string c.name, .slice fa c.fields.length fc]] W fun e w'=>e= .returned (.tuple #[.agg #[.int .i64 t.kind, .int .i64 t.of], .int .i64 0])∧Below W.heap.size W w'):=(show∀W v,_→_→_ from fun W v hb ek=>MQ c x t hk wh wi TE hc eU M W v _ ek (ij.out.below hb))
  have HC:=hD (fun W=>Fc s W x h)
  clear h hk wh wi TE
  obtain⟨xk,xn,xs,xl⟩:=x
  obtain⟨tk,zT⟩:=t
  go_enter Tryz.func118,Tryz.ntmps118
  go_wp2_with fail
  refine(HC.out _).mono ?_
  rintro e w1⟨v,rfl,ek,aw⟩
  have mw:Below w.heap.size w w1:=(((Below.refl _ _).alloc (Nat.le_refl _) _).alloc (by simp) _).trans (aw.mono (by simp;omega))
  have T6:bI M w1 v (an.mk xk xn xs xl):=ek.ev (Ev.ee w1 fun i hi=>by have:=hM i hi;unfold eA;simp;omega)
  have vi:=hD T6
  obtain⟨a,cap,rfl,_⟩:=dH ek
  have we:=hD ((aw.block w.heap.size (by simp;omega)).trans (iM (w:=w) rfl).1)
  have gZ:=hD ((aw.block (w.heap.size+1) (by simp)).trans (iM (w:=w) rfl).2.1)
  have s1:=aw.size
  simp at s1
  obtain⟨c0,c1⟩:=af we.out
  obtain⟨t0,t1⟩:=af gZ.out
  have n0:w.heap.size≠w1.heap.size:=by omega
  have n1:w.heap.size+1≠w1.heap.size:=by omega
  have C0:∀o,(w1.alloc o).cell? ⟨w.heap.size,0,none⟩=some (.string c.name):=fun o=>(World.cell?_of_block (w:=w1) (Below.heap_alloc w1 o w.heap.size (by omega))).trans c0
  have C1:∀o,(w1.alloc o).cell? ⟨w.heap.size,1,none⟩=some (.slice fa c.fields.length fc):=fun o=>(World.cell?_of_block (w:=w1) (Below.heap_alloc w1 o w.heap.size (by omega))).trans c1
  have lR:=hD mw;clear mw
  clear ek T6 aw
  go_wp2_with fail
  refine(HT.out _ _ (by exact lR.out.alloc lR.out.size _) (vi.out.below ((Below.refl _ _).alloc (Nat.le_refl _) _))).mono ?_
  rintro e w2⟨rfl,aM⟩
  have aA:Hid (Below w.heap.size w w2):=(lR.out.alloc lR.out.size _).trans (aM.mono (by simp;omega))
  have s2:=aM.size
  simp at s2
  have HY1:=hD ((aM.block (w.heap.size+1) (by simp;omega)).trans ((Below.heap_alloc w1 _ (w.heap.size+1) (by omega)).trans gZ.out))
  clear c0 c1 t0 t1 aM
  obtain⟨t0,t1⟩:=af HY1.out
  have n2:w.heap.size+1≠w2.heap.size:=by omega
  have T0:∀o,(w2.alloc o).cell? ⟨w.heap.size+1,0,none⟩=some (.int .i64 tk):=fun o=>(World.cell?_of_block (w:=w2) (Below.heap_alloc w2 o (w.heap.size+1) (by omega))).trans t0
  have T1:∀o,(w2.alloc o).cell? ⟨w.heap.size+1,1,none⟩=some (.int .i64 zT):=fun o=>(World.cell?_of_block (w:=w2) (Below.heap_alloc w2 o (w.heap.size+1) (by omega))).trans t1
  go_wp2_with fail
  go_ret
  exact⟨rfl,aA.out.alloc aA.out.size _⟩
def lg(x:aq):Prop:=
 (x.kind=1∧x.field=⟨#[]⟩∧x.more=⟨#[]⟩∧x.other=⟨#[]⟩)∨
 (x.kind=2∧x.name=⟨#[]⟩∧x.more=⟨#[]⟩∧x.type=⟨0,0⟩∧x.expr=⟨#[]⟩∧x.other=⟨#[]⟩)∨
 (x.kind=3∧x.more=⟨#[]⟩∧x.type=⟨0,0⟩∧x.expr=⟨#[]⟩∧x.other=⟨#[]⟩)∨
 (x.kind=4∧x.name=⟨#[]⟩∧x.more=⟨#[]⟩∧x.other=⟨#[]⟩)∨
 (x.kind=5)∨
 (x.kind=6∧x.name=⟨#[]⟩∧x.more=⟨#[]⟩∧x.type=⟨0,0⟩∧x.expr=⟨#[]⟩∧x.other=⟨#[]⟩)
theorem Jn(x:aq)(h:lg x)(w:World):
 Calls Tryz.prog 138 #[.agg #[.int .i64 x.kind, .string x.field, .string x.name, .string x.more, .int .i64 x.type.kind, .int .i64 x.type.of, .string x.expr, .string x.other]] w fun e w'=>e= .returned (.agg #[.int .i64 x.kind, .string x.field, .string x.name, .string x.more, .int .i64 x.type.kind, .int .i64 x.type.of, .string x.expr, .string x.other])∧Below w.heap.size w w':=by
 obtain⟨k,f,n,m,⟨tk,tf⟩,e,o⟩:=x
 simp only[lg,aJ.mk.injEq]at h
 rcases h with⟨rfl,rfl,rfl,rfl⟩|⟨rfl,rfl,rfl,⟨rfl,rfl⟩,rfl,rfl⟩|⟨rfl,rfl,⟨rfl,rfl⟩,rfl,rfl⟩|⟨rfl,rfl,rfl,rfl⟩|rfl|⟨rfl,rfl,rfl,⟨rfl,rfl⟩,rfl,rfl⟩
 all_goals
  dsimp only
  go_enter Tryz.func138,Tryz.ntmps138
  go_wp2_with fail
  refine bodyPost_ret (v:= .agg #[_,_,_,_,_,_,_,_]) (by simp[results,Tryz.results138,go_sem]) rfl ⟨rfl,?_⟩
  repeat(first|exact Below.refl _ _|refine Below.setCell ?_ (by simp<;>omega) _|refine Below.alloc ?_ (by simp<;>omega) _)
theorem ah {W:World}{g:Nat}{c0 c1 c2 c3 c4 c5 c6 c7:Value}{t:TypeId}(h:W.heap[g]? =some (.cells #[c0,c1,c2,c3,c4,c5,c6,c7] t (0,0))):
 W.cell? ⟨g,0,none⟩=some c0∧W.cell? ⟨g,1,none⟩=some c1∧W.cell? ⟨g,2,none⟩=some c2∧W.cell? ⟨g,3,none⟩=some c3∧W.cell? ⟨g,4,none⟩=some c4∧W.cell? ⟨g,5,none⟩=some c5∧W.cell? ⟨g,6,none⟩=some c6∧W.cell? ⟨g,7,none⟩=some c7:=by simp[World.cell?,h]
def pQ(w:World)(o:Obj)(wx:World):Prop:=wx.heap[w.heap.size]? =some o∧Below w.heap.size w wx∧w.heap.size<wx.heap.size
theorem pQ.below {w wx w':World}{o:Obj}(h:pQ w o wx)(k:Below wx.heap.size wx w'):pQ w o w':=by
 have:=h.2.2
 have:=h.2.1.size
 have:=k.size
 exact⟨(k.block _ h.2.2).trans h.1,h.2.1.trans (k.mono (by omega)),by omega⟩
theorem pQ.drew {w wx:World}{o:Obj}(h:pQ w o wx):pQ w o wx.drew:=⟨h.1,h.2.1.drew,h.2.2⟩
def Jo(x:aq):Prop:=
 ((x.kind=1∨x.kind=3∨x.kind=5)→ax x.name=true)∧(x.kind=5→ax x.more=true)∧((x.kind=1∨x.kind=4∨x.kind=5)→aB x.type=true)∧
 (x.expr.data.toList=[]∨∃y,dq x.expr.data.toList=some y)∧(x.other.data.toList=[]∨∃y,dq x.other.data.toList=some y)∧
 x.field.size≤maxLen∧x.name.size≤maxLen∧x.more.size≤maxLen
theorem C7(x:aq)(h:lg x)(hf:Jo x)(b:Bool)(hb:(decide (x.kind=1)||ax x.field)=b)(w:World):
 Calls Tryz.prog 117 #[.agg #[.int .i64 x.kind, .string x.field, .string x.name, .string x.more, .int .i64 x.type.kind, .int .i64 x.type.of, .string x.expr, .string x.other]] w fun e w'=>e= .returned (.bool b)∧Below w.heap.size w w':=by
 have HN:Hid (∀w,_):=(show∀w,_ from Jn x h)
 obtain⟨k,f,n,m,⟨tk,tf⟩,e,o⟩:=x
 obtain⟨hn,hm,ht,he,ho,dc,iJ,nZ⟩:=hf
 have hk:k=1∨k=2∨k=3∨k=4∨k=5∨k=6:=by simp only[lg]at h;omega
 dsimp only at*
 have HT:=hD fun hk w=>lU true ⟨tk,tf⟩ w (ht hk)
 have su:=hD fun hk w=>eZ true n w (hn hk) iJ
 have TK:=hD fun hk w=>eZ true m w (hm hk) nZ
 have HF:=hD fun w=>eZ (ax f) f w rfl dc
 have Sk:=hD fun w=>wP e w he
 have Sl:=hD fun w=>wP o w ho
 clear hn hm ht he ho dc iJ nZ h
 go_enter Tryz.func117,Tryz.ntmps117
 go_upto_region 1 with fail
 obtain⟨W,hW⟩:∃W:World,W=w.alloc (.cells #[.int .i64 k, .string f, .string n, .string m, .int .i64 tk, .int .i64 tf, .string e, .string o] 142):=⟨_,rfl⟩
 rw[←hW]
 have HW:Hid (pQ w (.cells #[.int .i64 k, .string f, .string n, .string m, .int .i64 tk, .int .i64 tf, .string e, .string o] 142 (0,0)) W):=(show pQ _ _ _ by rw[hW];exact⟨(pI (w:=w) rfl).1,(Below.refl _ _).alloc (Nat.le_refl _) _,by simp⟩)
 clear hW
 go_cut [16](fun s16 wx=>s16= .bool false∧Hid (pQ w (.cells #[.int .i64 k, .string f, .string n, .string m, .int .i64 tk, .int .i64 tf, .string e, .string o] 142 (0,0)) wx))
 case first=>
  obtain⟨a0,a1,a2,a3,a4,a5,a6,a7⟩:=ah HW.out.1
  have ni:¬k<1:=by omega
  have hk6:¬6<k:=by omega
  go_region_law(first|(go_simp;go_at_call 138;refine(HN.out _).mono ?_;rintro e w1⟨rfl,aw⟩;have nM:=hD (HW.out.drew.below aw);clear aw;obtain⟨b0,b1,b2,b3,b4,b5,b6,b7⟩:=ah nM.out.1))
  all_goals(go_wp2_with fail;go_meet;exact⟨rfl,nM⟩)
 case rest=>
  obtain⟨rfl,fI⟩:=hcut
  clear HW HN
  obtain⟨a0,a1,a2,a3,a4,a5,a6,a7⟩:=ah fI.out.1
  rcases hk with rfl|rfl|rfl|rfl|rfl|rfl
  ·obtain rfl:true=b:=hb
   go_wp2_with fail
   refine(su.out (by simp) _).mono ?_
   rintro e w1⟨rfl,rfl⟩
   go_wp2_with fail
   refine(HT.out (by simp) _).mono ?_
   rintro e w3⟨rfl,bP⟩
   have kp:=hD (fI.out.below bP)
   clear bP
   clear a0 a1 a2 a3 a4 a5 a6 a7
   obtain⟨a0,a1,a2,a3,a4,a5,a6,a7⟩:=ah kp.out.1
   go_wp2_with fail
   refine(Sk.out _).mono ?_
   rintro e w4⟨rfl,eS⟩
   have nj:=hD (kp.out.below eS)
   clear eS
   clear a0 a1 a2 a3 a4 a5 a6 a7
   obtain⟨a0,a1,a2,a3,a4,a5,a6,a7⟩:=ah nj.out.1
   go_wp2_with fail
   refine(Sl.out _).mono ?_
   rintro e w5⟨rfl,sA⟩
   have nN:=hD (nj.out.below sA)
   clear sA
   clear a0 a1 a2 a3 a4 a5 a6 a7
   obtain⟨a0,a1,a2,a3,a4,a5,a6,a7⟩:=ah nN.out.1
   go_wp2_with fail
   go_ret
   exact⟨rfl,nN.out.2.1⟩
  ·have jq:ax f=b:=hb
   rw[jq]at HF
   clear hb jq
   go_wp2_with fail
   refine(HF.out _).mono ?_
   rintro e w1⟨rfl,rfl⟩
   cases b with
   |false=>
    go_wp2_with fail
    go_ret
    exact⟨rfl,fI.out.2.1⟩
   |true=>
    go_wp2_with fail
    refine(Sk.out _).mono ?_
    rintro e w3⟨rfl,bP⟩
    have kp:=hD (fI.out.below bP)
    clear bP
    clear a0 a1 a2 a3 a4 a5 a6 a7
    obtain⟨a0,a1,a2,a3,a4,a5,a6,a7⟩:=ah kp.out.1
    go_wp2_with fail
    refine(Sl.out _).mono ?_
    rintro e w4⟨rfl,eS⟩
    have nj:=hD (kp.out.below eS)
    clear eS
    clear a0 a1 a2 a3 a4 a5 a6 a7
    obtain⟨a0,a1,a2,a3,a4,a5,a6,a7⟩:=ah nj.out.1
    go_wp2_with fail
    go_ret
    exact⟨rfl,nj.out.2.1⟩
  ·have jq:ax f=b:=hb
   rw[jq]at HF
   clear hb jq
   go_wp2_with fail
   refine(HF.out _).mono ?_
   rintro e w1⟨rfl,rfl⟩
   cases b with
   |false=>
    go_wp2_with fail
    go_ret
    exact⟨rfl,fI.out.2.1⟩
   |true=>
    go_wp2_with fail
    refine(su.out (by simp) _).mono ?_
    rintro e w1⟨rfl,rfl⟩
    go_wp2_with fail
    refine(Sk.out _).mono ?_
    rintro e w3⟨rfl,bP⟩
    have kp:=hD (fI.out.below bP)
    clear bP
    clear a0 a1 a2 a3 a4 a5 a6 a7
    obtain⟨a0,a1,a2,a3,a4,a5,a6,a7⟩:=ah kp.out.1
    go_wp2_with fail
    refine(Sl.out _).mono ?_
    rintro e w4⟨rfl,eS⟩
    have nj:=hD (kp.out.below eS)
    clear eS
    clear a0 a1 a2 a3 a4 a5 a6 a7
    obtain⟨a0,a1,a2,a3,a4,a5,a6,a7⟩:=ah nj.out.1
    go_wp2_with fail
    go_ret
    exact⟨rfl,nj.out.2.1⟩
  ·have jq:ax f=b:=hb
   rw[jq]at HF
   clear hb jq
   go_wp2_with fail
   refine(HF.out _).mono ?_
   rintro e w1⟨rfl,rfl⟩
   cases b with
   |false=>
    go_wp2_with fail
    go_ret
    exact⟨rfl,fI.out.2.1⟩
   |true=>
    go_wp2_with fail
    refine(HT.out (by simp) _).mono ?_
    rintro e w3⟨rfl,bP⟩
    have kp:=hD (fI.out.below bP)
    clear bP
    clear a0 a1 a2 a3 a4 a5 a6 a7
    obtain⟨a0,a1,a2,a3,a4,a5,a6,a7⟩:=ah kp.out.1
    go_wp2_with fail
    refine(Sk.out _).mono ?_
    rintro e w4⟨rfl,eS⟩
    have nj:=hD (kp.out.below eS)
    clear eS
    clear a0 a1 a2 a3 a4 a5 a6 a7
    obtain⟨a0,a1,a2,a3,a4,a5,a6,a7⟩:=ah nj.out.1
    go_wp2_with fail
    refine(Sl.out _).mono ?_
    rintro e w5⟨rfl,sA⟩
    have nN:=hD (nj.out.below sA)
    clear sA
    clear a0 a1 a2 a3 a4 a5 a6 a7
    obtain⟨a0,a1,a2,a3,a4,a5,a6,a7⟩:=ah nN.out.1
    go_wp2_with fail
    go_ret
    exact⟨rfl,nN.out.2.1⟩
  ·have jq:ax f=b:=hb
   rw[jq]at HF
   clear hb jq
   go_wp2_with fail
   refine(HF.out _).mono ?_
   rintro e w1⟨rfl,rfl⟩
   cases b with
   |false=>
    go_wp2_with fail
    go_ret
    exact⟨rfl,fI.out.2.1⟩
   |true=>
    go_wp2_with fail
    refine(su.out (by simp) _).mono ?_
    rintro e w1⟨rfl,rfl⟩
    go_wp2_with fail
    refine(HT.out (by simp) _).mono ?_
    rintro e w3⟨rfl,bP⟩
    have kp:=hD (fI.out.below bP)
    clear bP
    clear a0 a1 a2 a3 a4 a5 a6 a7
    obtain⟨a0,a1,a2,a3,a4,a5,a6,a7⟩:=ah kp.out.1
    go_wp2_with fail
    refine(TK.out (by simp) _).mono ?_
    rintro e w1⟨rfl,rfl⟩
    go_wp2_with fail
    refine(Sk.out _).mono ?_
    rintro e w4⟨rfl,eS⟩
    have nj:=hD (kp.out.below eS)
    clear eS
    clear a0 a1 a2 a3 a4 a5 a6 a7
    obtain⟨a0,a1,a2,a3,a4,a5,a6,a7⟩:=ah nj.out.1
    go_wp2_with fail
    refine(Sl.out _).mono ?_
    rintro e w5⟨rfl,sA⟩
    have nN:=hD (nj.out.below sA)
    clear sA
    clear a0 a1 a2 a3 a4 a5 a6 a7
    obtain⟨a0,a1,a2,a3,a4,a5,a6,a7⟩:=ah nN.out.1
    go_wp2_with fail
    go_ret
    exact⟨rfl,nN.out.2.1⟩
  ·have jq:ax f=b:=hb
   rw[jq]at HF
   clear hb jq
   go_wp2_with fail
   refine(HF.out _).mono ?_
   rintro e w1⟨rfl,rfl⟩
   cases b with
   |false=>
    go_wp2_with fail
    go_ret
    exact⟨rfl,fI.out.2.1⟩
   |true=>
    go_wp2_with fail
    refine(Sk.out _).mono ?_
    rintro e w3⟨rfl,bP⟩
    have kp:=hD (fI.out.below bP)
    clear bP
    clear a0 a1 a2 a3 a4 a5 a6 a7
    obtain⟨a0,a1,a2,a3,a4,a5,a6,a7⟩:=ah kp.out.1
    go_wp2_with fail
    refine(Sl.out _).mono ?_
    rintro e w4⟨rfl,eS⟩
    have nj:=hD (kp.out.below eS)
    clear eS
    clear a0 a1 a2 a3 a4 a5 a6 a7
    obtain⟨a0,a1,a2,a3,a4,a5,a6,a7⟩:=ah nj.out.1
    go_wp2_with fail
    go_ret
    exact⟨rfl,nj.out.2.1⟩
structure ot(c:ai)(x:aq):Prop where
 sh:lg x
 name:(x.kind=1∨x.kind=3∨x.kind=5)→ax x.name=true
 more:x.kind=5→ax x.more=true
 type:(x.kind=1∨x.kind=4∨x.kind=5)→aB x.type=true
 expr:pP c x.type x.expr
 other:pP c x.type x.other
 s1:x.field.size≤maxLen
 s2:x.name.size≤maxLen
 s3:x.more.size≤maxLen
theorem ot.PI {c:ai}{x:aq}(h:ot c x):Jo x:=
 ⟨h.name,h.more,h.type,h.expr.imp_right fun⟨y,h,_⟩=>⟨y,h⟩,h.other.imp_right fun⟨y,h,_⟩=>⟨y,h⟩,h.s1,h.s2,h.s3⟩
def hasB(c:ai)(s:ByteArray):Bool:= !decide (fieldAt c s<0)
def tS(c:ai)(s:ByteArray):Int:=match c.fields[(fieldAt c s).toNat]? with|some f=>f.type.kind|none=>0
def gY(c:ai)(x:aq):Bool:=
 if x.kind=1 then decide ((c.fields.length:Int)<8)&& !hasB c x.name
 else if x.kind=2 then hasB c x.field
 else if x.kind=3 then hasB c x.field&& !hasB c x.name
 else if x.kind=4 then hasB c x.field
 else if x.kind=5 then hasB c x.field&&decide ((c.fields.length:Int)<8)&& !(x.name.toList==x.more.toList)&&(!hasB c x.name||x.name.toList==x.field.toList)&&(!hasB c x.more||x.more.toList==x.field.toList)
 else hasB c x.field&&decide (tS c x.field≤3)
theorem qV {a b:ByteArray}(h:(a.toList==b.toList)=true):a=b:=by
 rw[ByteArray.toList_eq,ByteArray.toList_eq,beq_iff_eq]at h
 exact(bB h).trans (Fh b)
theorem yt {c:ai}{s:ByteArray}(h:hasB c s=true):∃(i:Nat)(f:ak),fieldAt c s=i∧c.fields[i]? =some f∧f.name=s:=by
 unfold hasB at h
 simp only[Bool.not_eq_true',decide_eq_false_iff_not]at h
 unfold fieldAt idxOf at h⊢
 cases hq:c.fields.findIdx? (fun f=>bD f.name s)with
 |none=>rw[hq]at h;simp at h
 |some i=>
  obtain⟨hi,hp,_⟩:=List.findIdx?_eq_some_iff_getElem.1 hq
  exact⟨i,_,rfl,List.getElem?_eq_getElem hi,qV hp⟩
theorem Ao {c:ai}(hc:aH c=true){s:ByteArray}(h:hasB c s=true):ax s=true:=by
 obtain⟨i,f,_,hf,rfl⟩:=yt h
 have:=(((aZ c).1 hc).2.2 i f (List.getElem?_eq_some_iff.1 hf).1 hf).1
 unfold aY at this
 simp only[Bool.and_eq_true]at this
 exact this.1.1
theorem yu {c:ai}(hc:aH c=true){x:aq}(hs:lg x)(h:(decide (x.kind=1)||ax x.field)=false):gY c x=false:=by
 simp only[Bool.or_eq_false_iff,decide_eq_false_iff_not]at h
 have hn:hasB c x.field=false:=by
  cases hq:hasB c x.field with
  |false=>rfl
  |true=>rw[Ao hc hq]at h;simp at h
 unfold gY
 simp[h.1,hn]
def rN(w:World)(o0 o1:Obj)(wx:World):Prop:=wx.heap[w.heap.size]? =some o0∧wx.heap[w.heap.size+1]? =some o1∧Below w.heap.size w wx∧w.heap.size+1<wx.heap.size
theorem rN.below {w wx w':World}{o0 o1:Obj}(h:rN w o0 o1 wx)(k:Below wx.heap.size wx w'):rN w o0 o1 w':=by
 obtain⟨h1,h2,h3,h4⟩:=h
 have:=h3.size
 have:=k.size
 exact⟨(k.block _ (by omega)).trans h1,(k.block _ (by omega)).trans h2,h3.trans (k.mono (by omega)),by omega⟩
theorem rN.new(w:World)(o0 o1:Obj):rN w o0 o1 ((w.alloc o0).alloc o1):=⟨(iM (w:=w) rfl).1,(iM (w:=w) rfl).2.1,(iM (w:=w) rfl).2.2.2,by rw[(iM (w:=w) rfl).2.2.1];omega⟩
theorem rO(c:ai)(x:aq)(hp:ot c x)(hc:aH c=true)(eU:c.name.size≤maxLen)(b:Bool)(hb:gY c x=b)(M:Nat→Prop)(w:World)(hM:Bd M w)(fv:Value)(bz:ae M w fv c.fields):
 Calls Tryz.prog 91 #[.agg #[.string c.name,fv], .agg #[.int .i64 x.kind, .string x.field, .string x.name, .string x.more, .int .i64 x.type.kind, .int .i64 x.type.of, .string x.expr, .string x.other]] w fun e w'=>e= .returned (.bool b)∧Below w.heap.size w w':=by
 have WE:=hD fun bf Cg w=>C7 x hp.sh hp.PI bf Cg w
 have T7:=hD (yu hc hp.sh)
 have hk:x.kind=1∨x.kind=2∨x.kind=3∨x.kind=4∨x.kind=5∨x.kind=6:=by have:=hp.sh;simp only[lg]at this;omega
 have HTE:Hid (∀W fv,Bd M W→ae M W fv c.fields→_):=(show∀W fv,_→_→_ from fun W fv h1 h2=>An c x.type x.expr hp.expr hc eU M W h1 fv h2)
 have WG:Hid (∀W fv,Bd M W→ae M W fv c.fields→_):=(show∀W fv,_→_→_ from fun W fv h1 h2=>An c x.type x.other hp.other hc eU M W h1 fv h2)
 have HR:Hid (∀W fv,ae M W fv c.fields→_):=(show∀W fv,_→_ from fun W fv h=>jd M fv W c h eU hc)
 have Sm:Hid (∀W fv name at_ is,ae M W fv c.fields→_→_→_):=(show∀W fv name at_ is,_→_→_→_ from fun W fv name at_ is h h1 h2=>jS M fv W c name at_ is h h1 h2)
 have ij:=hD bz
 obtain⟨fa,fc,rfl,EK,u7,ao⟩:=bz.open_
 have vj:=hD ao
 clear hp bz ao
 obtain⟨k,f,n,m,⟨tk,tf⟩,e,o⟩:=x
 dsimp only at*
 obtain⟨bf,Cg⟩:∃bf,(decide (k=1)||ax f)=bf:=⟨_,rfl⟩
 have HFB:=hD (WE.out bf Cg)
 obtain⟨i1,O0⟩:∃i1,hasB c f=i1:=⟨_,rfl⟩
 obtain⟨i2,QL⟩:∃i1,hasB c n=i1:=⟨_,rfl⟩
 obtain⟨i3,zB⟩:∃i1,hasB c m=i1:=⟨_,rfl⟩
 obtain⟨p1,tp⟩:∃p,(if fieldAt c f<0 then 0 else fieldAt c f)=p:=⟨_,rfl⟩
 obtain⟨p2,zC⟩:∃p,(if fieldAt c n<0 then 0 else fieldAt c n)=p:=⟨_,rfl⟩
 obtain⟨p3,vI⟩:∃p,(if fieldAt c m<0 then 0 else fieldAt c m)=p:=⟨_,rfl⟩
 have oO:Hid (∀W,ae M W (.slice fa c.fields.length fc) c.fields→_):=(show∀W,_→_ from fun W h=>Sm.out W _ f p1 i1 h tp O0)
 have EL:Hid (∀W,ae M W (.slice fa c.fields.length fc) c.fields→_):=(show∀W,_→_ from fun W h=>Sm.out W _ n p2 i2 h zC QL)
 have HF3:Hid (∀W,ae M W (.slice fa c.fields.length fc) c.fields→_):=(show∀W,_→_ from fun W h=>Sm.out W _ m p3 i3 h vI zB)
 have HB:=hD hb;clear hb;have wu:=hD O0;clear O0;have mi:=hD QL;clear QL;have rF:=hD zB;clear zB;have Iq:=hD tp;clear tp;have NX:=hD zC;clear zC;have Sb:=hD vI;clear vI;have NY:=hD Cg;clear Cg
 clear Sm WE
 go_enter Tryz.func91,Tryz.ntmps91
 go_wp2_with fail
 refine(HR.out _ _ (ij.out.below (rN.new _ _ _).2.2.1)).mono ?_
 rintro e w1⟨rfl,aw⟩
 have iI:Hid (rN w (.cells #[.string c.name, .slice fa c.fields.length fc] 91 (0,0)) (.cells #[.int .i64 k, .string f, .string n, .string m, .int .i64 tk, .int .i64 tf, .string e, .string o] 142 (0,0)) w1):=(rN.new w _ _).below aw
 clear aw
 obtain⟨c0,c1⟩:=af iI.out.1
 obtain⟨a0,a1,a2,a3,a4,a5,a6,a7⟩:=ah iI.out.2.1
 go_wp2_with fail
 refine(HFB.out _).mono ?_
 rintro e w2⟨rfl,aM⟩
 have fI:=hD (iI.out.below aM)
 clear aM
 clear c0 c1 a0 a1 a2 a3 a4 a5 a6 a7
 obtain⟨c0,c1⟩:=af fI.out.1
 obtain⟨a0,a1,a2,a3,a4,a5,a6,a7⟩:=ah fI.out.2.1
 cases bf with
 |false=>
  obtain rfl:false=b:=(T7.out NY.out).symm.trans HB.out
  go_wp2_with fail
  go_ret
  exact⟨rfl,fI.out.2.2.1⟩
 |true=>
  go_wp2_with fail
  refine(oO.out _ (ij.out.below fI.out.2.2.1)).mono ?_
  rintro e w3⟨rfl,bP⟩
  have kp:=hD (fI.out.below bP)
  clear bP
  clear c0 c1 a0 a1 a2 a3 a4 a5 a6 a7
  obtain⟨c0,c1⟩:=af kp.out.1
  obtain⟨a0,a1,a2,a3,a4,a5,a6,a7⟩:=ah kp.out.2.1
  go_wp2_with fail
  refine(EL.out _ (ij.out.below kp.out.2.2.1)).mono ?_
  rintro e w4⟨rfl,eS⟩
  have nj:=hD (kp.out.below eS)
  clear eS
  clear c0 c1 a0 a1 a2 a3 a4 a5 a6 a7
  obtain⟨c0,c1⟩:=af nj.out.1
  obtain⟨a0,a1,a2,a3,a4,a5,a6,a7⟩:=ah nj.out.2.1
  go_wp2_with fail
  refine(HF3.out _ (ij.out.below nj.out.2.2.1)).mono ?_
  rintro e w5⟨rfl,sA⟩
  have nN:=hD (nj.out.below sA)
  clear sA
  clear c0 c1 a0 a1 a2 a3 a4 a5 a6 a7
  obtain⟨c0,c1⟩:=af nN.out.1
  obtain⟨a0,a1,a2,a3,a4,a5,a6,a7⟩:=ah nN.out.2.1
  go_wp2_with fail
  refine(HTE.out _ _ (hM.below nN.out.2.2.1) (ij.out.below nN.out.2.2.1)).mono ?_
  rintro e w6⟨rfl,qy⟩
  have nO:=hD (nN.out.below qy)
  clear qy
  clear c0 c1 a0 a1 a2 a3 a4 a5 a6 a7
  obtain⟨c0,c1⟩:=af nO.out.1
  obtain⟨a0,a1,a2,a3,a4,a5,a6,a7⟩:=ah nO.out.2.1
  rcases hk with rfl|rfl|rfl|rfl|rfl|rfl
  ·by_cases hl:(c.fields.length:Int)<8
   ·cases i2 with
    |false=>
     obtain rfl:true=b:=by rw[←HB.out];simp[gY,hl,mi.out]
     go_wp2_with fail
     go_ret
     exact⟨rfl,nO.out.2.2.1⟩
    |true=>
     obtain rfl:false=b:=by rw[←HB.out];simp[gY,hl,mi.out]
     go_wp2_with fail
     go_ret
     exact⟨rfl,nO.out.2.2.1⟩
   ·obtain rfl:false=b:=by rw[←HB.out];simp[gY,hl]
    go_wp2_with fail
    go_ret
    exact⟨rfl,nO.out.2.2.1⟩
  ·cases i1 with
   |false=>
    obtain rfl:false=b:=by rw[←HB.out];simp[gY,wu.out]
    go_wp2_with fail
    go_ret
    exact⟨rfl,nO.out.2.2.1⟩
   |true=>
    obtain rfl:true=b:=by rw[←HB.out];simp[gY,wu.out]
    go_wp2_with fail
    go_ret
    exact⟨rfl,nO.out.2.2.1⟩
  ·cases i1 with
   |false=>
    obtain rfl:false=b:=by rw[←HB.out];simp[gY,wu.out]
    go_wp2_with fail
    go_ret
    exact⟨rfl,nO.out.2.2.1⟩
   |true=>
    cases i2 with
    |false=>
     obtain rfl:true=b:=by rw[←HB.out];simp[gY,wu.out,mi.out]
     go_wp2_with fail
     go_ret
     exact⟨rfl,nO.out.2.2.1⟩
    |true=>
     obtain rfl:false=b:=by rw[←HB.out];simp[gY,wu.out,mi.out]
     go_wp2_with fail
     go_ret
     exact⟨rfl,nO.out.2.2.1⟩
  ·cases i1 with
   |false=>
    obtain rfl:false=b:=by rw[←HB.out];simp[gY,wu.out]
    go_wp2_with fail
    go_ret
    exact⟨rfl,nO.out.2.2.1⟩
   |true=>
    obtain rfl:true=b:=by rw[←HB.out];simp[gY,wu.out]
    go_wp2_with fail
    go_ret
    exact⟨rfl,nO.out.2.2.1⟩
  ·cases i1 with
   |false=>
    obtain rfl:false=b:=by rw[←HB.out];simp[gY,wu.out]
    go_wp2_with fail
    go_ret
    exact⟨rfl,nO.out.2.2.1⟩
   |true=>
    by_cases hl:(c.fields.length:Int)<8
    ·by_cases mf:(n.toList==m.toList)=true
     ·obtain rfl:false=b:=by rw[←HB.out];simp[gY,wu.out,hl,mf]
      go_wp2_with fail
      go_ret
      exact⟨rfl,nO.out.2.2.1⟩
     ·cases i2 with
      |false=>
       cases i3 with
       |false=>
        obtain rfl:true=b:=by rw[←HB.out];simp[gY,wu.out,hl,mf,mi.out,rF.out]
        go_wp2_with fail
        refine(WG.out _ _ (hM.below nO.out.2.2.1) (ij.out.below nO.out.2.2.1)).mono ?_
        rintro e w7⟨rfl,oP⟩
        have rG:=hD (nO.out.below oP)
        clear oP
        clear c0 c1 a0 a1 a2 a3 a4 a5 a6 a7
        obtain⟨c0,c1⟩:=af rG.out.1
        obtain⟨a0,a1,a2,a3,a4,a5,a6,a7⟩:=ah rG.out.2.1
        go_wp2_with fail
        go_ret
        exact⟨rfl,rG.out.2.2.1⟩
       |true=>
        by_cases Is:(m.toList==f.toList)=true
        ·obtain rfl:true=b:=by rw[←HB.out];simp[gY,wu.out,hl,mf,mi.out,rF.out,Is]
         go_wp2_with fail
         refine(WG.out _ _ (hM.below nO.out.2.2.1) (ij.out.below nO.out.2.2.1)).mono ?_
         rintro e w7⟨rfl,oP⟩
         have rG:=hD (nO.out.below oP)
         clear oP
         clear c0 c1 a0 a1 a2 a3 a4 a5 a6 a7
         obtain⟨c0,c1⟩:=af rG.out.1
         obtain⟨a0,a1,a2,a3,a4,a5,a6,a7⟩:=ah rG.out.2.1
         go_wp2_with fail
         go_ret
         exact⟨rfl,rG.out.2.2.1⟩
        ·obtain rfl:false=b:=by rw[←HB.out];simp[gY,wu.out,hl,mf,mi.out,rF.out,Is]
         go_wp2_with fail
         go_ret
         exact⟨rfl,nO.out.2.2.1⟩
      |true=>
       by_cases WH:(n.toList==f.toList)=true
       ·cases i3 with
        |false=>
         obtain rfl:true=b:=by rw[←HB.out];simp[gY,wu.out,hl,mf,mi.out,WH,rF.out]
         go_wp2_with fail
         refine(WG.out _ _ (hM.below nO.out.2.2.1) (ij.out.below nO.out.2.2.1)).mono ?_
         rintro e w7⟨rfl,oP⟩
         have rG:=hD (nO.out.below oP)
         clear oP
         clear c0 c1 a0 a1 a2 a3 a4 a5 a6 a7
         obtain⟨c0,c1⟩:=af rG.out.1
         obtain⟨a0,a1,a2,a3,a4,a5,a6,a7⟩:=ah rG.out.2.1
         go_wp2_with fail
         go_ret
         exact⟨rfl,rG.out.2.2.1⟩
        |true=>
         by_cases Is:(m.toList==f.toList)=true
         ·obtain rfl:true=b:=by rw[←HB.out];simp[gY,wu.out,hl,mf,mi.out,WH,rF.out,Is]
          go_wp2_with fail
          refine(WG.out _ _ (hM.below nO.out.2.2.1) (ij.out.below nO.out.2.2.1)).mono ?_
          rintro e w7⟨rfl,oP⟩
          have rG:=hD (nO.out.below oP)
          clear oP
          clear c0 c1 a0 a1 a2 a3 a4 a5 a6 a7
          obtain⟨c0,c1⟩:=af rG.out.1
          obtain⟨a0,a1,a2,a3,a4,a5,a6,a7⟩:=ah rG.out.2.1
          go_wp2_with fail
          go_ret
          exact⟨rfl,rG.out.2.2.1⟩
         ·obtain rfl:false=b:=by rw[←HB.out];simp[gY,wu.out,hl,mf,mi.out,WH,rF.out,Is]
          go_wp2_with fail
          go_ret
          exact⟨rfl,nO.out.2.2.1⟩
       ·obtain rfl:false=b:=by rw[←HB.out];simp[gY,wu.out,hl,mf,mi.out,WH]
        go_wp2_with fail
        go_ret
        exact⟨rfl,nO.out.2.2.1⟩
    ·obtain rfl:false=b:=by rw[←HB.out];simp[gY,wu.out,hl]
     go_wp2_with fail
     go_ret
     exact⟨rfl,nO.out.2.2.1⟩
  ·have qcg:fieldAt c f<c.fields.length:=tA c f
   cases i1 with
   |false=>
    go_wp2_with fail
    refine(oO.out _ (ij.out.below nO.out.2.2.1)).mono ?_
    rintro e w7⟨rfl,oP⟩
    have rG:=hD (nO.out.below oP)
    clear oP
    clear c0 c1 a0 a1 a2 a3 a4 a5 a6 a7
    obtain⟨c0,c1⟩:=af rG.out.1
    obtain⟨a0,a1,a2,a3,a4,a5,a6,a7⟩:=ah rG.out.2.1
    obtain rfl:false=b:=by rw[←HB.out];simp[gY,wu.out]
    go_wp2_with fail
    go_ret
    exact⟨rfl,rG.out.2.2.1⟩
   |true=>
    obtain⟨q,fd,hq,zE,N1⟩:=yt wu.out
    obtain rfl:(q:Int)=p1:=by rw[←Iq.out,hq,if_neg (by omega)]
    have hql:=(List.getElem?_eq_some_iff.1 zE).1
    obtain⟨bl,off,rfl,xW,bZ,aC⟩:=vj.out (by omega)
    obtain⟨cs,⟨rfl,_⟩,T8⟩:=aC q fd zE
    have gz:w.cell? ⟨bl,off+q*4+1,none⟩=some (.int .i64 fd.type.kind):=T8 1 _ rfl
    have IK:tS c f=fd.type.kind:=by unfold tS;rw[hq];simp[zE]
    go_wp2_with fail
    refine(oO.out _ (ij.out.below nO.out.2.2.1)).mono ?_
    rintro e w7⟨rfl,oP⟩
    have rG:=hD (nO.out.below oP)
    clear oP
    clear c0 c1 a0 a1 a2 a3 a4 a5 a6 a7
    obtain⟨c0,c1⟩:=af rG.out.1
    obtain⟨a0,a1,a2,a3,a4,a5,a6,a7⟩:=ah rG.out.2.1
    have qw:w7.cell? ⟨bl,off+q*4+1,none⟩=some (.int .i64 fd.type.kind):=(rG.out.2.2.1.cell (p:=⟨bl,off+q*4+1,none⟩) bZ).trans gz
    clear gz aC T8 N1 hq zE
    by_cases zF:fd.type.kind≤3
    ·obtain rfl:true=b:=by rw[←HB.out];simp[gY,wu.out,IK,zF]
     go_wp2_with fail
     go_ret
     exact⟨rfl,rG.out.2.2.1⟩
    ·obtain rfl:false=b:=by rw[←HB.out];simp[gY,wu.out,IK,zF]
     go_wp2_with fail
     go_ret
     exact⟨aN (by simp[zF]),rG.out.2.2.1⟩
theorem qW {a b:ByteArray}:bD a b=true↔a=b:=⟨fun h=>qV h,fun h=>by subst h;simp[bD]⟩
theorem Ap {a b:ByteArray}(h:a≠b):bD a b=false:=by
 cases hq:bD a b with
 |false=>rfl
 |true=>exact absurd (qW.1 hq) h
def bN(x:aq)(f:ak):List ak:=
 if !(bD f.name x.field)||decide (x.kind=1)then[f]
 else if x.kind=2 then[]else if x.kind=3 then[⟨x.name,f.type,f.indexed⟩]else if x.kind=4 then[⟨f.name,x.type,false⟩]
 else if x.kind=5 then[⟨x.name,x.type,false⟩,⟨x.more,x.type,false⟩]else[⟨f.name,f.type,!f.indexed⟩]
def Fk(x:aq):List ak:=if x.kind=1 then[⟨x.name,x.type,false⟩]else[]
def bC(c:ai)(x:aq):ai:=⟨c.name,c.fields.flatMap (bN x)++Fk x⟩
theorem de(c:ai):aH c=true↔ax c.name=true∧c.fields.length≤8∧(∀f∈c.fields,aY f=true)∧(c.fields.map (·.name)).Nodup:=by
 rw[aZ]
 refine and_congr_right fun _=>and_congr_right fun _=>⟨fun h=>⟨fun f hf=> ?_,?_⟩,fun⟨h1,h2⟩j f hj hf=>⟨h1 f (List.mem_of_getElem? hf),?_⟩⟩
 ·obtain⟨i,hi⟩:=List.getElem?_of_mem hf
  exact(h i f (List.getElem?_eq_some_iff.1 hi).1 hi).1
 ·rw[List.Nodup,List.pairwise_iff_getElem]
  intro i j hi hj FU e
  simp only[List.length_map]at hi hj
  simp only[List.getElem_map]at e
  have a1:=(h i _ hi (List.getElem?_eq_getElem hi)).2
  have a2:=(h j _ hj (List.getElem?_eq_getElem hj)).2
  rw[e]at a1
  omega
 ·refine idxOf_hit (k:=j) (x:=f) (fun y hy=> ?_) hf (qW.2 rfl)
  refine Ap fun e=> ?_
  obtain⟨i,hi⟩:=List.getElem?_of_mem hy
  have xY:i<j:=by
   have:=(List.getElem?_eq_some_iff.1 hi).1
   simp at this;omega
  have Mn:=jR hi
  rw[List.Nodup,List.pairwise_iff_getElem]at h2
  have hl:=(List.getElem?_eq_some_iff.1 Mn)
  have sK:=(List.getElem?_eq_some_iff.1 hf)
  refine h2 i j (by simpa using hl.1) (by simpa using sK.1) xY ?_
  simp only[List.getElem_map,hl.2,sK.2,e]
structure gi(c:ai)(s:ByteArray)(pre:List ak)(f:ak)(post:List ak):Prop where
 eq:c.fields=pre++f::post
 name:f.name=s
 at_:fieldAt c s=pre.length
 pre_:∀g∈pre,g.name≠s
 post_:∀g∈post,g.name≠s
theorem lh {c:ai}(hc:aH c=true){s:ByteArray}(h:hasB c s=true):∃pre f post,gi c s pre f post:=by
 obtain⟨i,f,ha,hf,rfl⟩:=yt h
 obtain⟨hi,he⟩:=List.getElem?_eq_some_iff.1 hf
 have IU:=((de c).1 hc).2.2.2
 have Sn:c.fields=c.fields.take i++f::c.fields.drop (i+1):=by
  rw[←he,List.getElem_cons_drop,List.take_append_drop]
 rw[Sn]at IU
 simp only[List.map_append,List.map_cons,List.nodup_append,List.nodup_cons]at IU
 refine⟨c.fields.take i,f,c.fields.drop (i+1),Sn,rfl,by rw[ha,List.length_take];omega,fun g hg e=> ?_,fun g hg e=> ?_⟩
 ·exact IU.2.2 g.name (List.mem_map_of_mem hg) f.name (List.mem_cons_self) e
 ·exact IU.2.1.1 (e▸List.mem_map_of_mem (f:=fun g:ak=>g.name) hg)
theorem yx {x:aq}{g:ak}(h:g.name≠x.field):bN x g=[g]:=by
 unfold bN;simp[Ap h]
theorem pR {x:aq}{l:List ak}(h:∀g∈l,g.name≠x.field):l.flatMap (bN x)=l:=by
 induction l with
 |nil=>rfl
 |cons a r ih=>
  rw[List.flatMap_cons,yx (h a List.mem_cons_self),ih fun g hg=>h g (List.mem_cons_of_mem _ hg)];rfl
def gI(x:aq)(f:ak):List ak:=
 if x.kind=2 then[]else if x.kind=3 then[⟨x.name,f.type,f.indexed⟩]else if x.kind=4 then[⟨f.name,x.type,false⟩]
 else if x.kind=5 then[⟨x.name,x.type,false⟩,⟨x.more,x.type,false⟩]else[⟨f.name,f.type,!f.indexed⟩]
theorem ep {c:ai}{x:aq}{pre post:List ak}{f:ak}(h:gi c x.field pre f post)(hk:x.kind≠1):bC c x=⟨c.name,pre++gI x f++post⟩:=by
 have e:bN x f=gI x f:=by unfold bN gI;rw[h.name];simp[qW.2 rfl,hk]
 unfold bC Fk
 rw[h.eq,List.flatMap_append,List.flatMap_cons,pR h.pre_,pR h.post_,e]
 simp[hk]
theorem nw {c:ai}{x:aq}(hk:x.kind=1):bC c x=⟨c.name,c.fields++[⟨x.name,x.type,false⟩]⟩:=by
 have e:∀l:List ak,l.flatMap (bN x)=l:=fun l=>by
  induction l with
  |nil=>rfl
  |cons a r ih=>rw[List.flatMap_cons,ih];simp[bN,hk]
 unfold bC Fk
 rw[e,if_pos hk]
theorem C8 {c:ai}{s:ByteArray}(h:hasB c s=false):∀g∈c.fields,g.name≠s:=by
 intro g hg e
 obtain⟨i,hi⟩:=List.getElem?_of_mem hg
 have:=rK hi
 rw[e]at this
 unfold hasB at h
 simp at h
 omega
theorem kC {nm:ByteArray}{pre post OH:List ak}{f:ak}(hc:aH ⟨nm,pre++f::post⟩=true)(hl:pre.length+OH.length+post.length≤8)(hm:∀g∈OH,aY g=true)(hn:(OH.map (·.name)).Nodup)(hd:∀g∈OH,∀k,k∈pre∨k∈post→k.name≠g.name):
 aH ⟨nm,pre++OH++post⟩=true:=by
 obtain⟨h1,h2,h3,h4⟩:=(de _).1 hc
 refine(de _).2 ⟨h1,by simp;omega,fun g hg=> ?_,?_⟩
 ·simp only[List.mem_append]at hg
  rcases hg with(hg|hg)|hg
  ·exact h3 g (by simp[hg])
  ·exact hm g hg
  ·exact h3 g (by simp[hg])
 ·simp only[List.map_append,List.map_cons,List.nodup_append,List.nodup_cons]at h4⊢
  refine⟨⟨h4.1,hn,fun a ha b hb=> ?_⟩,h4.2.1.2,fun a ha b hb=> ?_⟩
  ·obtain⟨g,hg,rfl⟩:=List.mem_map.1 ha
   obtain⟨k,hk,rfl⟩:=List.mem_map.1 hb
   exact hd k hk g (.inl hg)
  ·rcases List.mem_append.1 ha with ha|ha
   ·exact h4.2.2 a ha b (List.mem_cons_of_mem _ hb)
   ·obtain⟨g,hg,rfl⟩:=List.mem_map.1 ha
    obtain⟨k,hk,rfl⟩:=List.mem_map.1 hb
    exact fun e=>hd g hg k (.inr hk) e.symm
theorem rP {f:ak}(h:aY f=true):ax f.name=true∧aB f.type=true∧(f.indexed=true→f.type.kind≤3):=by
 unfold aY at h
 simp only[Bool.and_eq_true,Bool.or_eq_true,Bool.not_eq_true',decide_eq_true_eq]at h
 exact⟨h.1.1,h.1.2,fun hi=>by rcases h.2 with h|h;rw[hi]at h;cases h;exact h⟩
theorem kD {n:ByteArray}{t:aJ}{i:Bool}(hn:ax n=true)(ht:aB t=true)(hi:i=true→t.kind≤3):aY ⟨n,t,i⟩=true:=by
 unfold aY
 cases i with
 |false=>simp[hn,ht]
 |true=>simp[hn,ht,hi rfl]
theorem Aq {c:ai}{x:aq}(hc:aH c=true)(hp:ot c x)(hb:gY c x=true):aH (bC c x)=true:=by
 obtain⟨h1,h2,h3,h4⟩:=(de _).1 hc
 have hk:x.kind=1∨x.kind=2∨x.kind=3∨x.kind=4∨x.kind=5∨x.kind=6:=by have:=hp.sh;simp only[lg]at this;omega
 by_cases ni:x.kind=1
 ·rw[nw ni]
  have jq:=hb
  unfold gY at jq
  rw[if_pos ni]at jq
  simp only[Bool.and_eq_true,decide_eq_true_eq,Bool.not_eq_true']at jq
  have B7:=C8 jq.2
  refine(de _).2 ⟨h1,by simp;omega,fun g hg=> ?_,?_⟩
  ·simp only[List.mem_append,List.mem_cons,List.not_mem_nil,or_false]at hg
   rcases hg with hg|rfl
   ·exact h3 g hg
   ·exact kD (hp.name (.inl ni)) (hp.type (.inl ni)) (fun h=>by cases h)
  ·simp only[List.map_append,List.map_cons,List.map_nil,List.nodup_append,List.nodup_cons]
   refine⟨h4,⟨by simp,by simp⟩,fun a ha b hb=> ?_⟩
   obtain⟨g,hg,rfl⟩:=List.mem_map.1 ha
   simp at hb;subst hb
   exact B7 g hg
 ·have hf:hasB c x.field=true:=by
   have jq:=hb
   unfold gY at jq
   rw[if_neg ni]at jq
   rcases hk with h|h|h|h|h|h
   ·exact absurd h ni
   all_goals simp[h]at jq;first|exact jq|exact jq.1|exact jq.1.1|exact jq.1.1.1.1
  obtain⟨pre,f,post,ha⟩:=lh hc hf
  rw[ep ha ni]
  have hc':aH ⟨c.name,pre++f::post⟩=true:=by rw[←ha.eq];exact hc
  have hlen:pre.length+1+post.length≤8:=by have:=h2;rw[ha.eq]at this;simp at this;omega
  have kX:=rP (h3 f (by rw[ha.eq];simp))
  have hold:∀k,k∈pre∨k∈post→k∈c.fields∧k.name≠x.field:=fun k hk=>by
   rcases hk with hk|hk
   ·exact⟨by rw[ha.eq];simp[hk],ha.pre_ k hk⟩
   ·exact⟨by rw[ha.eq];simp[hk],ha.post_ k hk⟩
  unfold gY at hb
  rw[if_neg ni]at hb
  rcases hk with hk|hk|hk|hk|hk|hk
  ·exact absurd hk ni
  ·have e:gI x f=[]:=by simp[gI,hk]
   rw[e]
   exact kC hc' (by simp;omega) (fun g hg=>by simp at hg) (by simp) (fun g hg=>by simp at hg)
  ·have e:gI x f=[⟨x.name,f.type,f.indexed⟩]:=by simp[gI,hk]
   simp[hk]at hb
   rw[e]
   refine kC hc' (by simp;omega) (fun g hg=> ?_) (by simp) (fun g hg k hk=> ?_)
   ·simp at hg;subst hg;exact kD (hp.name (.inr (.inl hk))) kX.2.1 kX.2.2
   ·simp at hg;subst hg;exact C8 hb.2 k (hold k hk).1
  ·have e:gI x f=[⟨f.name,x.type,false⟩]:=by simp[gI,hk]
   rw[e]
   refine kC hc' (by simp;omega) (fun g hg=> ?_) (by simp) (fun g hg k hk=> ?_)
   ·simp at hg;subst hg;exact kD kX.1 (hp.type (.inr (.inl hk))) (fun h=>by cases h)
   ·simp at hg;subst hg;have:=(hold k hk).2;rw[←ha.name]at this;exact this
  ·have e:gI x f=[⟨x.name,x.type,false⟩,⟨x.more,x.type,false⟩]:=by simp[gI,hk]
   simp only[hk]at hb
   simp at hb
   have hne:x.name≠x.more:=fun h=>hb.1.1.2 (by rw[h])
   have ho:∀(s:ByteArray),(hasB c s=false∨s.toList=x.field.toList)→∀k,k∈pre∨k∈post→k.name≠s:=fun s hs k hk=>by
    rcases hs with hs|hs
    ·exact C8 hs k (hold k hk).1
    ·have:s=x.field:=qV (by simp[hs])
     rw[this];exact(hold k hk).2
   rw[e]
   have Sp:c.fields.length<8:=by have:=hb.1.1.1.2;omega
   have hl9:pre.length+1+post.length<8:=by have:=Sp;rw[ha.eq]at this;simp at this;omega
   refine kC hc' (by simp;omega) (fun g hg=> ?_) (by simp[hne]) (fun g hg k hk=> ?_)
   ·simp at hg;rcases hg with rfl|rfl
    ·exact kD (hp.name (.inr (.inr hk))) (hp.type (.inr (.inr hk))) (fun h=>by cases h)
    ·exact kD (hp.more hk) (hp.type (.inr (.inr hk))) (fun h=>by cases h)
   ·simp at hg;rcases hg with rfl|rfl
    ·exact ho _ hb.1.2 k hk
    ·exact ho _ hb.2 k hk
  ·have e:gI x f=[⟨f.name,f.type,!f.indexed⟩]:=by simp[gI,hk]
   simp[hk]at hb
   have zF:f.type.kind≤3:=by
    have h:=hb.2
    unfold tS at h
    rw[ha.at_,ha.eq]at h
    simpa using h
   rw[e]
   refine kC hc' (by simp;omega) (fun g hg=> ?_) (by simp) (fun g hg k hk=> ?_)
   ·simp at hg;subst hg;exact kD kX.1 kX.2.1 (fun _=>zF)
   ·simp at hg;subst hg;have:=(hold k hk).2;rw[←ha.name]at this;exact this
inductive jM(c:ai):an→aJ→Prop
 |num(n:Int):0≤n→n≤9→jM c (nE n) ⟨1,0⟩
 |txt(s:List UInt8):s∈([[120],[45],[98],[110,111],[97,32,98]]:List (List UInt8))→jM c (tE s) ⟨2,0⟩
 |fld(f:ak)(i:Nat):fieldAt c f.name=i→c.fields[i]? =some f→jM c (.mk 3 0 f.name []) f.type
 |ari(s:List UInt8)(a b:an):s=[42]∨s=[45]∨s=[47]→jM c a ⟨1,0⟩→jM c b ⟨1,0⟩→jM c (E7 s a b) ⟨1,0⟩
 |cat(a b:an):jM c a ⟨2,0⟩→jM c b ⟨2,0⟩→jM c (E7 [38] a b) ⟨2,0⟩
 |cmp(s:List UInt8)(a b:an):s=[61]∨s=[62]→jM c a ⟨1,0⟩→jM c b ⟨1,0⟩→jM c (E7 s a b) ⟨1,0⟩
 |len(a:an):jM c a ⟨2,0⟩→jM c (ky [108,101,110] [a]) ⟨1,0⟩
 |text(a:an):jM c a ⟨1,0⟩→jM c (ky [116,101,120,116] [a]) ⟨2,0⟩
 |left(a b:an):jM c a ⟨2,0⟩→jM c b ⟨1,0⟩→jM c (ky [108,101,102,116] [a,b]) ⟨2,0⟩
 |from_(a b:an):jM c a ⟨2,0⟩→jM c b ⟨1,0⟩→jM c (ky [102,114,111,109] [a,b]) ⟨2,0⟩
 |find(a b:an):jM c a ⟨2,0⟩→jM c b ⟨2,0⟩→jM c (ky [102,105,110,100] [a,b]) ⟨1,0⟩
 |ite(a b d:an)(p:Int):p=1∨p=2→jM c a ⟨1,0⟩→jM c b ⟨p,0⟩→jM c d ⟨p,0⟩→jM c (ky [105,102] [a,b,d]) ⟨p,0⟩
theorem C9 {c:ai}(hc:aH c=true)(hn:∀f∈c.fields,f.name.data.toList∈names9){f:ak}(hf:f∈c.fields):jM c (qK f.name.data.toList) f.type:=by
 obtain⟨h1,h2,_⟩:=oS _ (hn f hf)
 obtain⟨i,h3,h4⟩:=tQ hc hf
 unfold qK
 rw[if_neg h1,if_neg h2]
 unfold fE
 rw[Fh]
 exact .fld f i h3 h4
theorem Jp {c:ai}(hc:aH c=true)(hn:∀f∈c.fields,f.name.data.toList∈names9){s:ByteArray}(h:qU c s):s.data.toList∈[55]::names9∧jM c (qK s.data.toList) ⟨1,0⟩:=by
 rcases h with rfl|⟨f,hf,ht,rfl⟩
 ·exact⟨by decide, .num 7 (by omega) (by omega)⟩
 ·exact⟨List.mem_cons_of_mem _ (hn f hf),ht▸C9 hc hn hf⟩
theorem Fl {c:ai}(hc:aH c=true)(hn:∀f∈c.fields,f.name.data.toList∈names9){s:ByteArray}(h:nv c s):s.data.toList∈[34,97,32,98,34]::names9∧jM c (qK s.data.toList) ⟨2,0⟩:=by
 rcases h with rfl|⟨f,hf,ht,rfl⟩
 ·exact⟨by decide, .txt [97,32,98] (by decide)⟩
 ·exact⟨List.mem_cons_of_mem _ (hn f hf),ht▸C9 hc hn hf⟩
theorem MU {c:ai}{num txt:an}(hx:jM c num ⟨1,0⟩)(hy:jM c txt ⟨2,0⟩):∀x∈mB num txt,jM c x ⟨1,0⟩:=by
 intro x hm
 simp only[mB,List.mem_cons,List.not_mem_nil,or_false]at hm
 rcases hm with rfl|rfl|rfl|rfl|rfl|rfl|rfl
 ·exact .num 3 (by omega) (by omega)
 ·exact hx
 ·exact .ari _ _ _ (.inr (.inl rfl)) (.ari _ _ _ (.inl rfl) hx (.num 2 (by omega) (by omega))) (.num 1 (by omega) (by omega))
 ·exact .len _ hy
 ·exact .ite _ _ _ 1 (.inl rfl) (.cmp _ _ _ (.inr rfl) hx (.num 2 (by omega) (by omega))) hx (.ari _ _ _ (.inr (.inl rfl)) (.num 0 (by omega) (by omega)) hx)
 ·exact .find _ _ (.txt _ (by decide)) hy
 ·exact .ari _ _ _ (.inr (.inr rfl)) hx hx
theorem Jq {c:ai}{num txt:an}(hx:jM c num ⟨1,0⟩)(hy:jM c txt ⟨2,0⟩):∀x∈kz num txt,jM c x ⟨2,0⟩:=by
 intro x hm
 simp only[kz,List.mem_cons,List.not_mem_nil,or_false]at hm
 rcases hm with rfl|rfl|rfl|rfl|rfl|rfl|rfl
 ·exact .txt _ (by decide)
 ·exact hy
 ·exact .cat _ _ (.cat _ _ hy (.txt _ (by decide))) hy
 ·exact .text _ hx
 ·exact .left _ _ hy (.num 2 (by omega) (by omega))
 ·exact .from_ _ _ hy (.num 3 (by omega) (by omega))
 ·exact .ite _ _ _ 2 (.inr rfl) (.cmp _ _ _ (.inl rfl) hx (.num 1 (by omega) (by omega))) hy (.txt _ (by decide))
structure Jr(c:ai)(t:aJ)(s:List UInt8)(x:an):Prop where
 parse:dq s=some x
 kind:ie c x t
 ty:jM c x t
theorem Ar {c:ai}(hc:aH c=true)(hn:∀f∈c.fields,f.name.data.toList∈names9){t:aJ}{s:ByteArray}(h:fO c t s)(hs:s.data.toList≠[]):∃x,Jr c t s.data.toList x:=by
 rcases h with⟨rfl,num,txt,h1,h2,h3⟩|⟨rfl,num,txt,h1,h2,h3⟩|⟨h1,h2,h3⟩
 ·obtain⟨a1,a2⟩:=Fj hc hn h1
  obtain⟨b1,b2⟩:=Am hc hn h2
  have hm:s.data.toList∈PB num.data.toList txt.data.toList:=by
   simp only[mG,List.mem_cons,List.not_mem_nil,or_false]at h3
   rcases h3 with rfl|rfl|rfl|rfl|rfl|rfl|rfl|rfl
   ·exact absurd rfl hs
   all_goals simp[PB,Joins.data_append]
  have hall:=List.all_eq_true.1 (List.all_eq_true.1 I5 _ a1) _ b1
  obtain⟨x,hx,ng⟩:=Jm hall rfl hm
  exact⟨x,qL ng,Gp a2 b2 x hx,MU (Jp hc hn h1).2 (Fl hc hn h2).2 x hx⟩
 ·obtain⟨a1,a2⟩:=Fj hc hn h1
  obtain⟨b1,b2⟩:=Am hc hn h2
  have hm:s.data.toList∈CN num.data.toList txt.data.toList:=by
   simp only[kB,List.mem_cons,List.not_mem_nil,or_false]at h3
   rcases h3 with rfl|rfl|rfl|rfl|rfl|rfl|rfl|rfl
   ·exact absurd rfl hs
   all_goals simp[CN,Joins.data_append]
  have hall:=List.all_eq_true.1 (List.all_eq_true.1 Gb _ a1) _ b1
  obtain⟨x,hx,ng⟩:=Jm hall rfl hm
  exact⟨x,qL ng,C6 a2 b2 x hx,Jq (Jp hc hn h1).2 (Fl hc hn h2).2 x hx⟩
 ·rcases h3 with rfl|⟨f,hf,ht,rfl⟩
  ·exact absurd rfl hs
  ·have h9:=hn f hf
   have ng:=List.all_eq_true.1 Gc _ h9
   have hk:=tR hc hn hf
   have vm:=C9 hc hn hf
   obtain⟨q1,q2,_⟩:=oS _ h9
   unfold qK at hk vm
   rw[if_neg q1,if_neg q2,ht]at hk vm
   exact⟨_,qL ng,hk,vm⟩
def mH(c:ai)(t:aJ)(s:ByteArray):Prop:=s.data.toList=[]∨∃x,Jr c t s.data.toList x
theorem mH.lY {c:ai}{t:aJ}{s:ByteArray}(h:mH c t s):pP c t s:=h.imp_right fun⟨x,hx⟩=>⟨x,hx.parse,hx.kind⟩
structure gJ(c:ai)(x:aq):Prop where
 pre:ot c x
 expr:mH c x.type x.expr
 other:mH c x.type x.other
 name9:(x.kind=1∨x.kind=3∨x.kind=5)→x.name.data.toList∈names9
 more9:x.kind=5→x.more.data.toList∈names9
structure bR(c:ai):Prop where
 right:aH c=true
 names:∀f∈c.fields,f.name.data.toList∈names9
 small:c.name.size≤20
theorem yz:∀s∈names9,s.length≤20:=by decide
theorem tT {s:ByteArray}(h:s.data.toList∈names9):s.size≤20:=by have:=yz _ h;rwa [aP]at this
theorem Gq {c:ai}{x:aq}(hg:gJ c x){f:ak}(hf:f.name.data.toList∈names9):∀g∈gI x f,g.name.data.toList∈names9:=by
 intro g h
 unfold gI at h
 split at h
 ·simp at h
 ·split at h
  ·rename_i hk;simp at h;subst h;exact hg.name9 (.inr (.inl hk))
  ·split at h
   ·simp at h;subst h;exact hf
   ·split at h
    ·rename_i hk;simp at h
     rcases h with rfl|rfl
     ·exact hg.name9 (.inr (.inr hk))
     ·exact hg.more9 hk
    ·simp at h;subst h;exact hf
theorem MV {c:ai}{x:aq}(hs:lg x)(hb:gY c x=true)(ni:x.kind≠1):hasB c x.field=true:=by
 have hk:x.kind=1∨x.kind=2∨x.kind=3∨x.kind=4∨x.kind=5∨x.kind=6:=by simp only[lg]at hs;omega
 unfold gY at hb
 rw[if_neg ni]at hb
 rcases hk with h|h|h|h|h|h
 ·exact absurd h ni
 all_goals simp[h]at hb;first|exact hb|exact hb.1|exact hb.1.1|exact hb.1.1.1.1
theorem Js {c:ai}{x:aq}(hc:bR c)(hg:gJ c x)(hb:gY c x=true):bR (bC c x):=by
 refine⟨Aq hc.right hg.pre hb,?_,hc.small⟩
 by_cases hk:x.kind=1
 ·rw[nw hk]
  intro f hf
  simp only[List.mem_append,List.mem_cons,List.not_mem_nil,or_false]at hf
  rcases hf with hf|rfl
  ·exact hc.names f hf
  ·exact hg.name9 (.inl hk)
 ·obtain⟨pre,f,post,ha⟩:=lh hc.right (MV hg.pre.sh hb hk)
  rw[ep ha hk]
  have jP:∀g,g∈pre++f::post→g.name.data.toList∈names9:=fun g hg=>hc.names g (by rw[ha.eq];exact hg)
  intro g h
  simp only[List.mem_append]at h
  rcases h with(h|h)|h
  ·exact jP g (by simp[h])
  ·exact Gq hg (jP f (by simp)) g h
  ·exact jP g (by simp[h])
inductive cu:ai→List aq→ai→Prop
 |nil(c:ai):cu c [] c
 |cons(c d:ai)(x:aq)(l:List aq):gJ c x→gY c x=true→cu (bC c x) l d→cu c (x::l) d
theorem cu.ok {c d:ai}{l:List aq}(h:cu c l d)(hc:bR c):bR d:=by
 induction h with
 |nil c=>exact hc
 |cons c d x l hg hb _ ih=>exact ih (Js hc hg hb)
theorem cu.snoc {c d:ai}{l:List aq}{x:aq}(h:cu c l d)(hg:gJ d x)(hb:gY d x=true):cu c (l++[x]) (bC d x):=by
 induction h with
 |nil c=>exact .cons _ _ _ _ hg hb (.nil _)
 |cons c d y l h1 h2 _ ih=>exact .cons _ _ _ _ h1 h2 (ih hg hb)
theorem cu.split {c d:ai}{l:List aq}(h:cu c l d)(i:Nat):∃e,cu c (l.take i) e∧cu e (l.drop i) d:=by
 induction h generalizing i with
 |nil c=>exact⟨c,by simpa using cu.nil c,by simpa using cu.nil c⟩
 |cons c d y l h1 h2 h3 ih=>
  cases i with
  |zero=>exact⟨c, .nil c, .cons _ _ _ _ h1 h2 h3⟩
  |succ i=>
   obtain⟨e,k1,k2⟩:=ih i
   exact⟨e, .cons _ _ _ _ h1 h2 k1,k2⟩
theorem cu.eq {c d e:ai}{l:List aq}(h:cu c l d)(k:cu c l e):d=e:=by
 induction h with
 |nil c=>cases k;rfl
 |cons c d y l h1 h2 h3 ih=>cases k with|cons _ _ _ _ _ _ k3=>exact ih k3
theorem ny {W:World}{K:Nat}(hK:W.heap.size=K)(o:Obj):(W.alloc o).heap[K]? =some o:=by subst hK;exact heap_alloc_new W o
theorem wQ {α:Type} [az α]{M:Nat→Prop}{W:World}{K:Nat}{t:TypeId}{xs:List α}{cells:Array Value}(css:List (List Value))(hM:¬M K)(hK:W.heap[K]? =some (.cells cells t (0,0)))(hc:cells.toList=css.flatten)(hl:css.length=xs.length)
 (hr:∀(i:Nat)(cs:List Value)(x:α),css[i]? =some cs→xs[i]? =some x→az.rep M W cs x)(hm:xs.length≤maxLen):ae M W (.slice (some ⟨K,0,none⟩) xs.length xs.length) xs:=by
 have cB:∀(n:Nat)(css:List (List Value))(xs:List α),css.length=n→xs.length=n→(∀(i:Nat)(cs:List Value)(x:α),css[i]? =some cs→xs[i]? =some x→az.rep M W cs x)→css.flatten.length=n*az.size α:=by
  intro n
  induction n with
  |zero=>intro css xs h1 _ _;rw[List.length_eq_zero_iff.1 h1];simp
  |succ n ih=>
   intro css xs h1 h2 h
   match css,xs,h1,h2 with
   |c::css,x::xs,h1,h2=>
    rw[List.flatten_cons,List.length_append,ih css xs (by simpa using h1) (by simpa using h2) (fun i cs y hc hy=>h (i+1) cs y (by simpa using hc) (by simpa using hy)),az.len (h 0 c x rfl rfl),Nat.succ_mul];omega
 refine⟨css,⟨cB _ css xs hl rfl hr,some ⟨K,0,none⟩,xs.length,rfl,Nat.le_refl _,hm,fun _=>⟨K,0,rfl,hM,(Array.getElem?_eq_some_iff.1 hK).1,fun j u hu=> ?_⟩⟩,hl,hr⟩
 rw[Nat.zero_add]
 rw[←hc]at hu
 exact cell_of_heap hK (by simpa using hu)
def Da(f:ak):List Value:=[.string f.name, .int .i64 f.type.kind, .int .i64 f.type.of, .bool f.indexed]
theorem kE {M:Nat→Prop}{W:World}{K:Nat}{t:TypeId}(f:ak)(hs:f.name.size≤maxLen)(hM:¬M K)(hK:W.heap[K]? =some (.cells #[.string f.name, .int .i64 f.type.kind, .int .i64 f.type.of, .bool f.indexed] t (0,0))):ae M W (.slice (some ⟨K,0,none⟩) 1 1) [f]:=
 wQ [Da f] hM hK rfl rfl (fun i cs x hc hx=>by
  match i with
  |0=>simp at hc hx;subst hc hx;exact⟨rfl,hs⟩
  |n+1=>simp at hc) (by unfold maxLen;simp)
theorem Db {M:Nat→Prop}{W:World}{K:Nat}{t:TypeId}(f g:ak)(hs:f.name.size≤maxLen)(hg:g.name.size≤maxLen)(hM:¬M K)(hK:W.heap[K]? =some (.cells #[.string f.name, .int .i64 f.type.kind, .int .i64 f.type.of, .bool f.indexed, .string g.name, .int .i64 g.type.kind, .int .i64 g.type.of, .bool g.indexed] t (0,0))):ae M W (.slice (some ⟨K,0,none⟩) 2 2) [f,g]:=
 wQ [Da f,Da g] hM hK rfl rfl (fun i cs x hc hx=>by
  match i with
  |0=>simp at hc hx;subst hc hx;exact⟨rfl,hs⟩
  |1=>simp at hc hx;subst hc hx;exact⟨rfl,hg⟩
  |n+2=>simp at hc) (by unfold maxLen;simp)
theorem Dc(x:aq)(f:ak)(hk:x.kind=1∨x.kind=2∨x.kind=3∨x.kind=4∨x.kind=5∨x.kind=6)(hs:f.name.size≤maxLen)(dc:x.name.size≤maxLen)(iJ:x.more.size≤maxLen)(M:Nat→Prop)(w:World)(hM:Bd M w):
 Calls Tryz.prog 119 #[.agg #[.string f.name, .int .i64 f.type.kind, .int .i64 f.type.of, .bool f.indexed], .agg #[.int .i64 x.kind, .string x.field, .string x.name, .string x.more, .int .i64 x.type.kind, .int .i64 x.type.of, .string x.expr, .string x.other]] w (aF w fun v w'=>ae M w' v (bN x f)):=by
 have Sq:∀K,w.heap.size≤K→¬M K:=fun K h hm=>by have:=hM K hm;omega
 obtain⟨k,fi,n,m,⟨tk,tf⟩,e,o⟩:=x
 obtain⟨fn,⟨fk,fo⟩,ix⟩:=f
 dsimp only at*
 by_cases hq:(fn.toList==fi.toList)=true
 ·rcases hk with rfl|rfl|rfl|rfl|rfl|rfl
  ·have ht:bN ⟨1,fi,n,m,⟨tk,tf⟩,e,o⟩ ⟨fn,⟨fk,fo⟩,ix⟩=[⟨fn,⟨fk,fo⟩,ix⟩]:=by simp[bN]
   rw[ht]
   have HT:=hD ht;clear ht
   go_enter Tryz.func119,Tryz.ntmps119
   go_wp2_with fail
   go_ret
   exact⟨_,rfl,kE ⟨fn,⟨fk,fo⟩,ix⟩ hs (Sq _ (by omega)) (ny (by simp) _),(by repeat(first|exact Below.refl _ _|refine Below.setCell ?_ (by simp<;>omega) _|refine Below.alloc ?_ (by simp<;>omega) _))⟩
  ·have ht:bN ⟨2,fi,n,m,⟨tk,tf⟩,e,o⟩ ⟨fn,⟨fk,fo⟩,ix⟩=[]:=by simp[bN,bD,hq]
   rw[ht]
   have HT:=hD ht;clear ht
   go_enter Tryz.func119,Tryz.ntmps119
   go_wp2_with fail
   go_ret
   exact⟨_,rfl,ae.nil _ _,(by repeat(first|exact Below.refl _ _|refine Below.setCell ?_ (by simp<;>omega) _|refine Below.alloc ?_ (by simp<;>omega) _))⟩
  ·have ht:bN ⟨3,fi,n,m,⟨tk,tf⟩,e,o⟩ ⟨fn,⟨fk,fo⟩,ix⟩=[⟨n,⟨fk,fo⟩,ix⟩]:=by simp[bN,bD,hq]
   rw[ht]
   have HT:=hD ht;clear ht
   go_enter Tryz.func119,Tryz.ntmps119
   go_wp2_with fail
   go_ret
   exact⟨_,rfl,kE ⟨n,⟨fk,fo⟩,ix⟩ dc (Sq _ (by omega)) (ny (by simp) _),(by repeat(first|exact Below.refl _ _|refine Below.setCell ?_ (by simp<;>omega) _|refine Below.alloc ?_ (by simp<;>omega) _))⟩
  ·have ht:bN ⟨4,fi,n,m,⟨tk,tf⟩,e,o⟩ ⟨fn,⟨fk,fo⟩,ix⟩=[⟨fn,⟨tk,tf⟩,false⟩]:=by simp[bN,bD,hq]
   rw[ht]
   have HT:=hD ht;clear ht
   go_enter Tryz.func119,Tryz.ntmps119
   go_wp2_with fail
   go_ret
   exact⟨_,rfl,kE ⟨fn,⟨tk,tf⟩,false⟩ hs (Sq _ (by omega)) (ny (by simp) _),(by repeat(first|exact Below.refl _ _|refine Below.setCell ?_ (by simp<;>omega) _|refine Below.alloc ?_ (by simp<;>omega) _))⟩
  ·have ht:bN ⟨5,fi,n,m,⟨tk,tf⟩,e,o⟩ ⟨fn,⟨fk,fo⟩,ix⟩=[⟨n,⟨tk,tf⟩,false⟩,⟨m,⟨tk,tf⟩,false⟩]:=by simp[bN,bD,hq]
   rw[ht]
   have HT:=hD ht;clear ht
   go_enter Tryz.func119,Tryz.ntmps119
   go_wp2_with fail
   go_ret
   exact⟨_,rfl,Db ⟨n,⟨tk,tf⟩,false⟩ ⟨m,⟨tk,tf⟩,false⟩ dc iJ (Sq _ (by omega)) (ny (by simp) _),(by repeat(first|exact Below.refl _ _|refine Below.setCell ?_ (by simp<;>omega) _|refine Below.alloc ?_ (by simp<;>omega) _))⟩
  ·have ht:bN ⟨6,fi,n,m,⟨tk,tf⟩,e,o⟩ ⟨fn,⟨fk,fo⟩,ix⟩=[⟨fn,⟨fk,fo⟩,!ix⟩]:=by simp[bN,bD,hq]
   rw[ht]
   have HT:=hD ht;clear ht
   go_enter Tryz.func119,Tryz.ntmps119
   go_wp2_with fail
   go_ret
   exact⟨_,rfl,kE ⟨fn,⟨fk,fo⟩,!ix⟩ hs (Sq _ (by omega)) (ny (by simp) _),(by repeat(first|exact Below.refl _ _|refine Below.setCell ?_ (by simp<;>omega) _|refine Below.alloc ?_ (by simp<;>omega) _))⟩
 ·have ht:bN ⟨k,fi,n,m,⟨tk,tf⟩,e,o⟩ ⟨fn,⟨fk,fo⟩,ix⟩=[⟨fn,⟨fk,fo⟩,ix⟩]:=by simp[bN,bD,hq]
  rw[ht]
  have HT:=hD ht;clear ht
  go_enter Tryz.func119,Tryz.ntmps119
  go_wp2_with fail
  go_ret
  exact⟨_,rfl,kE ⟨fn,⟨fk,fo⟩,ix⟩ hs (Sq _ (by omega)) (ny (by simp) _),(by repeat(first|exact Below.refl _ _|refine Below.setCell ?_ (by simp<;>omega) _|refine Below.alloc ?_ (by simp<;>omega) _))⟩
def au.kind:au→Int| .mk k _ _ _=>k
def au.num:au→Int| .mk _ n _ _=>n
def au.list:au→List au| .mk _ _ _ l=>l
def bT(k:Int)(v:au):List Int:=if v.kind=k then[v.num]else(v.list.filter fun i=>decide (i.kind=k)).map au.num
theorem jk {k many j:Int}{v:au}(h:kj k many v)(hj:j=3∨j=4):(v.list=[]∧(v.kind=j→1≤v.num∧v.num≤many))∧(k=1∨k=2→v.kind≠j):=by
 rcases h with⟨rfl,n,rfl,_⟩|⟨rfl,s,rfl,_⟩|⟨hk,rfl|⟨n,rfl,h1,h2⟩⟩
 ·exact⟨⟨rfl,fun h=>by simp[au.kind]at h;omega⟩,fun _ h=>by simp[au.kind]at h;omega⟩
 ·exact⟨⟨rfl,fun h=>by simp[au.kind]at h;omega⟩,fun _ h=>by simp[au.kind]at h;omega⟩
 ·exact⟨⟨rfl,fun h=>by simp[au.kind]at h;omega⟩,fun h=>by omega⟩
 ·exact⟨⟨rfl,fun _=>⟨h1,h2⟩⟩,fun h=>by omega⟩
theorem oU {t:aJ}{many j:Int}{v:au}(h:cX t many v)(hj:j=3∨j=4):∀n∈bT j v,1≤n∧n≤many:=by
 intro n hn
 unfold bT at hn
 rcases h with⟨ht,l,rfl,hl,ha⟩|⟨ht,h1⟩
 ·rw[if_neg (by simp[au.kind];omega)]at hn
  obtain⟨i,hi,rfl⟩:=List.mem_map.1 hn
  obtain⟨h2,h3⟩:=List.mem_filter.1 hi
  exact(jk (ha i h2) hj).1.2 (by simpa using h3)
 ·obtain⟨⟨h2,h3⟩,_⟩:=jk h1 hj
  by_cases hk:v.kind=j
  ·rw[if_pos hk]at hn;simp at hn;subst hn;exact h3 hk
  ·rw[if_neg hk,h2]at hn;simp at hn
theorem Di {t:aJ}{many j:Int}{v:au}(h:cX t many v)(hj:j=3∨j=4)(ht:t.kind=1∨t.kind=2):bT j v=[]:=by
 unfold bT
 rcases h with⟨h5,_⟩|⟨_,h1⟩
 ·omega
 ·obtain⟨⟨h2,_⟩,h3⟩:=jk h1 hj
  rw[if_neg (h3 ht),h2];rfl
def iY(t:aJ):au:=if t.kind=3∨t.kind=4 then .mk 0 0 mu []else .mk t.kind 0 mu []
theorem Fs {t:aJ}(ht:aB t=true)(many:Int):cX t many (iY t)∧bT 3 (iY t)=[]:=by
 unfold aB at ht
 by_cases h5:t.kind=5
 ·have e:iY t= .mk 5 0 mu []:=by unfold iY;rw[if_neg (by omega),h5]
  rw[e]
  exact⟨.inl ⟨h5,[],rfl,by simp,fun x h=>by cases h⟩,rfl⟩
 ·rw[if_neg h5]at ht
  simp at ht
  by_cases zw:t.kind=3∨t.kind=4
  ·have e:iY t= .mk 0 0 mu []:=by unfold iY;rw[if_pos zw]
   rw[e]
   exact⟨.inr ⟨h5, .inr (.inr ⟨zw, .inl rfl⟩)⟩,rfl⟩
  ·have e:iY t= .mk t.kind 0 mu []:=by unfold iY;rw[if_neg zw]
   rw[e]
   refine⟨.inr ⟨h5,?_⟩,by simp[bT,au.kind,au.list];omega⟩
   have:t.kind=1∨t.kind=2:=by omega
   rcases this with h|h
   ·exact .inl ⟨h,0,by rw[h],by omega,by omega⟩
   ·exact .inr (.inl ⟨h,mu,by rw[h],by decide,gG [] (by decide) (by decide)⟩)
def Dj(c:ai)(e:an)(rs:List (List Int)):List Int:=if e.kind=3 then rs.getD (fieldAt c e.str).toNat []else[]
def jf(c:ai)(s:ByteArray)(rs:List (List Int)):List Int:=match dq s.data.toList with|some e=>Dj c e rs|none=>[]
def jX(c:ai)(t:aJ)(many:Int)(s:ByteArray)(vs:List au)(v:au):Prop:=cX t many v∧bT 3 v=jf c s (vs.map (bT 3))
def nA(c:ai)(t:aJ)(many:Int)(e:an)(vs:List au)(v:au):Prop:=cX t many v∧(e.kind=3→vs[(fieldAt c e.str).toNat]? =some v)
theorem JC {c:ai}{e:an}{t:aJ}(h:jM c e t):e.kind=3∨t.kind=1∨t.kind=2:=by
 cases h<;>first|exact .inl rfl|exact .inr (.inl rfl)|exact .inr (.inr rfl)|skip
 rename_i hp _ _ _
 exact .inr hp
theorem GA {c:ai}{t:aJ}{many:Int}{s:ByteArray}{e:an}{vs:List au}{v:au}(hp:dq s.data.toList=some e)(ht:jM c e t)(h:nA c t many e vs v):jX c t many s vs v:=by
 refine⟨h.1,?_⟩
 unfold jf
 rw[hp]
 unfold Dj
 by_cases hk:e.kind=3
 ·simp only[if_pos hk]
  rw[List.getD_eq_getElem?_getD,List.getElem?_map,h.2 hk];rfl
 ·simp only[if_neg hk]
  exact Di h.1 (.inl rfl) ((JC ht).resolve_left hk)
theorem JD {c:ai}{t:aJ}{many:Int}{s:ByteArray}{vs:List au}(hs:s.data.toList=[])(ht:aB t=true):jX c t many s vs (iY t):=by
 refine⟨(Fs ht many).1,?_⟩
 rw[(Fs ht many).2]
 unfold jf
 rw[hs]
 have:dq []=none:=by decide
 rw[this]
def kk(c:ai)(x:aq)(rs:List (List Int)):List (List Int):=
 if x.kind=1 then rs++[jf c x.expr rs]
 else if x.kind=2 then rs.take (fieldAt c x.field).toNat++rs.drop ((fieldAt c x.field).toNat+1)
 else if x.kind=4 then rs.take (fieldAt c x.field).toNat++jf c x.expr rs::rs.drop ((fieldAt c x.field).toNat+1)
 else if x.kind=5 then rs.take (fieldAt c x.field).toNat++jf c x.expr rs::jf c x.other rs::rs.drop ((fieldAt c x.field).toNat+1)
 else rs
def fC(c:ai)(x:aq)(many:Int)(vs WN:List au):Prop:=aW (bC c x).fields many WN∧WN.map (bT 3)=kk c x (vs.map (bT 3))
theorem aW.nil(many:Int):aW [] many []:=⟨rfl,fun i f v h=>by simp at h⟩
theorem aW.cons {f:ak}{fs:List ak}{many:Int}{v:au}{vs:List au}(h:cX f.type many v)(k:aW fs many vs):aW (f::fs) many (v::vs):=
 ⟨by simp[k.1],fun i g u hg hu=>by
   cases i with
   |zero=>simp at hg hu;subst hg hu;exact h
   |succ i=>exact k.2 i g u (by simpa using hg) (by simpa using hu)⟩
theorem aW.Dk {f:ak}{fs:List ak}{many:Int}{vs:List au}(h:aW (f::fs) many vs):∃v us,vs=v::us∧cX f.type many v∧aW fs many us:=by
 obtain⟨h1,h2⟩:=h
 cases vs with
 |nil=>simp at h1
 |cons v us=>exact⟨v,us,rfl,h2 0 f v rfl rfl,by simpa using h1,fun i g u hg hu=>h2 (i+1) g u (by simpa using hg) (by simpa using hu)⟩
theorem aW.app {fs gs:List ak}{many:Int}{vs us:List au}(h:aW fs many vs)(k:aW gs many us):aW (fs++gs) many (vs++us):=by
 induction fs generalizing vs with
 |nil=>have:=h.1;simp at this;subst this;exact k
 |cons f fs ih=>
  obtain⟨v,WN,rfl,h1,h2⟩:=h.Dk
  exact(ih h2).cons h1
theorem aW.S6 {fs gs:List ak}{many:Int}{vs:List au}(h:aW (fs++gs) many vs):aW fs many (vs.take fs.length)∧aW gs many (vs.drop fs.length):=by
 induction fs generalizing vs with
 |nil=>exact⟨by simpa using aW.nil many,by simpa using h⟩
 |cons f fs ih=>
  obtain⟨v,WN,rfl,h1,h2⟩:=aW.Dk h
  obtain⟨k1,k2⟩:=ih h2
  exact⟨k1.cons h1,by simpa using k2⟩
theorem aW.lh {fs:List ak}{pre post:List ak}{f:ak}{many:Int}{vs:List au}(h:aW fs many vs)(e:fs=pre++f::post):aW pre many (vs.take pre.length)∧aW post many (vs.drop (pre.length+1))∧∃v,vs[pre.length]? =some v∧cX f.type many v:=by
 subst e
 obtain⟨h1,h2⟩:=h.S6
 obtain⟨v,us,e,h3,h4⟩:=h2.Dk
 refine⟨h1,?_,v,?_,h3⟩
 ·rw[←List.drop_drop,e];simpa using h4
 ·have:(vs.drop pre.length)[0]? =some v:=by rw[e];rfl
  simpa using this
theorem JE {c:ai}{x:aq}{many:Int}{vs:List au}{v:au}(hk:x.kind=1)(h:aW c.fields many vs)(ht:jX c x.type many x.expr vs v):fC c x many vs (vs++[v]):=by
 refine⟨?_,?_⟩
 ·rw[nw hk]
  exact h.app ((aW.nil many).cons (f:=⟨x.name,x.type,false⟩) ht.1)
 ·unfold kk
  rw[if_pos hk,List.map_append,←ht.2];rfl
section
variable {c:ai}{x:aq}{many:Int}{vs:List au}{pre post:List ak}{f:ak}
theorem GB(ha:gi c x.field pre f post)(hk:x.kind=2)(h:aW c.fields many vs):fC c x many vs (vs.take pre.length++vs.drop (pre.length+1)):=by
 obtain⟨h1,h2,_⟩:=h.lh ha.eq
 refine⟨?_,?_⟩
 ·rw[ep ha (by omega)]
  have e:gI x f=[]:=by simp[gI,hk]
  rw[e,List.append_nil]
  exact h1.app h2
 ·unfold kk
  rw[if_neg (by omega),if_pos hk,ha.at_,List.map_append,List.map_take,List.map_drop];rfl
theorem GC(ha:gi c x.field pre f post)(hk:x.kind=3∨x.kind=6)(h:aW c.fields many vs):fC c x many vs vs:=by
 obtain⟨h1,h2,v,hv,h3⟩:=h.lh ha.eq
 have e0:vs=vs.take pre.length++v::vs.drop (pre.length+1):=by
  obtain⟨hl,he⟩:=List.getElem?_eq_some_iff.1 hv
  rw[←he,List.getElem_cons_drop,List.take_append_drop]
 refine⟨?_,?_⟩
 ·rw[ep ha (by omega)]
  obtain⟨g,e,hg⟩:∃g:ak,gI x f=[g]∧g.type=f.type:=by
   rcases hk with hk|hk
   ·exact⟨⟨x.name,f.type,f.indexed⟩,by simp[gI,hk],rfl⟩
   ·exact⟨⟨f.name,f.type,!f.indexed⟩,by simp[gI,hk],rfl⟩
  rw[e,e0,List.append_assoc]
  exact h1.app (h2.cons (by rw[hg];exact h3))
 ·unfold kk
  rw[if_neg (by omega),if_neg (by omega),if_neg (by omega),if_neg (by omega)]
theorem GD(ha:gi c x.field pre f post)(hk:x.kind=4)(h:aW c.fields many vs){v:au}(ht:jX c x.type many x.expr vs v):fC c x many vs (vs.take pre.length++v::vs.drop (pre.length+1)):=by
 obtain⟨h1,h2,_⟩:=h.lh ha.eq
 refine⟨?_,?_⟩
 ·rw[ep ha (by omega)]
  have e:gI x f=[⟨f.name,x.type,false⟩]:=by simp[gI,hk]
  rw[e,List.append_assoc]
  exact h1.app (h2.cons ht.1)
 ·unfold kk
  rw[if_neg (by omega),if_neg (by omega),if_pos hk,ha.at_,List.map_append,List.map_cons,List.map_take,List.map_drop,←ht.2];rfl
theorem Dl(ha:gi c x.field pre f post)(hk:x.kind=5)(h:aW c.fields many vs){v u:au}(ht:jX c x.type many x.expr vs v)(hu:jX c x.type many x.other vs u):fC c x many vs (vs.take pre.length++v::u::vs.drop (pre.length+1)):=by
 obtain⟨h1,h2,_⟩:=h.lh ha.eq
 refine⟨?_,?_⟩
 ·rw[ep ha (by omega)]
  have e:gI x f=[⟨x.name,x.type,false⟩,⟨x.more,x.type,false⟩]:=by simp[gI,hk]
  rw[e,List.append_assoc]
  exact h1.app ((h2.cons hu.1).cons ht.1)
 ·unfold kk
  rw[if_neg (by omega),if_neg (by omega),if_neg (by omega),if_pos hk,ha.at_,List.map_append,List.map_cons,List.map_cons,List.map_take,List.map_drop,←ht.2,←hu.2];rfl
end
def nB:ai→List aq→List (List Int)→List (List Int)
 |_,[],rs=>rs
 |c,x::l,rs=>nB (bC c x) l (kk c x rs)
theorem yD(c d:ai)(l:List aq)(x:aq)(rs:List (List Int))(h:cu c l d):nB c (l++[x]) rs=kk d x (nB c l rs):=by
 induction h generalizing rs with
 |nil c=>rfl
 |cons c d y l _ _ _ ih=>exact ih _
end Go.Proofs.YtlkjnefenialbaaGreatDoor
