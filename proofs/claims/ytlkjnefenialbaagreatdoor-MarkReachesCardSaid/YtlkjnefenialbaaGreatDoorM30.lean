/- The marker, whole; no condition beyond each theorem's own. -/
import Derived.Test.YtlkjnefenialbaaGreatDoorM28
import Derived.Test.YtlkjnefenialbaaGreatDoorM29
import Derived.Sort.OwnSortedInts
set_option linter.unusedVariables false
set_option linter.unusedSimpArgs false
set_option maxHeartbeats 8000000
set_option maxRecDepth 100000
namespace Go.Proofs.YtlkjnefenialbaaGreatDoor
namespace Mk
open Go.RowKit
open Go.ChangeMaps (setBlock)
theorem DO {es V:List (Int×Nat)}{e:MapEntry}(h:e∈(leftOf (es.map nU).toArray (V.map (·.2)).toArray).toList):∃p,p∈es∧p.2∉V.map (·.2)∧e=nU p:=by
 unfold leftOf at h
 simp only[Array.mem_toList_iff,Array.mem_filter,List.mem_toArray,List.mem_map]at h
 obtain⟨⟨p,hp,rfl⟩,h2⟩:=h
 refine⟨p,hp,?_,rfl⟩
 simpa [nU]using h2
theorem yX {es V:List (Int×Nat)}(h:(leftOf (es.map nU).toArray (V.map (·.2)).toArray).size=0):∀p∈es,p.2∈V.map (·.2):=by
 intro p hp
 have h1:leftOf (es.map nU).toArray (V.map (·.2)).toArray= #[]:=Array.eq_empty_of_size_eq_zero h
 unfold leftOf at h1
 rw[Array.filter_eq_empty_iff]at h1
 have:=h1 (nU p) (by simp;exact⟨p.1,p.2,hp,rfl⟩)
 simpa [nU]using this
theorem kK {α β:Type}{f:α→β}:∀{l:List α},(l.map f).Nodup→∀{x y:α},x∈l→y∈l→f x=f y→x=y
 |[],_,_,_,h,_,_=>by simp at h
 |a::r,hn,x,y,hx,hy,he=>by
  rw[List.map_cons,List.nodup_cons]at hn
  rcases List.mem_cons.1 hx with h1|h1<;>rcases List.mem_cons.1 hy with h2|h2
  ·rw[h1,h2]
  ·exact absurd (List.mem_map.2 ⟨y,h2,by rw[←he,h1]⟩) hn.1
  ·exact absurd (List.mem_map.2 ⟨x,h1,by rw[he,h2]⟩) hn.1
  ·exact kK hn.2 h1 h2 he
theorem jh {α β:Type}(f:α→β):∀{l:List α},(l.map f).Nodup→l.Nodup
 |[],_=>List.nodup_nil
 |a::r,hn=>by
  rw[List.map_cons,List.nodup_cons]at hn
  exact List.nodup_cons.2 ⟨fun h=>hn.1 (List.mem_map.2 ⟨a,h,rfl⟩),jh f hn.2⟩
theorem vU {w:World}{r:Nat}(o:Obj):ag (fun i=>i=r) w (setBlock w r o):=
 ⟨rfl,rfl,rfl,by simp[setBlock],fun i _ hi=>by
   have h:¬r=i:=fun e=>hi e.symm
   simp[setBlock,Array.getElem?_setIfInBounds,h]⟩
theorem rW {w:World}{r:Nat}(o:Obj)(hr:r<w.heap.size):(setBlock w r o).heap[r]? =some o:=by simp[setBlock,Array.getElem?_setIfInBounds,hr]
def gO(w:World)(r bg:Nat)(V:List (Int×Nat))(clk:Nat):Prop:=w.heap[r]? =some (.mapIter (some bg) clk (V.map (·.2)).toArray clk)
theorem uD {w:World}{r bg:Nat}{es V:List (Int×Nat)}{clk:Nat}(hs:l7 w bg es clk)(hit:gO w r bg V clk)(hV:∀p∈V,p∈es)(hn:(V.map (·.2)).Nodup)(ty:TypeId):
 ((V.map (·.1)).Perm (es.map (·.1))∧(Instr.next (.pointer (some ⟨r,0,none⟩)) false ty).run Tryz.prog w= .ok (.tuple #[.bool false]) w)∨
 ∃p w1,p∈es∧p.2∉V.map (·.2)∧(Instr.next (.pointer (some ⟨r,0,none⟩)) false ty).run Tryz.prog w= .ok (.tuple #[.bool true, .int .i64 p.1, .bool true]) w1∧
  gO w1 r bg (V++[p]) clk∧l7 w1 bg es clk∧ag (fun i=>i=r) w w1∧(Instr.entry (.pointer (some ⟨r,0,none⟩))).run Tryz.prog w1= .ok (.tuple #[.int .i64 p.1, .bool true]) w1:=by
 have Zv:r≠bg:=by rintro rfl;have:=hs.1;rw[hit]at this;simp at this
 have Oh:r<w.heap.size:=(Array.getElem?_eq_some_iff.1 hit).1
 rcases run_next_at (P:=Tryz.prog) w ty r bg clk clk _ _ clk hit hs.1 (fun x hx=>by
  simp only[List.mem_map]at hx
  obtain⟨p,hp,rfl⟩:=hx
  exact hs.2.2.2 p hp) (Nat.le_refl _)with⟨h0,mo⟩|⟨e,he,w1,Y4,mo⟩
 ·refine .inl ⟨?_,mo⟩
  have h1:=yX h0
  have hVn:V.Nodup:=jh _ hn
  have hEn:es.Nodup:=jh _ hs.2.2.1
  refine List.Perm.map _ ((List.perm_ext_iff_of_nodup hVn hEn).2 fun p=>⟨hV p,fun hp=> ?_⟩)
  obtain⟨q,hq,hqp⟩:=List.mem_map.1 (h1 p hp)
  have:q=p:=kK hs.2.2.1 (hV q hq) hp hqp
  rw[←this];exact hq
 ·obtain⟨p,hp,Rc,rfl⟩:=DO he
  have US:w1.heap=w.heap:=by rcases Y4 with rfl|rfl<;>rfl
  have Zw:ag (fun i=>i=r) w w1:=by
   rcases Y4 with rfl|rfl
   ·exact ag.refl _ _
   ·exact(ag.refl _ _).drew
  have ET:gO (setBlock w1 r (.mapIter (some bg) clk ((V.map (·.2)).toArray.push p.2) clk)) r bg (V++[p]) clk:=by
   unfold gO
   rw[rW _ (by rw[US];exact Oh)];simp
  have hU:ag (fun i=>i=r) w (setBlock w1 r (.mapIter (some bg) clk ((V.map (·.2)).toArray.push p.2) clk)):=Zw.trans (vU _)
  have dc:=hs.same (hU.block bg hs.lt (fun e=>Zv e.symm))
  refine .inr ⟨p,_,hp,Rc,mo,ET,dc,hU,?_⟩
  have:=run_entry_at (P:=Tryz.prog) _ r bg clk (V.map (·.2)).toArray _ clk (nU p) (rW _ (by rw[US];exact Oh)) dc.1 (by simp;exact⟨p.1,p.2,hp,rfl⟩) (by
   have e:(es.map nU).toArray.toList.map (·.born)=es.map (·.2):=by simp[nU,Function.comp_def]
   rw[e];exact hs.2.2.1)
  exact this
def rX(xs:List Int):List Int:=xs.mergeSort fun x y=>decide (x≤y)
theorem Kl {base:Nat}{v:Value}{xs:List Int}{w:World}(h:w.ownsRow base 3 1 v xs.length (xs.map (Value.int .i64)))(ER:xs.length≤1000000000):
 Calls Tryz.prog 33 #[v] w fun e w'=>e= .returned (.tuple #[])∧w'.ownsRow base 3 1 v xs.length ((rX xs).map (Value.int .i64))∧w.grownBy w' v.ownBlock:=by
 rcases h.2 with⟨rfl,h0⟩|⟨g,cap,cur,rfl,ed,hb,h1,h2,h3,h4⟩
 ·have:xs=[]:=List.eq_nil_of_length_eq_zero h0
  subst this
  refine(vT none 0 w).mono ?_
  rintro e w'⟨rfl,rfl⟩
  exact⟨rfl,by simpa [rX]using h,World.grownBy.refl _ _⟩
 ·refine(Kk g 0 cap xs w (holds_of_blockI hb (by simpa using h4)) (Array.getElem?_eq_some_iff.1 hb).1 (by omega)).mono ?_
  rintro e w'⟨rfl,n,os,rfl⟩
  exact⟨rfl,ownsRow_sortedI (by simp) ed hb h1 h2 h3,grownBy_sortedI _⟩
theorem Hc(x:Int)(xs:List Int):x∈rX xs↔x∈xs:=(List.mergeSort_perm xs _).mem_iff
theorem DP {xs:List Int}(h:xs.Nodup):(rX xs).Pairwise (·< ·):=by
 have h1:(rX xs).Pairwise (fun a b=>decide (a≤b)=true):=List.pairwise_mergeSort (fun a b c=>by simp;omega) (fun a b=>by simp;omega) xs
 have h2:(rX xs).Nodup:=(List.mergeSort_perm xs _).nodup_iff.2 h
 exact List.Pairwise.imp₂ (fun a b hab hne=>by simp at hab;omega) h1 h2
end Mk
namespace Mk
open Go.RowKit
theorem jI {V es:List (Int×Nat)}(hn:(V.map (·.2)).Nodup)(h:∀p∈V,p∈es):V.length≤es.length:=by
 have hV:V.Nodup:=jh _ hn
 clear hn
 induction V generalizing es with
 |nil=>simp
 |cons a r ih=>
  rw[List.nodup_cons]at hV
  have h1:=ih (es:=es.erase a) (fun p hp=>by
   refine(List.mem_erase_of_ne (fun e=> ?_)).2 (h p (List.mem_cons_of_mem _ hp))
   subst e;exact hV.1 hp) hV.2
  have h2:=List.length_erase_of_mem (h a (by simp))
  have h3:0<es.length:=List.length_pos_of_mem (h a (by simp))
  simp only[List.length_cons];omega
def iN(w:World)(r n:Nat):Nat:=match w.heap[r]? with|some (.mapIter _ _ seen _)=>n-seen.size|_=>0
theorem j6 {w:World}{r bg clk n:Nat}{V:List (Int×Nat)}(h:gO w r bg V clk):iN w r n=n-V.length:=by
 unfold gO at h
 simp[iN,h]
theorem j7 {w:World}{base:Nat}{e:TypeId}{size n:Nat}{v:Value}{ys:List Value}{r bg clk:Nat}{V:List (Int×Nat)}(h:w.ownsRow base e size v n ys)(hi:gO w r bg V clk):v.ownBlock≠some r:=by
 intro he
 unfold gO at hi
 rcases h.2 with⟨rfl,_⟩|⟨g,cap,cur,rfl,_,hg,_⟩
 ·simp[Value.ownBlock]at he
 ·have:g=r:=by simpa [Value.ownBlock]using he
  subst this
  rw[hi]at hg;simp at hg
theorem rY {w:World}{bg:Nat}{es:List (Int×Nat)}{clk:Nat}(hs:l7 w bg es clk):(Instr.range 74 (.map (some bg))).run Tryz.prog w= .ok (.pointer (some ⟨w.heap.size,0,none⟩)) (w.alloc (.mapIter (some bg) clk #[] clk)):=by
 simp[Instr.range,run_underlying Tryz.underlying74,MapKept.run_getObj_map hs.1]
def dD(G B:List Int):List Int:=G.foldl eH B
theorem j8(x:Int):∀(G B:List Int),x∈dD G B↔x∈G∨x∈B
 |[],B=>by simp[dD]
 |g::r,B=>by
  have e:dD (g::r) B=dD r (eH B g):=rfl
  rw[e,j8 x r,cY];simp
  constructor
  ·rintro(h|h|h)<;>simp[h]
  ·rintro((h|h)|h)<;>simp[h]
theorem lE:∀(G B:List Int),gj B→gj (dD G B)
 |[],B,h=>h
 |g::r,B,h=>lE r (eH B g) (iA g B h)
def uE(G B:List Int)(w:World)(e:Ending)(w':World):Prop:=
 ∃v',e= .returned v'∧cF (fun i=>w.heap.size≤i) w' v' (dD G B)∧Below w.heap.size w w'
theorem uF(bm:Nat)(F:Nat→Prop)(G B:List Int)(w:World)(h:bW w bm F G B):
 Calls Tryz.prog 13 #[.pointer (some ⟨bm,0,none⟩)] w (uE G B w):=by
 obtain⟨i0,dF,dM,db,dL⟩:=info_parts jz
 obtain⟨v,bg,bb,xs,SG,SB,bK⟩:=h
 have aT:=bK.heap.lt
 have gz:w.cell? ⟨bm,1,none⟩=some (.map (some bg)):=by simp[World.cell?,bK.heap.blk]
 have qw:w.cell? ⟨bm,2,none⟩=some (.map (some bb)):=by simp[World.cell?,bK.heap.blk]
 obtain⟨es,clk,qu,Xf⟩:=bK.gs
 obtain⟨fs,pf,Xg,Re⟩:=bK.bs
 have F1:es.length≤100000:=by
  have h1:=di 100000 SG (Xf▸qu.2.1) fun x hx=>bK.rng x (.inl ((bK.mg x).1 hx))
  rw[←Xf]at h1;simpa using h1
 have bZ:fs.length≤100000:=by
  have h1:=di 100000 SB (Re▸Xg.2.1) fun x hx=>bK.rng x (.inr ((bK.mb x).1 hx))
  rw[←Re]at h1;simpa using h1
 have UT:=hD qu
 have Oi:=hD Xg
 have Rf:=rY qu
 have kR:Hid (∀V1 V2:List Int,V1.Perm (es.map (·.1))→V2.Perm (fs.map (·.1))→rX (V1++V2)=dD G B∧(V1++V2).length≤200000):=by
  have h:∀V1 V2:List Int,V1.Perm (es.map (·.1))→V2.Perm (fs.map (·.1))→rX (V1++V2)=dD G B∧(V1++V2).length≤200000:=by
   intro V1 V2 h1 h2
   have zA:∀x,x∈V1↔x∈G:=fun x=>by rw[h1.mem_iff,Xf,bK.mg]
   have T9:∀x,x∈V2↔x∈B:=fun x=>by rw[h2.mem_iff,Re,bK.mb]
   refine⟨qc (DP ?_) (lE G B bK.sb) fun x=> ?_,?_⟩
   ·rw[List.nodup_append]
    refine⟨h1.nodup_iff.2 qu.2.1,h2.nodup_iff.2 Xg.2.1,?_⟩
    rintro a ha c hc rfl
    exact bK.dis a ((zA a).1 ha) ((T9 a).1 hc)
   ·rw[Hc,List.mem_append,zA,T9,j8]
   ·have e1:=h1.length_eq
    have e2:=h2.length_eq
    simp at e1 e2
    rw[List.length_append];omega
  exact h
 have FV:=hD qw
 obtain⟨q0,Rh⟩:∃q:Nat,q=0:=⟨_,rfl⟩
 obtain⟨X0,Zx⟩:∃X:List Value,X=[]:=⟨_,rfl⟩
 have jL:Hid ((w.alloc (.mapIter (some bg) clk #[] clk)).ownsRow w.heap.size 3 1 (.slice none 0 0) (q0+([]:List (Int×Nat)).length) (X0++(([]:List (Int×Nat)).map (·.1)).map (Value.int .i64))):=by
  subst Rh Zx;exact World.ownsRow_nil _ _ _ _
 have LS:Hid (gO (w.alloc (.mapIter (some bg) clk #[] clk)) w.heap.size bg [] clk):=heap_alloc_new w _
 have EU:Hid (Below w.heap.size w (w.alloc (.mapIter (some bg) clk #[] clk))):=(Below.refl _ _).alloc (Nat.le_refl _) _
 have qcy:q0≤0:=by omega
 have HQ:=hD Rh
 have HX:=hD Zx
 clear bK qu Xg Xf Re qw Rh Zx
 go_enter Tryz.func13,Tryz.ntmps13
 go_wp2_with fail
 go_loopw [3,4](fun o _ wr=>∃(V:List (Int×Nat)),Hid (wr.ownsRow w.heap.size 3 1 o (q0+V.length) (X0++(V.map (·.1)).map (Value.int .i64)))∧Hid (gO wr w.heap.size bg V clk)∧Hid (∀p∈V,p∈es)∧Hid ((V.map (·.2)).Nodup)∧Hid (Below w.heap.size w wr))(fun _ _ wr=>iN wr w.heap.size es.length)
 case atStart=>exact⟨[],jL,LS,by {have h:∀p∈([]:List (Int×Nat)),p∈es:=(by simp);exact h},by {have h:(([]:List (Int×Nat)).map (·.2)).Nodup:=List.nodup_nil;exact h},EU⟩
 case round=>
  obtain⟨V,sM,Po,HV,Oj,HB⟩:=hrel
  have jK:l7 wr bg es clk:=UT.out.same (HB.out.block bg UT.out.lt)
  rcases uD jK Po.out HV.out Oj.out 0 with⟨dd,LU⟩|⟨p,w1,hp,Rc,LU,ET,dc,ei,Ri⟩
  ·have ye:=hD dd
   clear jK dd
   obtain⟨wo,rfl⟩:∃wo:World,wo=wr:=⟨_,rfl⟩
   have zO:wo.cell? ⟨bm,2,none⟩=some (.map (some bb)):=by rw[HB.out.cell (p:=⟨bm,2,none⟩) aT];exact FV.out
   have UU:l7 wo bb fs pf:=Oi.out.same (HB.out.block bb Oi.out.lt)
   have Xh:=rY UU
   have MC:=HB.out.size
   obtain⟨V0,Xi⟩:∃V0,V0=V.map (·.1):=⟨_,rfl⟩
   obtain⟨q1,SJ⟩:∃q,q=q0+V.length:=⟨_,rfl⟩
   obtain⟨X1,Zy⟩:∃X,X=X0++(V.map (·.1)).map (Value.int .i64):=⟨_,rfl⟩
   have qcz:q1≤100000:=by have:=jI Oj.out HV.out;omega
   have Rj:Hid (V0.Perm (es.map (·.1))):=by rw[Xi];exact ye.out
   have Xj:Hid (q1=V0.length):=by
    have h:q1=V0.length:=by rw[SJ,HQ.out,Xi];simp
    exact h
   have gZ:Hid (X1=V0.map (Value.int .i64)):=by
    have h:X1=V0.map (Value.int .i64):=by rw[Zy,HX.out,Xi];simp
    exact h
   have jL:Hid ((wo.alloc (.mapIter (some bb) pf #[] pf)).ownsRow w.heap.size 3 1 u3 (q1+([]:List (Int×Nat)).length) (X1++(([]:List (Int×Nat)).map (·.1)).map (Value.int .i64))):=by
    have h:=sM.out.alloc (.mapIter (some bb) pf #[] pf)
    rw[←SJ,←Zy]at h
    have h2:(wo.alloc (.mapIter (some bb) pf #[] pf)).ownsRow w.heap.size 3 1 u3 (q1+([]:List (Int×Nat)).length) (X1++(([]:List (Int×Nat)).map (·.1)).map (Value.int .i64)):=by simpa using h
    exact h2
   have LS:Hid (gO (wo.alloc (.mapIter (some bb) pf #[] pf)) wo.heap.size bb [] pf):=heap_alloc_new wo _
   have EU:Hid (Below w.heap.size w (wo.alloc (.mapIter (some bb) pf #[] pf))):=HB.out.alloc MC _
   clear UU Xi SJ Zy sM Po HV Oj HB ye Rf
   clear V
   go_wp2_with fail
   go_loopw [3,5](fun o _ wr=>∃(V:List (Int×Nat)),Hid (wr.ownsRow w.heap.size 3 1 o (q1+V.length) (X1++(V.map (·.1)).map (Value.int .i64)))∧Hid (gO wr wo.heap.size bb V pf)∧Hid (∀p∈V,p∈fs)∧Hid ((V.map (·.2)).Nodup)∧Hid (Below w.heap.size w wr))(fun _ _ wr=>iN wr wo.heap.size fs.length)
   case atStart=>exact⟨[],jL,LS,by {have h:∀p∈([]:List (Int×Nat)),p∈fs:=(by simp);exact h},by {have h:(([]:List (Int×Nat)).map (·.2)).Nodup:=List.nodup_nil;exact h},EU⟩
   case round=>
    obtain⟨V,sM,Po,HV,Oj,HB⟩:=hrel
    have jK:l7 wr bb fs pf:=Oi.out.same (HB.out.block bb Oi.out.lt)
    rcases uD jK Po.out HV.out Oj.out 0 with⟨dd,LU⟩|⟨p,w1,hp,Rc,LU,ET,dc,ei,Ri⟩
    ·have ye:=hD dd
     clear jK dd
     have LV:wr.ownsRow w.heap.size 3 1 u3 (V0++V.map (·.1)).length ((V0++V.map (·.1)).map (Value.int .i64)):=by
      have e:(V0++V.map (·.1)).length=q1+V.length:=by rw[List.length_append,List.length_map,Xj.out]
      rw[e,List.map_append,←gZ.out];exact sM.out
     obtain⟨Pp,hlen⟩:=kR.out V0 (V.map (·.1)) Rj.out ye.out
     have UW:=hD Pp
     have aS:=hD (Kl LV (by omega))
     have UX:=hD LV
     clear LV Pp hlen
     go_wp2_with fail
     refine aS.out.mono ?_
     rintro e w3⟨rfl,Pq,WC⟩
     have Pr:=hD Pq
     have N3:=hD WC
     clear Pq WC
     go_wp2_with fail
     go_ret
     refine⟨_,rfl,?_,HB.out.grown N3.out HB.out.size (fun g hg=>(UX.out.lt g hg).1)⟩
     rw[←UW.out]
     exact(cF.qH Pr.out).mono fun i hi _=>(Pr.out.lt i hi).1
    ·have zK:=hD ET
     have nh:=hD ei
     have Cp:w1.ownsRow w.heap.size 3 1 u3 (q1+V.length) (X1++(V.map (·.1)).map (Value.int .i64)):=sM.out.kept (row:=some wo.heap.size) ⟨ei.os,ei.tape,ei.output,ei.size,fun i hi hne=>ei.block i hi (fun e=>hne (by rw[e]))⟩ (.inr (j7 sM.out Po.out))
     have vA:=hD Cp
     have Zv:=HB.out.size
     have Zz:=ei.size
     have Cq:Below w.heap.size w w1:=⟨ei.os.trans HB.out.os,ei.tape.trans HB.out.tape,ei.output.trans HB.out.output,by omega,fun i hi=>(ei.block i (by omega) (fun e=>by subst e;exact absurd hi (by omega))).trans (HB.out.block i hi)⟩
     have aO:=hD Cq
     have hVl:V.length≤fs.length:=jI Oj.out HV.out
     have EJ:Hid (∀q∈V++[p],q∈fs):=by
      have h:∀q∈V++[p],q∈fs:=fun q hq=>by
       rcases List.mem_append.1 hq with h|h
       ·exact HV.out q h
       ·simp at h;subst h;exact hp
      exact h
     have EV:Hid (((V++[p]).map (·.2)).Nodup):=by
      have h:((V++[p]).map (·.2)).Nodup:=by
       rw[List.map_append,List.nodup_append]
       refine⟨Oj.out,by simp,?_⟩
       intro a ha c hc
       simp at hc;subst hc
       rintro rfl;exact Rc ha
      exact h
     have UY:V.length+1≤fs.length:=by
      have:=jI EV.out EJ.out
      simpa using this
     have LW:Hid (iN wr wo.heap.size fs.length=fs.length-V.length):=j6 Po.out
     clear jK ET ei Cp Cq dc hp Rc
     go_wp2_with(first
      |(at_builtin
        refine fy (F:=fun _=>True) _ rfl (.tmp 30) (.tmp 32) _ rfl w.heap.size 3 i0 _ 1 8 Tryz.underlying27 dF dM db dL rfl (by omega) _ (q1+V.length) _ rfl (vA.out.alloc _) _ 1 [Value.int .i64 p.1] rfl ?d3 ?d4 ?d5 ?d6 ?d7 ?_
        case d3=>exact yU _ _ _
        case d4=>intro u hu;simp at hu;subst hu;rfl
        case d5=>unfold maxLen;omega
        case d6=>omega
        case d7=>simp;omega
        intro v2 w2 fK FT Co
        have Ce:=j7 vA.out zK.out
        have EW:gO w2 wo.heap.size bb (V++[p]) pf:=(FT.block wo.heap.size (by have:=(Array.getElem?_eq_some_iff.1 zK.out).1;simp;omega) (fun e=>Ce e.symm)).trans ((Below.heap_alloc w1 _ wo.heap.size (Array.getElem?_eq_some_iff.1 zK.out).1).trans zK.out)
        have Rk:=hD EW
        have aM:Below w.heap.size w w2:=(aO.out.alloc (by omega) _).grown FT (by simp;omega) (fun g hg=>(vA.out.lt g hg).1)
        have aA:=hD aM
        have wj:Hid (w2.ownsRow w.heap.size 3 1 v2 (q1+(V++[p]).length) (X1++((V++[p]).map (·.1)).map (Value.int .i64))):=by
         have e:q1+(V++[p]).length=q1+V.length+1:=by simp;omega
         rw[e,List.map_append,List.map_append,←List.append_assoc]
         exact fK
        have zG:Hid (iN w2 wo.heap.size fs.length=fs.length-(V++[p]).length):=j6 EW
        clear fK FT Co Ce EW aM))
     go_roundw
     case rel=>exact⟨V++[p],wj,Rk,EJ,EV,aA⟩
     case measure=>
      rw[zG.out,LW.out]
      simp
      omega
  ·have zK:=hD ET
   have nh:=hD ei
   have Cp:w1.ownsRow w.heap.size 3 1 u3 (q0+V.length) (X0++(V.map (·.1)).map (Value.int .i64)):=sM.out.kept (row:=some w.heap.size) ⟨ei.os,ei.tape,ei.output,ei.size,fun i hi hne=>ei.block i hi (fun e=>hne (by rw[e]))⟩ (.inr (j7 sM.out Po.out))
   have vA:=hD Cp
   have Zv:=HB.out.size
   have Zz:=ei.size
   have Cq:Below w.heap.size w w1:=⟨ei.os.trans HB.out.os,ei.tape.trans HB.out.tape,ei.output.trans HB.out.output,by omega,fun i hi=>(ei.block i (by omega) (fun e=>by subst e;exact absurd hi (by omega))).trans (HB.out.block i hi)⟩
   have aO:=hD Cq
   have hVl:V.length≤es.length:=jI Oj.out HV.out
   have EJ:Hid (∀q∈V++[p],q∈es):=by
    have h:∀q∈V++[p],q∈es:=fun q hq=>by
     rcases List.mem_append.1 hq with h|h
     ·exact HV.out q h
     ·simp at h;subst h;exact hp
    exact h
   have EV:Hid (((V++[p]).map (·.2)).Nodup):=by
    have h:((V++[p]).map (·.2)).Nodup:=by
     rw[List.map_append,List.nodup_append]
     refine⟨Oj.out,by simp,?_⟩
     intro a ha c hc
     simp at hc;subst hc
     rintro rfl;exact Rc ha
    exact h
   have UY:V.length+1≤es.length:=by
    have:=jI EV.out EJ.out
    simpa using this
   have LW:Hid (iN wr w.heap.size es.length=es.length-V.length):=j6 Po.out
   clear jK ET ei Cp Cq dc hp Rc
   go_wp2_with(first
    |(at_builtin
      refine fy (F:=fun _=>True) _ rfl (.tmp 17) (.tmp 19) _ rfl w.heap.size 3 i0 _ 1 8 Tryz.underlying27 dF dM db dL rfl (by omega) _ (q0+V.length) _ rfl (vA.out.alloc _) _ 1 [Value.int .i64 p.1] rfl ?c3 ?c4 ?c5 ?c6 ?c7 ?_
      case c3=>exact yU _ _ _
      case c4=>intro u hu;simp at hu;subst hu;rfl
      case c5=>unfold maxLen;omega
      case c6=>omega
      case c7=>simp;omega
      intro v2 w2 fK FT Co
      have Ce:=j7 vA.out zK.out
      have EW:gO w2 w.heap.size bg (V++[p]) clk:=(FT.block w.heap.size (by have:=(Array.getElem?_eq_some_iff.1 zK.out).1;simp;omega) (fun e=>Ce e.symm)).trans ((Below.heap_alloc w1 _ w.heap.size (Array.getElem?_eq_some_iff.1 zK.out).1).trans zK.out)
      have Rk:=hD EW
      have aM:Below w.heap.size w w2:=(aO.out.alloc (by omega) _).grown FT (by simp;omega) (fun g hg=>(vA.out.lt g hg).1)
      have aA:=hD aM
      have wj:Hid (w2.ownsRow w.heap.size 3 1 v2 (q0+(V++[p]).length) (X0++((V++[p]).map (·.1)).map (Value.int .i64))):=by
       have e:q0+(V++[p]).length=q0+V.length+1:=by simp;omega
       rw[e,List.map_append,List.map_append,←List.append_assoc]
       exact fK
      have zG:Hid (iN w2 w.heap.size es.length=es.length-(V++[p]).length):=j6 EW
      clear fK FT Co Ce EW aM))
   go_roundw
   case rel=>exact⟨V++[p],wj,Rk,EJ,EV,aA⟩
   case measure=>
    rw[zG.out,LW.out]
    simp
    omega
theorem Hd(w:World):Calls Tryz.prog 9 #[.pointer none] w fun e w'=>e= .returned (.tuple #[.int .i64 0, .bool false])∧w=w':=by
 go_enter Tryz.func9,Tryz.ntmps9
 go_wp2_with fail
 go_ret2
 exact⟨rfl,rfl⟩
theorem He(w:World):Calls Tryz.prog 12 #[.pointer none] w fun e w'=>e= .returned (.bool true)∧w=w':=by
 go_enter Tryz.func12,Tryz.ntmps12
 go_wp2_with fail
 go_ret
 exact⟨rfl,rfl⟩
theorem Hf(id iv:Value)(w:World):Calls Tryz.prog 10 #[.pointer none,id,iv] w fun e w'=>e= .returned (.int .i64 1)∧w=w':=by
 go_enter Tryz.func10,Tryz.ntmps10
 go_wp2_with fail
 go_ret
 exact⟨rfl,rfl⟩
theorem DQ(iv:Value)(w:World):Calls Tryz.prog 16 #[.pointer none,iv] w fun e w'=>e= .returned (.int .i64 1)∧w=w':=by
 go_enter Tryz.func16,Tryz.ntmps16
 go_wp2_with fail
 go_ret
 exact⟨rfl,rfl⟩
theorem Bl(w:World):Calls Tryz.prog 13 #[.pointer none] w fun e w'=>e= .returned (.slice none 0 0)∧w=w':=by
 go_enter Tryz.func13,Tryz.ntmps13
 go_wp2_with fail
 go_ret
 exact⟨rfl,rfl⟩
structure St(w0 w:World)(bm:Nat)(G B:List Int):Prop where
 ex:∃F,bW w bm F G B∧∀i,F i→w0.heap.size≤i
 bel:Below w0.heap.size w0 w
theorem dY {w0 w u:World}(h:Below w0.heap.size w0 w)(k:Below w.heap.size w u):Below w0.heap.size w0 u:=h.trans (k.mono h.size)
theorem St.later {w0 w u:World}{bm:Nat}{G B:List Int}(h:St w0 w bm G B)(hu:Below w.heap.size w u):St w0 u bm G B:=by
 obtain⟨F,hm,hF⟩:=h.ex
 exact⟨⟨F,hm.only (T:=fun i=>w.heap.size≤i) (ag.aj hu) (fun i hi=>by have:=hm.lt i hi;show¬_;omega),hF⟩,dY h.bel hu⟩
theorem St.only {w0 w u:World}{bm:Nat}{G' B':List Int}{F F':Nat→Prop}(h:Below w0.heap.size w0 w)(hF:∀i,F i→w0.heap.size≤i)(hm:bW u bm F' G' B')(ho:ag F w u)(hs:∀i,F' i→F i∨w.heap.size≤i):St w0 u bm G' B':=
 ⟨⟨F',hm,fun i hi=>(hs i hi).elim (hF i) fun h1=>Nat.le_trans h.size h1⟩,
   ⟨ho.os.trans h.os,ho.tape.trans h.tape,ho.output.trans h.output,Nat.le_trans h.size ho.size,fun i hi=>(ho.block i (Nat.lt_of_lt_of_le hi h.size) (fun h1=>by have:=hF i h1;omega)).trans (h.block i hi)⟩⟩
section
variable {w0 w u:World}{bm:Nat}{G B ids:List Int}{iv:Value}
structure sI(w u:World)(iv:Value)(ids:List Int):Prop where
 bel:Below w.heap.size w u
 is:cF (fun i=>w.heap.size≤i) u iv ids
theorem sI.nil(w:World):sI w w (.slice none 0 0) []:=⟨Below.refl _ _,cF.nil _ _⟩
theorem qe(w:World)(xs:List Int)(n:Nat)(hn:xs.length=n)(hb:n≤1000):cF (fun i=>w.heap.size≤i) (w.alloc (.cells (xs.map (Value.int .i64)).toArray 3)) (.slice (some ⟨w.heap.size,0,none⟩) n n) xs:=by
 subst hn
 refine⟨by simp,_,_,rfl,Nat.le_refl _,by unfold maxLen;omega,fun _=>⟨_,0,rfl,Nat.le_refl _,by simp,fun j x hj=> ?_⟩⟩
 have e:(w.alloc (.cells (xs.map (Value.int .i64)).toArray 3)).heap[w.heap.size]? =some (.cells (xs.map (Value.int .i64)).toArray 3 (0,0)):=heap_alloc_new w _
 simp only[World.cell?,e,Nat.zero_add]
 simpa using hj
theorem Bm(w:World)(q:Nat)(hq:w.heap.size=q)(xs:List Int)(n:Nat)(hn:xs.length=n)(hb:n≤1000):cF (fun i=>q≤i) (w.alloc (.cells (xs.map (Value.int .i64)).toArray 3)) (.slice (some ⟨q,0,none⟩) n n) xs:=by
 subst hq;exact qe w xs n hn hb
theorem sI.lit(w:World)(xs:List Int)(n:Nat)(hn:xs.length=n)(hb:n≤1000):sI w (w.alloc (.cells (xs.map (Value.int .i64)).toArray 3)) (.slice (some ⟨w.heap.size,0,none⟩) n n) xs:=
 ⟨(Below.refl _ _).alloc (Nat.le_refl _) _,qe w xs n hn hb⟩
theorem St.scan(h:St w0 w bm G B)(hl:sI w u iv ids)(id:Int)(hg:id∈G)(hr:dw ids=true):
 Calls Tryz.prog 10 #[.pointer (some ⟨bm,0,none⟩), .int .i64 id,iv] u fun e w'=>e= .returned (.int .i64 0)∧St w0 w' bm (xy G B id ids) (eH B id):=by
 obtain⟨F,hm,hF⟩:=h.ex
 have zA:=hm.only (T:=fun i=>w.heap.size≤i) (ag.aj hl.bel) (fun i hi=>by have:=hm.lt i hi;show¬_;omega)
 refine(Bi bm F _ G B id ids iv u zA hg hl.is (fun i hi h1=>by have:=hm.lt i h1;have h2:w.heap.size≤i:=hi;omega) hr).mono ?_
 rintro e w'⟨rfl,F',h1,h2,h3⟩
 exact⟨rfl,St.only (dY h.bel hl.bel) hF h1 h2 h3⟩
theorem St.lC(h:St w0 w bm G B)(hl:Below w.heap.size w u)(id:Int)(iv:Value)(hg:id∉G):
 Calls Tryz.prog 10 #[.pointer (some ⟨bm,0,none⟩), .int .i64 id,iv] u fun e w'=>e= .returned (.int .i64 190)∧u=w':=by
 obtain⟨F,hm,hF⟩:=(h.later hl).ex
 exact _root_.Go.Proofs.YtlkjnefenialbaaGreatDoor.Mk.lC bm F G B id iv u hm hg
theorem St.next(h:St w0 w bm G B):
 Calls Tryz.prog 9 #[.pointer (some ⟨bm,0,none⟩)] w fun e w'=>e= .returned (.tuple #[.int .i64 (uA G), .bool (uB G)])∧St w0 w' bm G B:=by
 obtain⟨F,hm,hF⟩:=h.ex
 refine(uC bm F G B w hm).mono ?_
 rintro e w'⟨rfl,F',h1,h2,h3⟩
 exact⟨rfl,St.only h.bel hF h1 h2 h3⟩
theorem St.done(h:St w0 w bm G B):Calls Tryz.prog 12 #[.pointer (some ⟨bm,0,none⟩)] w fun e w'=>e= .returned (.bool G.isEmpty)∧w=w':=by
 obtain⟨F,hm,hF⟩:=h.ex
 exact Bh bm F G B w hm
theorem St.yY(h:St w0 w bm G B)(i:Int)(b:Bool)(hi:uA G=i)(hb:uB G=b):
 Calls Tryz.prog 9 #[.pointer (some ⟨bm,0,none⟩)] w fun e w'=>e= .returned (.tuple #[.int .i64 i, .bool b])∧St w0 w' bm G B:=by subst hi hb;exact h.next
theorem St.FA(h:St w0 w bm G B)(b:Bool)(hb:G.isEmpty=b):Calls Tryz.prog 12 #[.pointer (some ⟨bm,0,none⟩)] w fun e w'=>e= .returned (.bool b)∧w=w':=by subst hb;exact h.done
theorem St.marked(h:St w0 w bm G B):Calls Tryz.prog 13 #[.pointer (some ⟨bm,0,none⟩)] w (uE G B w):=by
 obtain⟨F,hm,hF⟩:=h.ex
 exact uF bm F G B w hm
theorem P8(hl:sI w0 u iv ids)(hr:dw ids=true):Calls Tryz.prog 7 #[iv] u fun e w'=>∃bm,e= .returned (.tuple #[.pointer (some ⟨bm,0,none⟩), .int .i64 0])∧St w0 w' bm (dI [] [] ids) []:=by
 refine(yW _ ids iv u hl.is hr).mono ?_
 rintro e w'⟨bm,F',rfl,h1,h2,h3⟩
 exact⟨bm,rfl,⟨⟨F',h1,fun i hi=>Nat.le_trans hl.bel.size (h3 i hi)⟩,dY hl.bel h2⟩⟩
end
theorem Hg(w:World):Calls Tryz.prog 4 #[] w fun e w'=>e= .returned (.bool true)∧Below w.heap.size w w':=by
 have L0:=hD (sI.lit w [5,2] 2 rfl (by omega))
 go_enter Tryz.func4,Tryz.ntmps4
 go_wp2_with fail
 refine(P8 L0.out rfl).mono ?_
 rintro e w1⟨bm,rfl,h1⟩
 rw[show dI [] [] [5,2]=[2,5]from rfl]at h1
 have H1:=hD h1;clear h1
 go_wp2_with fail
 refine(H1.out.yY 2 true rfl rfl).mono ?_
 rintro e w2⟨rfl,h2⟩
 have H2:=hD h2;clear h2
 go_wp2_with fail
 refine(H2.out.scan (sI.lit w2 [7] 1 rfl (by omega)) 2 (by simp) rfl).mono ?_
 rintro e w3⟨rfl,h3⟩
 rw[show xy [2,5] [] 2 [7]=[5,7]from rfl,show eH [] 2=[2]from rfl]at h3
 have H3:=hD h3;clear h3
 go_wp2_with fail
 refine(H3.out.yY 5 true rfl rfl).mono ?_
 rintro e w4⟨rfl,h4⟩
 have H4:=hD h4;clear h4
 go_wp2_with fail
 refine(H4.out.scan (sI.lit w4 [2,5] 2 rfl (by omega)) 5 (by simp) rfl).mono ?_
 rintro e w5⟨rfl,h5⟩
 rw[show xy [5,7] [2] 5 [2,5]=[7]from rfl,show eH [2] 5=[2,5]from rfl]at h5
 have H5:=hD h5;clear h5
 go_wp2_with fail
 refine(H5.out.yY 7 true rfl rfl).mono ?_
 rintro e w6⟨rfl,h6⟩
 have H6:=hD h6;clear h6
 go_wp2_with fail
 refine(H6.out.FA false rfl).mono ?_
 rintro e w'⟨rfl,rfl⟩
 go_wp2_with fail
 refine(H6.out.scan (sI.nil w6) 7 (by simp) rfl).mono ?_
 rintro e w7⟨rfl,h7⟩
 rw[show xy [7] [2,5] 7 []=[]from rfl,show eH [2,5] 7=[2,5,7]from rfl]at h7
 have H7:=hD h7;clear h7
 go_wp2_with fail
 refine(H7.out.FA true rfl).mono ?_
 rintro e w'⟨rfl,rfl⟩
 go_wp2_with fail
 refine H7.out.marked.mono ?_
 rintro e w8⟨mv,rfl,WQ,Rl⟩
 rw[show dD [] [2,5,7]=[2,5,7]from rfl]at WQ
 have H8:=hD (H7.out.later Rl)
 have HMI:=hD WQ
 have UZ:=hD Rl
 clear WQ Rl
 go_wp2_with fail
 refine(H8.out.lC (Below.refl _ _) 7 _ (by simp)).mono ?_
 rintro e w'⟨rfl,rfl⟩
 go_wp2_with fail
 have Sp:sI w8 _ _ [1]:=sI.lit w8 [1] 1 rfl (by omega)
 obtain⟨F7,SK,hF7⟩:=H7.out.ex
 have hm8:=(SK.only (T:=fun i=>w7.heap.size≤i) (ag.aj UZ.out) (fun i hi=>by have:=SK.lt i hi;show¬_;omega)).only (T:=fun i=>w8.heap.size≤i) (ag.aj Sp.bel) (fun i hi=>by have:=SK.lt i hi;have:=UZ.out.size;show¬_;omega)
 have HW:=hD (Hb bm F7 _ [] [2,5,7] [1] _ _ hm8 Sp.is (fun i hi h1=>by have:=SK.lt i h1;have:=UZ.out.size;have h2:w8.heap.size≤i:=hi;omega) rfl)
 have HM7:=hD SK
 have HF7:=hD hF7
 have U0:=hD Sp
 clear Sp SK hF7 hm8
 refine HW.out.mono ?_
 rintro e w9⟨rfl,F9,Xk,ho9,Ol⟩
 rw[show dI [] [2,5,7] [1]=[1]from rfl]at Xk
 have HM9:=hD Xk
 have HO9:=hD ho9
 have zL:=hD Ol
 have CH:=uC bm F9 [1] [2,5,7] w9 Xk
 unfold Bj at CH
 rw[show uA [1]=1 from rfl,show uB [1]=true from rfl]at CH
 have CH:=hD CH
 clear Xk ho9 Ol HW
 go_wp2_with fail
 refine CH.out.mono ?_
 rintro e qC⟨rfl,F10,U1,Rm,wF⟩
 have hmv:cF (fun i=>w7.heap.size≤i∧i<w8.heap.size) qC mv [2,5,7]:=by
  have h1:cF (fun i=>w7.heap.size≤i∧i<w8.heap.size) w8 mv [2,5,7]:=HMI.out.mono fun i hi h=>⟨hi,h⟩
  have h2:=h1.below U0.out.bel
  have h3:=h2.only HO9.out (fun i hi h=>by have:=HM7.out.lt i h;omega)
  refine h3.only Rm (fun i hi h=> ?_)
  rcases zL.out i h with h|h
  ·have:=HM7.out.lt i h;omega
  ·have:=U0.out.bel.size;omega
 have vB:Below w.heap.size w qC:=by
  have h8:=H8.out.bel
  have B5:=dY h8 U0.out.bel
  have hA:=St.only (bm:=bm) B5 HF7.out HM9.out HO9.out zL.out
  have hF9:∀i,F9 i→w.heap.size≤i:=fun i hi=>(zL.out i hi).elim (HF7.out i) fun h=>Nat.le_trans B5.size h
  exact(St.only (bm:=bm) hA.bel hF9 U1 Rm wF).bel
 have HMV:=hD hmv
 have wG:=hD vB
 clear U1 Rm wF hmv vB
 go_wp2_with fail
 refine(Ha _ [0] _ _ _ (qe qC [0] 1 rfl (by omega)) rfl).mono ?_
 rintro e w'⟨rfl,rfl⟩
 go_wp2_with fail
 refine(Nk _ [100001] _ _ (Bm (qC.alloc (.cells #[.int .i64 0] 3)) (qC.heap.size+1) (by simp) [100001] 1 rfl (by omega)) rfl).mono ?_
 rintro e w'⟨rfl,rfl⟩
 have Rn:Below qC.heap.size qC ((qC.alloc (.cells #[.int .i64 0] 3)).alloc (.cells ([100001].map (Value.int .i64)).toArray 3)):=((Below.refl _ _).alloc (Nat.le_refl _) _).alloc (by simp) _
 obtain⟨Ro,U2⟩:∃Ro,Ro=(qC.alloc (.cells #[.int .i64 0] 3)).alloc (.cells ([100001].map (Value.int .i64)).toArray 3):=⟨_,rfl⟩
 rw[←U2]at Rn⊢
 have LX:=hD Rn
 clear Rn U2
 go_wp2_with fail
 refine(Hd _).mono ?_
 rintro e w'⟨rfl,rfl⟩
 go_wp2_with fail
 have hn:=mQ _ _ mv _ (Ro.alloc (.cells ([2,5,7].map (Value.int .i64)).toArray 3)) [2,5,7] [2,5,7] ((HMV.out.below LX.out).alloc _) (qe Ro [2,5,7] 3 rfl (by omega))
 rw[show kI [2,5,7] [2,5,7]=true from rfl]at hn
 refine hn.mono ?_
 rintro e ZA⟨rfl,d,rfl⟩
 clear hn
 go_wp2_with fail
 refine(He _).mono ?_
 rintro e w'⟨rfl,rfl⟩
 go_wp2_with fail
 refine(Hf _ _ _).mono ?_
 rintro e w'⟨rfl,rfl⟩
 go_wp2_with fail
 refine(DQ _ _).mono ?_
 rintro e w'⟨rfl,rfl⟩
 go_wp2_with fail
 refine(Bl _).mono ?_
 rintro e w'⟨rfl,rfl⟩
 go_wp2_with fail
 go_ret
 refine⟨rfl,?_⟩
 have h:=(dY wG.out LX.out).alloc (by have:=(dY wG.out LX.out).size;omega) (.cells ([2,5,7].map (Value.int .i64)).toArray 3)
 exact⟨h.os,h.tape,h.output,h.size,h.block⟩
end Mk
end Go.Proofs.YtlkjnefenialbaaGreatDoor
