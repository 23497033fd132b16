/- Rows that are cut; no condition beyond each theorem's own. -/
import Derived.Test.YtlkjnefenialbaaGreatDoorM39
set_option linter.unusedVariables false
set_option linter.unusedSimpArgs false
set_option maxHeartbeats 8000000
set_option maxRecDepth 100000
namespace Go.Proofs.YtlkjnefenialbaaGreatDoor
open Go.RowKit Go.Shelf
theorem BN {α:Type} [az α]{M:Nat→Prop}{w W:World}{v1 v2:Value}{l1 l2:List α}{t:TypeId}(hW:W.heap[w.heap.size]? =some (.cells #[v1,v2] t (0,0)))(hb:Below w.heap.size w W)(h1:ae M w v1 l1)(h2:ae M w v2 l2):rA M W w.heap.size [v1,v2] [l1,l2]:=by
 refine⟨rfl,(Array.getElem?_eq_some_iff.1 hW).1,fun i v hv=> ?_,fun i v l hv hl=> ?_⟩
 ·simp only[World.cell?,hW]
  simpa using hv
 ·match i,hv,hl with
  |0,hv,hl=>cases hv;cases hl;exact h1.below hb
  |1,hv,hl=>cases hv;cases hl;exact h2.below hb
  |i+2,hv,hl=>simp at hv
theorem uS {α:Type} [az α]{M:Nat→Prop}{w W:World}{v1 v2 v3:Value}{l1 l2 l3:List α}{t:TypeId}(hW:W.heap[w.heap.size]? =some (.cells #[v1,v2,v3] t (0,0)))(hb:Below w.heap.size w W)(h1:ae M w v1 l1)(h2:ae M w v2 l2)(h3:ae M w v3 l3):rA M W w.heap.size [v1,v2,v3] [l1,l2,l3]:=by
 refine⟨rfl,(Array.getElem?_eq_some_iff.1 hW).1,fun i v hv=> ?_,fun i v l hv hl=> ?_⟩
 ·simp only[World.cell?,hW]
  simpa using hv
 ·match i,hv,hl with
  |0,hv,hl=>cases hv;cases hl;exact h1.below hb
  |1,hv,hl=>cases hv;cases hl;exact h2.below hb
  |2,hv,hl=>cases hv;cases hl;exact h3.below hb
  |i+3,hv,hl=>simp at hv
theorem Nz(M:Nat→Prop)(w:World)(hM:Bd M w)(c:ai)(fv:Value)(x:aq)(b:Bool)(g1 g2:Value)(p:Nat)(pre post:List ak)(f:ak)(ha:gi c x.field pre f post)(hk:x.kind=2)(h8:c.fields.length≤8)
 (hp:w.heap[p]? =some (oI c.name fv x pre.length b g1 g2))(bz:ae M w fv c.fields):
 Calls Tryz.prog 174 #[.pointer (some ⟨p,0,none⟩)] w (aF w fun v w'=>ae M w' v (bC c x).fields):=by
 have gy:p<w.heap.size:=(Array.getElem?_eq_some_iff.1 hp).1
 have HW:=hD (bV hp)
 have q1:=HW.out.c1
 have q2:=HW.out.ca
 have nJ:c.fields[pre.length]? =some f:=by rw[ha.eq];simp
 have aT:pre.length<c.fields.length:=(List.getElem?_eq_some_iff.1 nJ).1
 have oZ:Hid ((bC c x).fields=[c.fields.take pre.length,c.fields.drop (pre.length+1)].flatten):=(show _=_ by
  rw[ep ha (by omega),ha.eq];simp[gI,hk])
 obtain⟨a0,c0,rfl,cq,po,ho⟩:=bz.open_
 obtain⟨fb,off,rfl,_⟩:=ho (by omega)
 obtain⟨n,hn⟩:∃n,c.fields.length=n:=⟨_,rfl⟩
 obtain⟨i,hi⟩:∃i,pre.length=i:=⟨_,rfl⟩
 rw[hi]at aT oZ q2
 rw[hn]at aT q1 cq bz h8
 have EX:Hid (∀W t v1 v2,W.heap[w.heap.size]? =some (.cells #[v1,v2] t (0,0))→Below w.heap.size w W→ae M w v1 (c.fields.take i)→ae M w v2 (c.fields.drop (i+1))→_):=(show∀W t v1 v2,_→_→_→_→_ from fun W t v1 v2 h1 h2 h3 h4=>
  mU M W (hM.below h2) w.heap.size 2 [v1,v2] [c.fields.take i,c.fields.drop (i+1)] (BN h1 h2 h3 h4) rfl (by simp;omega) (by omega))
 have pd:=hD (bz.upto hn (k:=i) (by omega))
 have iJ:=bz.from_ hn (k:=i+1) (by omega)
 have s1:i≤c0:=by omega
 have s2:i+1≤n:=by omega
 have s3:i+1≤c0:=by omega
 have s5:(i:Int)≤(i:Int)+1:=by omega
 have s6:IntKind.i64.wrap ((i:Int)+1)=(i:Int)+1:=IntWalk.i64_in _ (by omega)
 have s7:(0:Int)≤(i:Int)+1:=by omega
 have s8:(i:Int)+1≤(n:Int):=by omega
 have s9:((i:Int)+1).toNat=i+1:=by omega
 have eB:Hid (ae M w (.slice (if c0=i+1 then some ⟨fb,off,none⟩else some ⟨fb,off+(i+1)*4,none⟩) (n-(i+1)) (c0-(i+1))) (c.fields.drop (i+1))):=(show ae _ _ _ _ by
  simpa [Addr.add,show az.size ak=4 from rfl]using iJ)
 obtain⟨ap,My⟩:∃ap,(if c0=i+1 then some (⟨fb,off,none⟩:Addr)else some ⟨fb,off+(i+1)*4,none⟩)=ap:=⟨_,rfl⟩
 rw[My]at eB
 clear bz ha hp nJ ho iJ
 go_enter Tryz.func174,Tryz.ntmps174
 go_wp2_with fail
 go_region_with(go_at_call 205
                refine(EX.out _ _ _ _ (by first|exact heap_alloc_new w _|exact heap_alloc_new w.drew _) (by first|exact((Below.refl _ w).alloc (Nat.le_refl _) _).drew|exact(Below.refl _ w).drew.alloc (Nat.le_refl _) _) pd.out eB.out).mono ?_
                rintro e w1⟨_,rfl,hs,hb⟩
                have HS:=hD hs
                have HB:Hid (Below w.heap.size w w1):=(show Below _ _ _ by first|exact(((Below.refl _ w).alloc (Nat.le_refl _) _).drew).trans (hb.mono (by simp))|exact((Below.refl _ w).drew.alloc (Nat.le_refl _) _).trans (hb.mono (by simp)))
                clear hs hb)
 all_goals
  go_wp2_with fail
  go_ret
  exact⟨_,rfl,by rw[oZ.out];exact HS.out,HB.out⟩
end Go.Proofs.YtlkjnefenialbaaGreatDoor
