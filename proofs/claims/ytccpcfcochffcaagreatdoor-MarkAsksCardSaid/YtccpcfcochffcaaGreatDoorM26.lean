/- A part of MarkAsks's proof; no condition. -/
import Derived.Test.YtccpcfcochffcaaGreatDoorM23
set_option linter.all false
set_option maxHeartbeats 8000000
set_option maxRecDepth 100000
namespace Go.Proofs.YtccpcfcochffcaaGreatDoor
open Go.Proofs.Tryz
open Go.RowKit Go.Shelf
variable{t:TypeId}{v1 v2 v3:an}{w W:aj}{M:aS}
def FG {α:Type} [aA α]{l1 l2:List α}(hW:dY W w (xK #[v1,v2] t))(hb:aq w W)(h1:ab M w v1 l1)(h2:ab M w v2 l2):uR M W w.heap.size [v1,v2] [l1,l2]:=by
 refine⟨rfl,(Qaa.1 hW).1,λi v hv=> ?_,λi v l hv hl=> ?_⟩
 .simp only[World.cell?,hW];simpa using hv
 .match i,hv,hl with
  |0,hv,hl=>cases hv;cases hl;exact h1.below hb
  |1,hv,hl=>cases hv;cases hl;exact h2.below hb
  |i+2,hv,hl=>simp at hv
def zG {α:Type} [aA α]{l1 l2 l3:List α}(hW:dY W w (xK #[v1,v2,v3] t))(hb:aq w W)(h1:ab M w v1 l1)(h2:ab M w v2 l2)(h3:ab M w v3 l3):uR M W w.heap.size [v1,v2,v3] [l1,l2,l3]:=by
 refine⟨rfl,(Qaa.1 hW).1,λi v hv=> ?_,λi v l hv hl=> ?_⟩
 .simp only[World.cell?,hW];simpa using hv
 .match i,hv,hl with
  |0,hv,hl=>cases hv;cases hl;exact h1.below hb
  |1,hv,hl=>cases hv;cases hl;exact h2.below hb
  |2,hv,hl=>cases hv;cases hl;exact h3.below hb
  |i+3,hv,hl=>simp at hv
def Tu(M:aS)(w:aj)(hM:Bd M w)(c:az)(fv:an)(x:aB)(b:Bool)(g1 g2:an)(p:Nat)(pre post:List ay)(f:ay)(ha:iy c x.field pre f post)(hk:x.kind=2)(h8:c.fields.length<=8)
 (hp:cI w p (rb c.name fv x pre.length b g1 g2))(bR:ab M w fv c.fields):
 xG 245 #[xP p] w λv w'=>ab M w' v (bT c x).fields:=by
 have gO:p<w.heap.size:=(Qaa.1 hp).1;have HW:=af (cH hp);have q1:=HW.o.c1;have q2:=HW.o.ca;have og:c.fields[pre.length]? =some f:=by rw[ha.eq];simp
 have aX:pre.length<c.fields.length:=(Qad.1 og).1;have rT:=af (show(bT c x).fields=[c.fields.take pre.length,c.fields.drop (pre.length+1)].flatten by
  rw[fg ha (by omega),ha.eq];simp[iS,hk]);obtain⟨a0,c0,rfl,cK,qE,ho⟩:=bR.open_;obtain⟨fb,off,rfl,_⟩:=ho (by omega);obtain⟨n,hn⟩:=fx (c.fields.length);obtain⟨i,hi⟩:=fx (pre.length);rw[hi]at aX rT q2;rw[hn]at aX q1 cK bR h8;have J6:Hd (∀W t v1 v2,dY W w (xK #[v1,v2] t)->aq w W->ab M w v1 (c.fields.take i)->ab M w v2 (c.fields.drop (i+1))->_):=λW t v1 v2 h1 h2 h3 h4=>
  pM M W (hM.below h2) w.heap.size 2 [v1,v2] [c.fields.take i,c.fields.drop (i+1)] (FG h1 h2 h3 h4) rfl (by simp;omega) (by omega);have rC:=af (bR.upto hn (k:=i) (by omega));have jC:=bR.from_ hn (k:=i+1) (by omega);have s1:i<=c0:=by omega
 have s2:i+1<=n:=by omega
 have s3:i+1<=c0:=by omega
 have s5:(i:Int)<=(i:Int)+1:=by omega
 have s6:IntKind.i64.wrap ((i:Int)+1)=(i:Int)+1:=Qbe _ (by omega);have s7:(0:Int)<=(i:Int)+1:=by omega
 have s8:(i:Int)+1<=(n:Int):=by omega
 have s9:((i:Int)+1).toNat=i+1:=by omega
 have eB:=af (show ab M w (xL (if c0=i+1 then some ⟨fb,off,none⟩else some ⟨fb,off+(i+1)*4,none⟩) (n-(i+1)) (c0-(i+1))) (c.fields.drop (i+1))by
  simpa [Addr.add,show aA.size ay=4 from rfl]using jC);obtain⟨ap,Sc⟩:=fx ((if c0=i+1 then some (⟨fb,off,none⟩:Addr)else some ⟨fb,off+(i+1)*4,none⟩));rw[Sc]at eB;clear bR ha hp og ho jC;go_enter func245,ntmps245;go_wp2_with fail;go_region_with(go_at_call 274;refine(J6.o _ _ _ _ (by first|exact Qbh w _|exact Qbh w.drew _) (by first|exact bO.drew|exact(Qbg _ w).drew.alloc bq _) rC.o eB.o).mono ?_;rintro e w1⟨_,rfl,hs,hb⟩;have HS:=af hs;have HB:=af (show aq w w1 by first|exact(bO.drew).trans (hb.mono (by simp))|exact((Qbg _ w).drew.alloc bq _).trans (hb.mono (by simp)));clear hs hb);all_goals
  go_wp2;go_ret;exact⟨_,rfl,by rw[rT.o];exact HS.o,HB.o⟩
end Go.Proofs.YtccpcfcochffcaaGreatDoor
