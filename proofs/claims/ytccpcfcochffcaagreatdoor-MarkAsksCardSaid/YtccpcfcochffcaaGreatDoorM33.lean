/- A part of MarkAsks's proof; no condition. -/
import Derived.Test.YtccpcfcochffcaaGreatDoorM22
import Derived.Test.YtccpcfcochffcaaGreatDoorM32
import Derived.Sort.OwnSortedInts
set_option linter.all false
set_option maxHeartbeats 8000000
set_option maxRecDepth 100000
namespace Go.Proofs.YtccpcfcochffcaaGreatDoor
open Tryz
variable{r clk bg base:Nat}{w:aj}{xs:List Int}{v:an}{e:TypeId}{F:aS}
namespace Mk
open Go.RowKit
open Go.ChangeMaps (setBlock)
def Jb {es V:List (Int×Nat)}{e:MapEntry}(h:e∈(leftOf (es.map rY).toArray (V.map (·.2)).toArray).toList):∃p,p∈es/\p.2∉V.map (·.2)/\e=rY p:=by
 unfold leftOf at h;simp only[Array.mem_toList_iff,Array.mem_filter,List.mem_toArray,List.mem_map]at h;obtain⟨⟨p,hp,rfl⟩,h2⟩:=h;refine⟨p,hp,?_,rfl⟩;simpa [rY]using h2
def CY {es V:List (Int×Nat)}(h:(leftOf (es.map rY).toArray (V.map (·.2)).toArray).size=0):∀p∈es,p.2∈V.map (·.2):=by
 intro p hp;have h1:leftOf (es.map rY).toArray (V.map (·.2)).toArray= #[]:=Array.eq_empty_of_size_eq_zero h;unfold leftOf at h1;rw[Array.filter_eq_empty_iff]at h1;have:=h1 (rY p) (by simp;exact⟨p.1,p.2,hp,rfl⟩);simpa [rY]using this
theorem nf {α β:Type}{f:α->β}:∀{l:List α},(l.map f).Nodup->∀{x y:α},x∈l->y∈l->f x=f y->x=y
 |[],_,_,_,h,_,_=>by simp at h
 |a::r,hn,x,y,hx,hy,he=>by
  rw[List.map_cons,List.nodup_cons]at hn;rcases Qdf.1 hx with h1|h1<;>rcases Qdf.1 hy with h2|h2
  .rw[h1,h2]
  .exact absurd (List.mem_map.2 ⟨y,h2,by rw[<-he,h1]⟩) hn.1
  .exact absurd (List.mem_map.2 ⟨x,h1,by rw[he,h2]⟩) hn.1
  .exact nf hn.2 h1 h2 he
theorem kA {α β:Type}(f:α->β):∀{l:List α},(l.map f).Nodup->l.Nodup
 |[],_=>List.nodup_nil
 |a::r,hn=>by
  rw[List.map_cons,List.nodup_cons]at hn;exact List.nodup_cons.2 ⟨λh=>hn.1 (List.mem_map.2 ⟨a,h,rfl⟩),kA f hn.2⟩
def AJ(o:Obj):ai (λi=>i=r) w (setBlock w r o):=
 ⟨rfl,rfl,rfl,by simp[setBlock],λi _ hi=>by
   have h:¬r=i:=λe=>hi e.symm;simp[setBlock,Array.getElem?_setIfInBounds,h]⟩
def vY(o:Obj)(hr:r<w.heap.size):(setBlock w r o).heap[r]? =some o:=by simp[setBlock,Array.getElem?_setIfInBounds,hr]
def jc(w:aj)(r bg:Nat)(V:List (Int×Nat))(clk:Nat):Prop:=w.heap[r]? =some (.mapIter (some bg) clk (V.map (·.2)).toArray clk)
def zA {es V:List (Int×Nat)}(hs:oJ w bg es clk)(hit:jc w r bg V clk)(hV:∀p∈V,p∈es)(hn:(V.map (·.2)).Nodup)(ty:TypeId):
 ((V.map (·.1)).Perm (es.map (·.1))/\(Instr.next (.pointer (some ⟨r,0,none⟩)) false ty).run prog w= .ok (.tuple #[.bool false]) w)\/
 ∃p w1,p∈es/\p.2∉V.map (·.2)/\(Instr.next (.pointer (some ⟨r,0,none⟩)) false ty).run prog w= .ok (.tuple #[.bool true, .int .i64 p.1, .bool true]) w1/\
  jc w1 r bg (V++[p]) clk/\oJ w1 bg es clk/\ai (λi=>i=r) w w1/\(Instr.entry (.pointer (some ⟨r,0,none⟩))).run prog w1= .ok (.tuple #[.int .i64 p.1, .bool true]) w1:=by
 have hrb:r≠bg:=by rintro rfl;have:=hs.1;unfold cI at this;rw[hit]at this;simp at this
 have Vo:r<w.heap.size:=(Qaa.1 hit).1;rcases run_next_at (P:=prog) w ty r bg clk clk _ _ clk hit hs.1 (λx hx=>by
  simp only[List.mem_map]at hx;obtain⟨p,hp,rfl⟩:=hx;exact hs.2.2.2 p hp) bq with⟨h0,oe⟩|⟨e,he,w1,hw1,oe⟩
 .refine .inl ⟨?_,oe⟩;have h1:=CY h0;have hVn:V.Nodup:=kA _ hn;have hEn:es.Nodup:=kA _ hs.2.2.1;refine List.Perm.map _ ((List.perm_ext_iff_of_nodup hVn hEn).2 λp=>⟨hV p,λhp=> ?_⟩);obtain⟨q,hq,hqp⟩:=List.mem_map.1 (h1 p hp);have:q=p:=nf hs.2.2.1 (hV q hq) hp hqp;rw[<-this];exact hq
 .obtain⟨p,hp,hpv,rfl⟩:=Jb he;have qbk:w1.heap=w.heap:=by rcases hw1 with rfl|rfl<;>rfl
  have qeo:ai (λi=>i=r) w w1:=by
   rcases hw1 with rfl|rfl
   .exact ai.refl _ _
   .exact(ai.refl _ _).drew
  have Ry:jc (setBlock w1 r (.mapIter (some bg) clk ((V.map (·.2)).toArray.push p.2) clk)) r bg (V++[p]) clk:=by
   unfold jc;rw[vY _ (by rw[qbk];exact Vo)];simp
  have kE:ai (λi=>i=r) w (setBlock w1 r (.mapIter (some bg) clk ((V.map (·.2)).toArray.push p.2) clk)):=qeo.trans (AJ _);have dB:=hs.same (kE.block bg hs.lt (λe=>hrb e.symm));refine .inr ⟨p,_,hp,hpv,oe,Ry,dB,kE,?_⟩;have:=run_entry_at (P:=prog) _ r bg clk (V.map (·.2)).toArray _ clk (rY p) (vY _ (by rw[qbk];exact Vo)) dB.1 (by simp;exact⟨p.1,p.2,hp,rfl⟩) (by
   have e:(es.map rY).toArray.toList.map (·.born)=es.map (·.2):=by simp[rY,Function.comp_def]
   rw[e];exact hs.2.2.1);exact this
def vZ(xs:List Int):List Int:=xs.mergeSort λx y=>decide (x<=y)
def PZ(h:w.ownsRow base 3 1 v xs.length (xs.map (Value.int .i64)))(J2:xs.length<=1000000000):
 xC 40 #[v] w λe w'=>e=xR (.tuple #[])/\w'.ownsRow base 3 1 v xs.length ((vZ xs).map (Value.int .i64))/\w.grownBy w' v.ownBlock:=by
 rcases h.2 with⟨rfl,h0⟩|⟨g,cap,cur,rfl,hbase,hb,h1,h2,h3,h4⟩
 .have:xs=[]:=Qdd h0;subst this;refine(AI none 0 w).mono ?_;rintro e w'⟨rfl,rfl⟩;exact⟨rfl,by simpa [vZ]using h,World.grownBy.refl _ _⟩
 .refine(PY g 0 cap xs w (holds_of_blockI hb (by simpa using h4)) (Qaa.1 hb).1 (by omega)).mono ?_;rintro e w'⟨rfl,n,os,rfl⟩;exact⟨rfl,ownsRow_sortedI (by simp) hbase hb h1 h2 h3,grownBy_sortedI _⟩
def MK(x:Int)(xs:List Int):x∈vZ xs↔x∈xs:=(List.mergeSort_perm xs _).mem_iff
def Jc(h:xs.Nodup):(vZ xs).Pairwise (·< ·):=by
 have h1:(vZ xs).Pairwise (λa b=>decide (a<=b)=true):=List.pairwise_mergeSort (λa b c=>by simp;omega) (λa b=>by simp;omega) xs;have h2:(vZ xs).Nodup:=(List.mergeSort_perm xs _).nodup_iff.2 h;exact List.Pairwise.imp₂ (λa b hab iG=>by simp at hab;omega) h1 h2
end Mk
namespace Mk
open Go.RowKit
def lB {V es:List (Int×Nat)}(hn:(V.map (·.2)).Nodup)(h:∀p∈V,p∈es):V.length<=es.length:=by
 have hV:V.Nodup:=kA _ hn;clear hn;induction V generalizing es with
 |nil=>simp
 |cons a r ih=>
  rw[List.nodup_cons]at hV;have h1:=ih (es:=es.erase a) (λp hp=>by
   refine(List.mem_erase_of_ne (λe=> ?_)).2 (h p (List.mem_cons_of_mem _ hp));subst e;exact hV.1 hp) hV.2;have h2:=List.length_erase_of_mem (h a (by simp));have h3:0<es.length:=List.length_pos_of_mem (h a (by simp));simp only[Qcc];omega
def jR(w:aj)(r n:Nat):Nat:=match w.heap[r]? with|some (.mapIter _ _ seen _)=>n-seen.size|_=>0
def mf {n:Nat}{V:List (Int×Nat)}(h:jc w r bg V clk):jR w r n=n-V.length:=by
 unfold jc at h;simp[jR,h]
def mh {size n:Nat}{ys:List an}{V:List (Int×Nat)}(h:w.ownsRow base e size v n ys)(hi:jc w r bg V clk):v.ownBlock≠some r:=by
 intro he;unfold jc at hi;rcases h.2 with⟨rfl,_⟩|⟨g,cap,cur,rfl,_,hg,_⟩
 .simp[Value.ownBlock]at he
 .have:g=r:=by simpa [Value.ownBlock]using he
  subst this;rw[hi]at hg;simp at hg
def we {es:List (Int×Nat)}(hs:oJ w bg es clk):(Instr.range 91 (.map (some bg))).run prog w= .ok (xP w.heap.size) (w.alloc (.mapIter (some bg) clk #[] clk)):=by
 simp[Instr.range,run_underlying underlying91,MapKept.run_getObj_map hs.1]
def jI(G B:List Int):List Int:=G.foldl fO B
theorem pR(x:Int):∀(G B:List Int),x∈jI G B↔x∈G\/x∈B
 |[],B=>by simp[jI]
 |g::r,B=>by
  have e:jI (g::r) B=jI r (fO B g):=rfl;rw[e,pR x r,dH];simp;constructor
  .rintro(h|h|h)<;>simp[h]
  .rintro((h|h)|h)<;>simp[h]
theorem tA:∀(G B:List Int),j4 B->j4 (jI G B)
 |[],B,h=>h
 |g::r,B,h=>tA r (fO B g) (jy g B h)
def zB(G B:List Int)(w:aj)(e:Ending)(w':aj):Prop:=
 ∃v',e=xR v'/\ct (λi=>w.heap.size<=i) w' v' (jI G B)/\aq w w'
def zC(bm:Nat)(F:Nat->Prop)(G B:List Int)(w:World)(h:cJ w bm F G B):
 xC 16 #[xP bm] w (zB G B w):=by
 obtain⟨i0,dz,dX,cY,dA⟩:=info_parts iU;obtain⟨v,bg,bb,xs,SG,SB,cm⟩:=h;have aX:=cm.heap.lt;have iB:w.cell? ⟨bm,1,none⟩=some (.map (some bg)):=by simp[World.cell?,cm.heap.blk]
 have jh:w.cell? ⟨bm,2,none⟩=some (.map (some bb)):=by simp[World.cell?,cm.heap.blk]
 obtain⟨es,clk,tY,hse⟩:=cm.gs;obtain⟨fs,rW,Zb,Y5⟩:=cm.bs;have GA:es.length<=100000:=by
  have h1:=fm 100000 SG (hse▸tY.2.1) λx hx=>cm.rng x (.inl ((cm.mg x).1 hx));rw[<-hse]at h1;simpa using h1
 have cw:fs.length<=100000:=by
  have h1:=fm 100000 SB (Y5▸Zb.2.1) λx hx=>cm.rng x (.inr ((cm.mb x).1 hx));rw[<-Y5]at h1;simpa using h1
 have qbl:=af tY;have Uk:=af Zb;have qep:=we tY;have mA:Hd (∀V1 V2:List Int,V1.Perm (es.map (·.1))->V2.Perm (fs.map (·.1))->vZ (V1++V2)=jI G B/\(V1++V2).length<=200000):=by
  have h:∀V1 V2:List Int,V1.Perm (es.map (·.1))->V2.Perm (fs.map (·.1))->vZ (V1++V2)=jI G B/\(V1++V2).length<=200000:=by
   intro V1 V2 h1 h2;have Ac:∀x,x∈V1↔x∈G:=λx=>by rw[h1.mem_iff,hse,cm.mg]
   have YN:∀x,x∈V2↔x∈B:=λx=>by rw[h2.mem_iff,Y5,cm.mb]
   refine⟨tu (Jc ?_) (tA G B cm.sb) λx=> ?_,?_⟩
   .rw[List.nodup_append];refine⟨h1.nodup_iff.2 tY.2.1,h2.nodup_iff.2 Zb.2.1,?_⟩;rintro a ha c hc rfl;exact cm.dis a ((Ac a).1 ha) ((YN a).1 hc)
   .rw[MK,Qch,Ac,YN,pR]
   .have e1:=h1.length_eq;have e2:=h2.length_eq;simp at e1 e2;rw[Qda];omega
  exact h
 have AY:=af jh;obtain⟨q0,Y6⟩:∃q:Nat,q=0:=⟨_,rfl⟩;obtain⟨X0,hX0⟩:∃X:List Value,X=[]:=⟨_,rfl⟩;have jX:Hd ((w.alloc (.mapIter (some bg) clk #[] clk)).ownsRow w.heap.size 3 1 (xL none 0 0) (q0+([]:List (Int×Nat)).length) (X0++(([]:List (Int×Nat)).map (·.1)).map (Value.int .i64))):=by
  subst Y6 hX0;exact World.ownsRow_nil _ _ _ _
 have Rz:Hd (jc (w.alloc (.mapIter (some bg) clk #[] clk)) w.heap.size bg [] clk):=Qbh w _;have J4:Hd (aq w (w.alloc (.mapIter (some bg) clk #[] clk))):=bO;have qhq:q0<=0:=by omega
 have HQ:=af Y6;have HX:=af hX0;go_enter func16,ntmps16;go_wp2_with fail;go_loopw [3,4](λo _ wr=>∃(V:List (Int×Nat)),Hd (wr.ownsRow w.heap.size 3 1 o (q0+V.length) (X0++(V.map (·.1)).map (Value.int .i64)))/\Hd (jc wr w.heap.size bg V clk)/\Hd (∀p∈V,p∈es)/\Hd ((V.map (·.2)).Nodup)/\Hd (aq w wr))(λ_ _ wr=>jR wr w.heap.size es.length);case atStart=>exact⟨[],jX,Rz,by {have h:∀p∈([]:List (Int×Nat)),p∈es:=(by simp);exact h},by {have h:(([]:List (Int×Nat)).map (·.2)).Nodup:=List.nodup_nil;exact h},J4⟩
 case round=>
  obtain⟨V,zX,XK,HV,Vp,HB⟩:=hrel;have kF:oJ wr bg es clk:=qbl.o.same (HB.o.block bg qbl.o.lt);rcases zA kF XK.o HV.o Vp.o 0 with⟨eF,RA⟩|⟨p,w1,hp,hpv,RA,Ry,dB,fJ,XL⟩
  .have GD:=af eF;obtain⟨wo,rfl⟩:=cM (wr);have B9:wo.cell? ⟨bm,2,none⟩=some (.map (some bb)):=by rw[HB.o.cell (p:=⟨bm,2,none⟩) aX];exact AY.o
   have qeq:oJ wo bb fs rW:=Uk.o.same (HB.o.block bb Uk.o.lt);have qcu:=we qeq;have Ug:=HB.o.size;obtain⟨V0,hV0⟩:=cM (V.map (·.1));obtain⟨q1,YQ⟩:∃q,q=q0+V.length:=⟨_,rfl⟩;obtain⟨X1,hX1⟩:∃X,X=X0++(V.map (·.1)).map (Value.int .i64):=⟨_,rfl⟩;have qhr:q1<=100000:=by have:=lB Vp.o HV.o;omega
   have XM:Hd (V0.Perm (es.map (·.1))):=by rw[hV0];exact GD.o
   have HQ1:Hd (q1=V0.length):=by
    have h:q1=V0.length:=by rw[YQ,HQ.o,hV0];simp
    exact h
   have fI:Hd (X1=V0.map (Value.int .i64)):=by
    have h:X1=V0.map (Value.int .i64):=by rw[hX1,HX.o,hV0];simp
    exact h
   have jX:Hd ((wo.alloc (.mapIter (some bb) rW #[] rW)).ownsRow w.heap.size 3 1 u3 (q1+([]:List (Int×Nat)).length) (X1++(([]:List (Int×Nat)).map (·.1)).map (Value.int .i64))):=by
    have h:=zX.o.alloc (.mapIter (some bb) rW #[] rW);rw[<-YQ,<-hX1]at h;have h2:(wo.alloc (.mapIter (some bb) rW #[] rW)).ownsRow w.heap.size 3 1 u3 (q1+([]:List (Int×Nat)).length) (X1++(([]:List (Int×Nat)).map (·.1)).map (Value.int .i64)):=by simpa using h
    exact h2
   have Rz:Hd (jc (wo.alloc (.mapIter (some bb) rW #[] rW)) wo.heap.size bb [] rW):=Qbh wo _;have J4:Hd (aq w (wo.alloc (.mapIter (some bb) rW #[] rW))):=HB.o.alloc Ug _;go_wp2_with fail;go_loopw [3,5](λo _ wr=>∃(V:List (Int×Nat)),Hd (wr.ownsRow w.heap.size 3 1 o (q1+V.length) (X1++(V.map (·.1)).map (Value.int .i64)))/\Hd (jc wr wo.heap.size bb V rW)/\Hd (∀p∈V,p∈fs)/\Hd ((V.map (·.2)).Nodup)/\Hd (aq w wr))(λ_ _ wr=>jR wr wo.heap.size fs.length);case atStart=>exact⟨[],jX,Rz,by {have h:∀p∈([]:List (Int×Nat)),p∈fs:=(by simp);exact h},by {have h:(([]:List (Int×Nat)).map (·.2)).Nodup:=List.nodup_nil;exact h},J4⟩
   case round=>
    obtain⟨V,zX,XK,HV,Vp,HB⟩:=hrel;have kF:oJ wr bb fs rW:=Uk.o.same (HB.o.block bb Uk.o.lt);rcases zA kF XK.o HV.o Vp.o 0 with⟨eF,RA⟩|⟨p,w1,hp,hpv,RA,Ry,dB,fJ,XL⟩
    .have GD:=af eF;have Vq:wr.ownsRow w.heap.size 3 1 u3 (V0++V.map (·.1)).length ((V0++V.map (·.1)).map (Value.int .i64)):=by
      have e:(V0++V.map (·.1)).length=q1+V.length:=by rw[Qda,Qdc,HQ1.o]
      rw[e,List.map_append,<-fI.o];exact zX.o
     obtain⟨qbm,hlen⟩:=mA.o V0 (V.map (·.1)) XM.o GD.o;have qbn:=af qbm;have bt:=af (PZ Vq (by omega));have qbo:=af Vq;go_wp2_with fail;refine bt.o.mono ?_;rintro e w3⟨rfl,qbp,hg3⟩;have Vr:=af qbp;have T3:=af hg3;go_wp2;go_ret;refine⟨_,rfl,?_,HB.o.grown T3.o HB.o.size (λg hg=>(qbo.o.lt g hg).1)⟩;rw[<-qbn.o];exact(ct.um Vr.o).mono λi hi _=>(Vr.o.lt i hi).1
    .have Dz:=af Ry;have oP:=af fJ;have RB:w1.ownsRow w.heap.size 3 1 u3 (q1+V.length) (X1++(V.map (·.1)).map (Value.int .i64)):=zX.o.kept (row:=some wo.heap.size) ⟨fJ.os,fJ.tape,fJ.output,fJ.size,λi hi iG=>fJ.block i hi (λe=>iG (by rw[e]))⟩ (.inr (mh zX.o XK.o));have Am:=af RB;have hrb:=HB.o.size;have qer:=fJ.size;have RC:aq w w1:=⟨fJ.os.trans HB.o.os,fJ.tape.trans HB.o.tape,fJ.output.trans HB.o.output,by omega,λi hi=>(fJ.block i (by omega) (λe=>by subst e;exact absurd hi (by omega))).trans (HB.o.block i hi)⟩;have aO:=af RC;have hVl:V.length<=fs.length:=lB Vp.o HV.o;have JP:Hd (∀q∈V++[p],q∈fs):=by
      have h:∀q∈V++[p],q∈fs:=λq hq=>by
       rcases Qch.1 hq with h|h
       .exact HV.o q h
       .simp at h;subst h;exact hp
      exact h
     have xO:Hd (((V++[p]).map (·.2)).Nodup):=by
      have h:((V++[p]).map (·.2)).Nodup:=by
       rw[List.map_append,List.nodup_append];refine⟨Vp.o,by simp,?_⟩;intro a ha c hc;simp at hc;subst hc;rintro rfl;exact hpv ha
      exact h
     have qbq:V.length+1<=fs.length:=by
      have:=lB xO.o JP.o;simpa using this
     have RD:Hd (jR wr wo.heap.size fs.length=fs.length-V.length):=mf XK.o;go_wp2_with(first
      |(at_builtin;refine gS (F:=λ_=>True) _ rfl (.tmp 30) (.tmp 32) _ rfl w.heap.size 3 i0 _ 1 8 underlying27 dz dX cY dA rfl (by omega) _ (q1+V.length) _ rfl (Am.o.alloc _) _ 1 [Value.int .i64 p.1] rfl ?d3 ?d4 ?d5 ?d6 ?d7 ?_;case d3=>exact CU _ _ _
        case d4=>intro u hu;simp at hu;subst hu;rfl
        case d5=>unfold maxLen;omega
        case d6=>omega
        case d7=>simp;omega
        intro v2 w2 iM Lc vw;have Gn:=mh Am.o Dz.o;have J5:jc w2 wo.heap.size bb (V++[p]) rW:=(Lc.block wo.heap.size (by have:=(Qaa.1 Dz.o).1;simp;omega) (λe=>Gn e.symm)).trans ((Qcb w1 _ wo.heap.size (Qaa.1 Dz.o).1).trans Dz.o);have XN:=af J5;have aY:aq w w2:=(aO.o.alloc (by omega) _).grown Lc (by simp;omega) (λg hg=>(Am.o.lt g hg).1);have aL:=af aY;have ue:Hd (w2.ownsRow w.heap.size 3 1 v2 (q1+(V++[p]).length) (X1++((V++[p]).map (·.1)).map (Value.int .i64))):=by
         have e:q1+(V++[p]).length=q1+V.length+1:=by simp;omega
         rw[e,List.map_append,List.map_append,<-List.append_assoc];exact iM
        have wF:Hd (jR w2 wo.heap.size fs.length=fs.length-(V++[p]).length):=mf J5;clear iM Lc vw Gn J5 aY));go_roundw;case rel=>exact⟨V++[p],ue,XN,JP,xO,aL⟩
     case measure=>
      rw[wF.o,RD.o];simp;omega
  .have Dz:=af Ry;have oP:=af fJ;have RB:w1.ownsRow w.heap.size 3 1 u3 (q0+V.length) (X0++(V.map (·.1)).map (Value.int .i64)):=zX.o.kept (row:=some w.heap.size) ⟨fJ.os,fJ.tape,fJ.output,fJ.size,λi hi iG=>fJ.block i hi (λe=>iG (by rw[e]))⟩ (.inr (mh zX.o XK.o));have Am:=af RB;have hrb:=HB.o.size;have qer:=fJ.size;have RC:aq w w1:=⟨fJ.os.trans HB.o.os,fJ.tape.trans HB.o.tape,fJ.output.trans HB.o.output,by omega,λi hi=>(fJ.block i (by omega) (λe=>by subst e;exact absurd hi (by omega))).trans (HB.o.block i hi)⟩;have aO:=af RC;have hVl:V.length<=es.length:=lB Vp.o HV.o;have JP:Hd (∀q∈V++[p],q∈es):=by
    have h:∀q∈V++[p],q∈es:=λq hq=>by
     rcases Qch.1 hq with h|h
     .exact HV.o q h
     .simp at h;subst h;exact hp
    exact h
   have xO:Hd (((V++[p]).map (·.2)).Nodup):=by
    have h:((V++[p]).map (·.2)).Nodup:=by
     rw[List.map_append,List.nodup_append];refine⟨Vp.o,by simp,?_⟩;intro a ha c hc;simp at hc;subst hc;rintro rfl;exact hpv ha
    exact h
   have qbq:V.length+1<=es.length:=by
    have:=lB xO.o JP.o;simpa using this
   have RD:Hd (jR wr w.heap.size es.length=es.length-V.length):=mf XK.o;go_wp2_with(first
    |(at_builtin;refine gS (F:=λ_=>True) _ rfl (.tmp 17) (.tmp 19) _ rfl w.heap.size 3 i0 _ 1 8 underlying27 dz dX cY dA rfl (by omega) _ (q0+V.length) _ rfl (Am.o.alloc _) _ 1 [Value.int .i64 p.1] rfl ?c3 ?c4 ?c5 ?c6 ?c7 ?_;case c3=>exact CU _ _ _
      case c4=>intro u hu;simp at hu;subst hu;rfl
      case c5=>unfold maxLen;omega
      case c6=>omega
      case c7=>simp;omega
      intro v2 w2 iM Lc vw;have Gn:=mh Am.o Dz.o;have J5:jc w2 w.heap.size bg (V++[p]) clk:=(Lc.block w.heap.size (by have:=(Qaa.1 Dz.o).1;simp;omega) (λe=>Gn e.symm)).trans ((Qcb w1 _ w.heap.size (Qaa.1 Dz.o).1).trans Dz.o);have XN:=af J5;have aY:aq w w2:=(aO.o.alloc (by omega) _).grown Lc (by simp;omega) (λg hg=>(Am.o.lt g hg).1);have aL:=af aY;have ue:Hd (w2.ownsRow w.heap.size 3 1 v2 (q0+(V++[p]).length) (X0++((V++[p]).map (·.1)).map (Value.int .i64))):=by
       have e:q0+(V++[p]).length=q0+V.length+1:=by simp;omega
       rw[e,List.map_append,List.map_append,<-List.append_assoc];exact iM
      have wF:Hd (jR w2 w.heap.size es.length=es.length-(V++[p]).length):=mf J5;clear iM Lc vw Gn J5 aY));go_roundw;case rel=>exact⟨V++[p],ue,XN,JP,xO,aL⟩
   case measure=>
    rw[wF.o,RD.o];simp;omega
def ML(w:aj):xC 13 #[.pointer none] w (gE (.tuple #[xI 0,xB false]) w):=by
 go_enter func13,ntmps13;go_wp2;go_ret2;exact⟨rfl,rfl⟩
def MM(w:aj):xC 15 #[.pointer none] w (gE (xB true) w):=by
 go_enter func15,ntmps15;go_wp2;go_ret;exact⟨rfl,rfl⟩
def MN(id iv:an)(w:aj):xC 14 #[.pointer none,id,iv] w (gE (xI 1) w):=by
 go_enter func14,ntmps14;go_wp2;go_ret;exact⟨rfl,rfl⟩
def Jd(iv:an)(w:aj):xC 17 #[.pointer none,iv] w (gE (xI 1) w):=by
 go_enter func17,ntmps17;go_wp2;go_ret;exact⟨rfl,rfl⟩
def FB(w:aj):xC 16 #[.pointer none] w (gE (xL none 0 0) w):=by
 go_enter func16,ntmps16;go_wp2;go_ret;exact⟨rfl,rfl⟩
structure St(w0 w:aj)(bm:Nat)(G B:List Int):Prop where
 ex:∃F,cJ w bm F G B/\∀i,F i->w0.heap.size<=i
 bel:aq w0 w
def eV {w0 w u:aj}(h:aq w0 w)(k:aq w u):aq w0 u:=h.trans (k.mono h.size)
theorem St.later {w0 w u:aj}{bm:Nat}{G B:List Int}(h:St w0 w bm G B)(hu:aq w u):St w0 u bm G B:=by
 obtain⟨F,hm,hF⟩:=h.ex;exact⟨⟨F,hm.only (T:=λi=>w.heap.size<=i) (ai.ao hu) (λi hi=>by have:=hm.lt i hi;show¬_;omega),hF⟩,eV h.bel hu⟩
theorem St.drewN {w0 w:aj}{bm:Nat}{G B:List Int}(h:St w0 w bm G B)(n:Nat):St w0 (w.drewN n) bm G B:=h.later ⟨rfl,rfl,rfl,bq,λ_ _=>rfl⟩
theorem St.only {w0 w u:aj}{bm:Nat}{G' B':List Int}{F':aS}(h:aq w0 w)(hF:∀i,F i->w0.heap.size<=i)(hm:cJ u bm F' G' B')(ho:ai F w u)(hs:∀i,F' i->F i\/w.heap.size<=i):St w0 u bm G' B':=
 ⟨⟨F',hm,λi hi=>(hs i hi).elim (hF i) λh1=>Qcg h.size h1⟩,
   ⟨ho.os.trans h.os,ho.tape.trans h.tape,ho.output.trans h.output,Qcg h.size ho.size,λi hi=>(ho.block i (Qde hi h.size) (λh1=>by have:=hF i h1;omega)).trans (h.block i hi)⟩⟩
section
variable {w0 w u:aj}{bm:Nat}{G B ids:List Int}{iv:an}
structure wL(w u:aj)(iv:an)(ids:List Int):Prop where
 bel:aq w u
 is:ct (λi=>w.heap.size<=i) u iv ids
theorem wL.nil(w:aj):wL w w (xL none 0 0) []:=⟨dK,ct.nil _ _⟩
def tB(w:aj)(xs:List Int)(n:Nat)(hn:xs.length=n)(hb:n<=1000):ct (λi=>w.heap.size<=i) (w.alloc (.cells (xs.map (Value.int .i64)).toArray 3)) (xL (some ⟨w.heap.size,0,none⟩) n n) xs:=by
 subst hn;refine⟨by simp,_,_,rfl,bq,by unfold maxLen;omega,λ_=>⟨_,0,rfl,bq,by simp,λj x hj=> ?_⟩⟩;have e:(w.alloc (.cells (xs.map (Value.int .i64)).toArray 3)).heap[w.heap.size]? =some (.cells (xs.map (Value.int .i64)).toArray 3 (0,0)):=Qbh w _;simp only[World.cell?,e,Nat.zero_add];simpa using hj
def FC(w:aj)(q:Nat)(hq:w.heap.size=q)(xs:List Int)(n:Nat)(hn:xs.length=n)(hb:n<=1000):ct (λi=>q<=i) (w.alloc (.cells (xs.map (Value.int .i64)).toArray 3)) (xL (some ⟨q,0,none⟩) n n) xs:=by
 subst hq;exact tB w xs n hn hb
theorem wL.lit(w:aj)(xs:List Int)(n:Nat)(hn:xs.length=n)(hb:n<=1000):wL w (w.alloc (.cells (xs.map (Value.int .i64)).toArray 3)) (xL (some ⟨w.heap.size,0,none⟩) n n) xs:=
 ⟨bO,tB w xs n hn hb⟩
theorem St.scan(h:St w0 w bm G B)(hl:wL w u iv ids)(id:Int)(hg:id∈G)(hr:dO ids=true):
 xC 14 #[xP bm,xI id,iv] u λe w'=>e=xR (xI 0)/\St w0 w' bm (vX G B id ids) (fO B id):=by
 obtain⟨F,hm,hF⟩:=h.ex;have Ac:=hm.only (T:=λi=>w.heap.size<=i) (ai.ao hl.bel) (λi hi=>by have:=hm.lt i hi;show¬_;omega);refine(zw bm F _ G B id ids iv u Ac hg hl.is (λi hi h1=>by have:=hm.lt i h1;have h2:w.heap.size<=i:=hi;omega) hr).mono ?_;rintro e w'⟨rfl,F',h1,h2,h3⟩;exact⟨rfl,St.only (eV h.bel hl.bel) hF h1 h2 h3⟩
theorem St.rM(h:St w0 w bm G B)(hl:aq w u)(id:Int)(iv:an)(hg:id∉G):
 xC 14 #[xP bm,xI id,iv] u (gE (xI 190) u):=by
 obtain⟨F,hm,hF⟩:=(h.later hl).ex;exact _root_.Go.Proofs.YtccpcfcochffcaaGreatDoor.Mk.rM bm F G B id iv u hm hg
theorem St.next(h:St w0 w bm G B):
 xC 13 #[xP bm] w λe w'=>e=xR (.tuple #[xI (zx G),xB (zy G)])/\St w0 w' bm G B:=by
 obtain⟨F,hm,hF⟩:=h.ex;refine(zz bm F G B w hm).mono ?_;rintro e w'⟨rfl,F',h1,h2,h3⟩;exact⟨rfl,St.only h.bel hF h1 h2 h3⟩
theorem St.done(h:St w0 w bm G B):xC 15 #[xP bm] w (gE (xB G.isEmpty) w):=by
 obtain⟨F,hm,hF⟩:=h.ex;exact Fy bm F G B w hm
theorem St.tC(h:St w0 w bm G B)(i:Int)(b:Bool)(hi:zx G=i)(hb:zy G=b):
 xC 13 #[xP bm] w λe w'=>e=xR (.tuple #[xI i,xB b])/\St w0 w' bm G B:=by subst hi hb;exact h.next
theorem St.KP(h:St w0 w bm G B)(b:Bool)(hb:G.isEmpty=b):xC 15 #[xP bm] w (gE (xB b) w):=by subst hb;exact h.done
theorem St.marked(h:St w0 w bm G B):xC 16 #[xP bm] w (zB G B w):=by
 obtain⟨F,hm,hF⟩:=h.ex;exact zC bm F G B w hm
def Wg(hl:wL w0 u iv ids)(hr:dO ids=true):xC 12 #[iv] u λe w'=>∃bm,e=xR (.tuple #[xP bm,xI 0])/\St w0 w' bm (gu [] [] ids) []:=by
 refine(KO _ ids iv u hl.is hr).mono ?_;rintro e w'⟨bm,F',rfl,h1,h2,h3⟩;exact⟨bm,rfl,⟨⟨F',h1,λi hi=>Qcg hl.bel.size (h3 i hi)⟩,eV hl.bel h2⟩⟩
end
def MO(w:aj):xC 4 #[] w (cN (xB true) w):=by
 have L0:=af (wL.lit w [5,2] 2 rfl (by omega));go_enter func4,ntmps4;go_wp2_with fail;refine(Wg L0.o rfl).mono ?_;rintro e w1⟨bm,rfl,h1⟩;rw[show gu [] [] [5,2]=[2,5]from rfl]at h1;have H1:=af h1;clear h1;go_wp2_with fail;refine(H1.o.tC 2 true rfl rfl).mono ?_;rintro e w2⟨rfl,h2⟩;have H2:=af h2;clear h2;go_wp2_with fail;refine(H2.o.scan (wL.lit w2 [7] 1 rfl (by omega)) 2 (by simp) rfl).mono ?_;rintro e w3⟨rfl,h3⟩;rw[show vX [2,5] [] 2 [7]=[5,7]from rfl,show fO [] 2=[2]from rfl]at h3;have H3:=af h3;clear h3;go_wp2_with fail;refine(H3.o.tC 5 true rfl rfl).mono ?_;rintro e w4⟨rfl,h4⟩;have H4:=af h4;clear h4;go_wp2_with fail;refine(H4.o.scan (wL.lit w4 [2,5] 2 rfl (by omega)) 5 (by simp) rfl).mono ?_;rintro e w5⟨rfl,h5⟩;rw[show vX [5,7] [2] 5 [2,5]=[7]from rfl,show fO [2] 5=[2,5]from rfl]at h5;have H5:=af h5;clear h5;go_wp2_with fail;refine(H5.o.tC 7 true rfl rfl).mono ?_;rintro e w6⟨rfl,h6⟩;have H6:=af h6;clear h6;go_wp2_with fail;refine(H6.o.KP false rfl).mono ?_;rintro e w'⟨rfl,rfl⟩;go_wp2_with fail;refine(H6.o.scan (wL.nil w6) 7 (by simp) rfl).mono ?_;rintro e w7⟨rfl,h7⟩;rw[show vX [7] [2,5] 7 []=[]from rfl,show fO [2,5] 7=[2,5,7]from rfl]at h7;have H7:=af h7;clear h7;go_wp2_with fail;refine(H7.o.KP true rfl).mono ?_;rintro e w'⟨rfl,rfl⟩;go_wp2_with fail;refine H7.o.marked.mono ?_;rintro e w8⟨mv,rfl,hmi,RE⟩;rw[show jI [] [2,5,7]=[2,5,7]from rfl]at hmi;have H8:=af (H7.o.later RE);have HMI:=af hmi;have N0:=af RE;clear hmi RE;go_wp2_with fail;refine(H8.o.rM dK 7 _ (by simp)).mono ?_;rintro e w'⟨rfl,rfl⟩;go_wp2_with fail;have YL:wL w8 _ _ [1]:=wL.lit w8 [1] 1 rfl (by omega);obtain⟨F7,Zc,hF7⟩:=H7.o.ex;have hm8:=(Zc.only (T:=λi=>w7.heap.size<=i) (ai.ao N0.o) (λi hi=>by have:=Zc.lt i hi;show¬_;omega)).only (T:=λi=>w8.heap.size<=i) (ai.ao YL.bel) (λi hi=>by have:=Zc.lt i hi;have:=N0.o.size;show¬_;omega);have HW:=af (MJ bm F7 _ [] [2,5,7] [1] _ _ hm8 YL.is (λi hi h1=>by have:=Zc.lt i h1;have:=N0.o.size;have h2:w8.heap.size<=i:=hi;omega) rfl);have HM7:=af Zc;have HF7:=af hF7;have HL8:=af YL;clear YL Zc hF7 hm8;refine HW.o.mono ?_;rintro e w9⟨rfl,F9,hm9,GF,Ul⟩;rw[show gu [] [2,5,7] [1]=[1]from rfl]at hm9;have HM9:=af hm9;have Vs:=af GF;have DT:=af Ul;have DU:=zz bm F9 [1] [2,5,7] w9 hm9;unfold Fz at DU;rw[show zx [1]=1 from rfl,show zy [1]=true from rfl]at DU;have DU:=af DU;clear hm9 GF Ul HW;go_wp2_with fail;refine DU.o.mono ?_;rintro e vu⟨rfl,F10,XO,XP,qbr⟩;have hmv:ct (λi=>w7.heap.size<=i/\i<w8.heap.size) vu mv [2,5,7]:=by
  have h1:ct (λi=>w7.heap.size<=i/\i<w8.heap.size) w8 mv [2,5,7]:=HMI.o.mono λi hi h=>⟨hi,h⟩;have h2:=h1.below HL8.o.bel;have h3:=h2.only Vs.o (λi hi h=>by have:=HM7.o.lt i h;omega);refine h3.only XP (λi hi h=> ?_);rcases DT.o i h with h|h
  .have:=HM7.o.lt i h;omega
  .have:=HL8.o.bel.size;omega
 have RF:aq w vu:=by
  have h8:=H8.o.bel;have Gh:=eV h8 HL8.o.bel;have hA:=St.only (bm:=bm) Gh HF7.o HM9.o Vs.o DT.o;have hF9:∀i,F9 i->w.heap.size<=i:=λi hi=>(DT.o i hi).elim (HF7.o i) λh=>Qcg Gh.size h;exact(St.only (bm:=bm) hA.bel hF9 XO XP qbr).bel
 have HMV:=af hmv;have A9:=af RF;clear XO XP qbr hmv RF;go_wp2_with fail;refine(MI _ [0] _ _ _ (tB vu [0] 1 rfl (by omega)) rfl).mono ?_;rintro e w'⟨rfl,rfl⟩;go_wp2_with fail;refine(Tn _ [100001] _ _ (FC (vu.alloc (xK #[xI 0] 3)) (vu.heap.size+1) (by simp) [100001] 1 rfl (by omega)) rfl).mono ?_;rintro e w'⟨rfl,rfl⟩;have XQ:aq vu ((vu.alloc (xK #[xI 0] 3)).alloc (.cells ([100001].map (Value.int .i64)).toArray 3)):=bO.alloc (by simp) _;obtain⟨w11,qbs⟩:=cM ((vu.alloc (xK #[xI 0] 3)).alloc (.cells ([100001].map (Value.int .i64)).toArray 3));rw[<-qbs]at XQ⊢;have RG:=af XQ;clear XQ qbs;go_wp2_with fail;refine(ML _).mono ?_;rintro e w'⟨rfl,rfl⟩;go_wp2_with fail;have hn:=PH _ _ mv _ (w11.alloc (.cells ([2,5,7].map (Value.int .i64)).toArray 3)) [2,5,7] [2,5,7] ((HMV.o.below RG.o).alloc _) (tB w11 [2,5,7] 3 rfl (by omega));rw[show Fj [2,5,7] [2,5,7]=true from rfl]at hn;refine hn.mono ?_;rintro e w12⟨rfl,d,rfl⟩;clear hn;go_wp2_with fail;refine(MM _).mono ?_;rintro e w'⟨rfl,rfl⟩;go_wp2_with fail;refine(MN _ _ _).mono ?_;rintro e w'⟨rfl,rfl⟩;go_wp2_with fail;refine(Jd _ _).mono ?_;rintro e w'⟨rfl,rfl⟩;go_wp2_with fail;refine(FB _).mono ?_;rintro e w'⟨rfl,rfl⟩;go_wp2;go_ret;refine⟨rfl,?_⟩;have h:=(eV A9.o RG.o).alloc (by have:=(eV A9.o RG.o).size;omega) (.cells ([2,5,7].map (Value.int .i64)).toArray 3);exact⟨h.os,h.tape,h.output,h.size,h.block⟩
end Mk
end Go.Proofs.YtccpcfcochffcaaGreatDoor
