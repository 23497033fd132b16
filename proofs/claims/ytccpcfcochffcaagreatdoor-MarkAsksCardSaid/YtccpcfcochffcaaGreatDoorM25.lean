/- A part of MarkAsks's proof; no condition. -/
import Derived.Test.YtccpcfcochffcaaGreatDoorM23
import Derived.Test.YtccpcfcochffcaaGreatDoorM24
set_option linter.all false
set_option maxHeartbeats 8000000
set_option maxRecDepth 100000
namespace Go.Proofs.YtccpcfcochffcaaGreatDoor
open Go.Proofs.Tryz
open Go.RowKit Go.Shelf
variable{i b B X k:Nat}{v sv lv v0 v1 v2 v3:an}{w W w' wx:aj}{M M':aS}{t:TypeId}{cs:List an}{vs:List au}
def vV(k n:Int)(s:aT)(a:dC)(c:Nat)(w:aj):xC 102 #[jl k n s a 0 c] w λe w'=>nN e/\aq w w':=by
 unfold jl;have HB:=af (Bx.dR w (xK #[xI k,xI n,xS s,xL a 0 c] 30));rcases Decidable.em (k=0)with rfl|hk;rotate_left
 .have Y3:(k==0)=false:=by simpa using hk
  go_enter func102,ntmps102;go_wp2;go_ret;exact⟨dN _,HB.o.1⟩
 rcases Decidable.em (n=0)with rfl|hn;rotate_left
 .have hn':(n==0)=false:=by simpa using hn
  go_enter func102,ntmps102;go_wp2;go_ret;exact⟨dN _,HB.o.1⟩
 go_enter func102,ntmps102;go_wp2_with fail;all_goals
  go_ret;exact⟨dN _,HB.o.1⟩
def zq {l:List lj}(h:ab M w v l){x:lj}(hx:l[i]? =some x):∃b off cap,v=xL (some ⟨b,off,none⟩) l.length cap/\x.field.size<=maxLen/\∀W,aq w W->aU W b (off+i*2) (xS x.field)/\aU W b (off+i*2+1) (xI x.at_):=by
 obtain⟨a,cap,rfl,hl,_,hc⟩:=h.open_;have hk:=(Qad.1 hx).1;obtain⟨b,off,rfl,_,hb,aG⟩:=hc (by omega);obtain⟨cs,⟨rfl,hs⟩,bD⟩:=aG i x hx;refine⟨b,off,cap,rfl,hs,λW hB=> ?_⟩;have g:∀j u,([xS x.field,xI x.at_]:List an)[j]? =some u->aU W b (off+i*2+j) u:=λj u hu=>(hB.cell (p:=⟨b,off+i*2+j,none⟩) hb).trans (bD j u hu);exact⟨g 0 _ rfl,g 1 _ rfl⟩
def pQ(q:rK)(sv:an):Obj:=xK #[xI q.kind,xS q.root,sv,xS q.cls,xS q.field,xS q.op,xI q.k,xI q.n,xS q.s,xL q.a 0 q.c] 49
def mY {q:rK}(h:cI W b (pQ q sv)):
 aU W b 0 (xI q.kind)/\aU W b 1 (xS q.root)/\aU W b 2 sv/\aU W b 3 (xS q.cls)/\aU W b 4 (xS q.field)/\aU W b 5 (xS q.op)/\
  aU W b 6 (xI q.k)/\aU W b 7 (xI q.n)/\aU W b 8 (xS q.s)/\aU W b 9 (xL q.a 0 q.c):=
 ⟨cell_of_heap h rfl,cell_of_heap h rfl,cell_of_heap h rfl,cell_of_heap h rfl,cell_of_heap h rfl,cell_of_heap h rfl,cell_of_heap h rfl,cell_of_heap h rfl,cell_of_heap h rfl,cell_of_heap h rfl⟩
def AH(q:rK)(hq:pP q)(M:aS)(w:aj)(sv:an)(hs:ab M w sv q.steps):xC 54 #[rL q sv] w λe w'=>nN e/\aq w w':=by
 have fu:Hd (∀(i:Nat)(x:lj),q.steps[i]? =some x->_):=λi x hx=>zq hs hx;obtain⟨sa,sc,rfl,_⟩:=hs.open_;have hz:q.steps.length<=9223372036854775807:=by omega
 have bN:=af (Bx.dR w (pQ q (xL sa q.steps.length sc)));have HC:Hd (∀W,Bx w [pQ q (xL sa q.steps.length sc)] W->_):=λW hb=>mY (hb.bJ rfl);have oZ:Hd (∀(s:aT)(W:aj),s.size<=maxLen->_):=λs W hs=>BD s W hs;have Le:Hd (∀W,_):=λW=>vV q.k q.n q.s q.a q.c W;have HQ:=af hq;obtain⟨kd,root,steps,cls,field,op,k,n,s,a,c⟩:=q;unfold rL jl pQ at*;dsimp only at*;clear hs hq;go_enter func54,ntmps54;go_wp2_with fail;refine(oZ.o _ _ HQ.o.root).mono ?_;rintro e w'⟨⟨b,rfl⟩,rfl⟩;cases b
 .go_wp2;go_ret;exact⟨dN _,bN.o.1⟩
 by_cases Dv:12<steps.length
 .go_wp2;go_ret;exact⟨dN _,bN.o.1⟩
 go_upto_region 3 with fail;obtain⟨W,hW⟩:=cM (w.alloc (xK #[xI kd,xS root,xL sa steps.length sc,xS cls,xS field,xS op,xI k,xI n,xS s,xL a 0 c] 49));rw[<-hW]at bN⊢;clear hW;obtain⟨q0,q1,q2,q3,q4,q5,q6,q7,q8,q9⟩:=HC.o _ bN.o;go_cut [33](λv wx=>lZ v/\Hd (Bx w [xK #[xI kd,xS root,xL sa steps.length sc,xS cls,xS field,xS op,xI k,xI n,xS s,xL a 0 c] 49] wx));case first=>
  go_wp2_with fail;all_goals first
   |(go_meet;exact⟨⟨_,rfl⟩,bN⟩)
   |(refine(Le.o _).mono ?_;rintro e w1⟨⟨b,rfl⟩,hb⟩;have aO:=af (bN.o.below hb);clear hb;cases b;all_goals
      go_wp2;go_meet;exact⟨⟨_,rfl⟩,aO⟩)
 case rest=>
 obtain⟨⟨b,rfl⟩,HB⟩:=hcut;clear q0 q1 q2 q3 q4 q5 q6 q7 q8 q9;obtain⟨q0,q1,q2,q3,q4,q5,q6,q7,q8,q9⟩:=HC.o _ HB.o;cases b;rotate_left
 .go_wp2;go_ret;exact⟨dN _,HB.o.1⟩
 go_wp2;go_loopg [4,37]steps.length(λg _ iv wr=>∃i:Nat,g=steps.length-i/\i<=steps.length/\iv=xI i/\Hd (Bx w [xK #[xI kd,xS root,xL sa steps.length sc,xS cls,xS field,xS op,xI k,xI n,xS s,xL a 0 c] 49] wr));case atStart=>exact⟨0,rfl,by omega,rfl,HB⟩
 case round=>
  clear q0 q1 q2 q3 q4 q5 q6 q7 q8 q9 HB bN;obtain⟨i,rfl,hi,rfl,HB⟩:=hrel;by_cases aX:i<steps.length
  .obtain⟨⟨f,at_⟩,hx⟩:=dQ steps i aX;obtain⟨b,off,cap,hv,hf,hc⟩:=fu.o i _ hx;obtain⟨rfl,rfl⟩:=gY hv;obtain⟨c0,c1⟩:=hc _ HB.o.1;have HF:=af hf;have aL:=af (λo=>HB.o.alloc o);clear hv hc hx hf;dsimp only at c0 c1;go_upto_region 8 with fail;obtain⟨W1,dS⟩:=cM (wr.alloc (xK #[xS f,xI at_] 85));have aO:=af (show Bx w [xK #[xI kd,xS root,xL (some ⟨b,off,none⟩) steps.length sc,xS cls,xS field,xS op,xI k,xI n,xS s,xL a 0 c] 49] W1 by rw[dS];exact HB.o.alloc _);obtain⟨d0,d1⟩:pd W1 wr 0 (xS f)/\pd W1 wr 1 (xI at_):=by rw[dS];exact ah (Qbh wr _)
   rw[<-dS];clear dS c0 c1 HB aL;go_cut [41](λv wx=>lZ v/\W1=wx);case first=>
    go_wp2_with fail;all_goals
     go_meet;exact⟨⟨_,rfl⟩,rfl⟩
   case rest=>
   obtain⟨⟨b1,rfl⟩,rfl⟩:=hcut;cases b1;rotate_left
   .go_wp2;go_ret;exact⟨dN _,aO.o.1⟩
   go_upto_region 10 with fail;go_cut [55](λv wx=>lZ v/\W1=wx);case first=>
    rcases Decidable.em (at_=0)with rfl|og;rotate_left;have qhl:(at_ !=0)=true:=by simpa using og
    all_goals
     go_wp2_with fail;all_goals first
      |(go_meet;exact⟨⟨_,rfl⟩,rfl⟩)
      |(refine(oZ.o _ _ HF.o).mono ?_;rintro e w'⟨⟨b2,rfl⟩,rfl⟩;cases b2;all_goals
         go_wp2;go_meet;exact⟨⟨_,rfl⟩,rfl⟩)
   case rest=>
   obtain⟨⟨b1,rfl⟩,rfl⟩:=hcut;cases b1
   .go_wp2;go_roundg(steps.length-(i+1));case measure=>omega
    case rel=>exact⟨i+1,rfl,by omega,by go_num,aO⟩
   .go_wp2;go_ret;exact⟨dN _,aO.o.1⟩
  .go_wp2;go_ret;exact⟨dN _,HB.o.1⟩
structure UK where
 find:Bool
 name:Int
 steps:List Int
 field:Int
 op:Int
 k:Int
 n:Int
 s:aT
 l:List au
structure CV(W:aj)(v:an)(x:UK):Prop where
 ex:∃(sa va:dC)(sc vc:Nat),v= .agg #[xB x.find,xI x.name,xL sa x.steps.length sc,xI x.field,xI x.op,xI x.k,xI x.n,xS x.s,xL va x.l.length vc]/\ab xF W (xL sa x.steps.length sc) x.steps/\bS xF W (.agg #[xI x.k,xI x.n,xS x.s,xL va x.l.length vc]) (au.mk x.k x.n x.s x.l)
 name:I6 x.name
 field:I6 x.field
 op:I6 x.op
 n:I6 x.n
 steps:∀t∈x.steps,I6 t
theorem CV.below {w W:aj}{x:UK}(h:CV w v x)(hb:aq w W):CV W v x:=by
 obtain⟨⟨sa,va,sc,vc,e,h1,h2⟩,h3,h4,h5,h6,h7⟩:=h;exact⟨⟨sa,va,sc,vc,e,h1.below hb,h2.below hb⟩,h3,h4,h5,h6,h7⟩
def Mz:(Tryz.prog.info? 85).map (λi=>(i.zero,i.size,i.bytes))=some (some (.agg #[xS ⟨#[]⟩,xI 0]),2,24):=by kernel_rfl
theorem I6.quo {n d:Int}(h:I6 n)(hd:1<=d):I6 (n.tdiv d):=by
 have h1: -9223372036854775808<=n:=h.1;have h2:n<=9223372036854775807:=h.2;have hh: -9223372036854775808<=n.tdiv d/\n.tdiv d<=9223372036854775807:=by
  rcases Int.lt_or_le n 0 with hn|hn
  .have e:n.tdiv d= -((-n)/d):=by rw[<-Int.tdiv_eq_ediv_of_nonneg (by omega),Int.neg_tdiv,Int.neg_neg]
   have a:=Int.ediv_le_self d (show 0<=-n by omega);have b:=Int.ediv_nonneg (show 0<=-n by omega) (show 0<=d by omega);rw[e];generalize(-n)/d=q at a b⊢;omega
  .have a:=Int.ediv_le_self d hn;have b:=Int.ediv_nonneg hn (show 0<=d by omega);rw[Int.tdiv_eq_ediv_of_nonneg hn];generalize n/d=q at a b⊢;omega
 exact hh
def uW(k:Int)(r:aT)(sv:an)(c f o:aT)(vk vn:Int)(vs:aT)(vl:an):Obj:=xK #[xI k,xS r,sv,xS c,xS f,xS o,xI vk,xI vn,xS vs,vl] 49
def NJ(f:Bool)(nm:Int)(sv:an)(fd op k n:Int)(s:aT)(lv:an):Obj:=xK #[xB f,xI nm,sv,xI fd,xI op,xI k,xI n,xS s,lv] 32
def mZ {W:aj}{f:Bool}{nm fd op k n:Int}{s:aT}(h:cI W b (NJ f nm sv fd op k n s lv)):
 aU W b 0 (xB f)/\aU W b 1 (xI nm)/\aU W b 2 sv/\aU W b 3 (xI fd)/\aU W b 4 (xI op)/\aU W b 5 (xI k)/\aU W b 6 (xI n)/\aU W b 7 (xS s)/\aU W b 8 lv:=
 ⟨cell_of_heap h rfl,cell_of_heap h rfl,cell_of_heap h rfl,cell_of_heap h rfl,cell_of_heap h rfl,cell_of_heap h rfl,cell_of_heap h rfl,cell_of_heap h rfl,cell_of_heap h rfl⟩
def eQ {W:aj}{k:Int}{r:aT}{c f o:aT}{vk vn:Int}{vs:aT}{vl:an}(h:cI W b (uW k r sv c f o vk vn vs vl)):
 aU W b 0 (xI k)/\aU W b 1 (xS r)/\aU W b 2 sv/\aU W b 3 (xS c)/\aU W b 4 (xS f)/\aU W b 5 (xS o)/\aU W b 6 (xI vk)/\aU W b 7 (xI vn)/\aU W b 8 (xS vs)/\aU W b 9 vl:=
 ⟨cell_of_heap h rfl,cell_of_heap h rfl,cell_of_heap h rfl,cell_of_heap h rfl,cell_of_heap h rfl,cell_of_heap h rfl,cell_of_heap h rfl,cell_of_heap h rfl,cell_of_heap h rfl,cell_of_heap h rfl⟩
def xy {W W9:aj}{z0 z1 z2 z3 z4 z5 z6 z7 z8 z9 v4 v5 v6 v7 v8 v9:an}(h:cI W b (xK #[z0,z1,z2,z3,z4,z5,z6,z7,z8,z9] t))
 (e:W9=((((((((((W.setCell ⟨b,0,none⟩ v0).setCell ⟨b,1,none⟩ v1).setCell ⟨b,2,none⟩ v2).setCell ⟨b,3,none⟩ v3).setCell ⟨b,4,none⟩ v4).setCell ⟨b,5,none⟩ v5).setCell ⟨b,6,none⟩ v6).setCell ⟨b,7,none⟩ v7).setCell ⟨b,8,none⟩ v8).setCell ⟨b,9,none⟩ v9)):
 (aU W9 b 0 v0/\aU W9 b 1 v1/\aU W9 b 2 v2/\aU W9 b 3 v3/\aU W9 b 4 v4/\aU W9 b 5 v5/\aU W9 b 6 v6/\aU W9 b 7 v7/\aU W9 b 8 v8/\aU W9 b 9 v9)/\ai (λk=>k=b) W W9/\Below b W W9:=by
 have h0:=Qca W b 0 _ _ v0 h;have h1:=Qca _ b 1 _ _ v1 h0;have h2:=Qca _ b 2 _ _ v2 h1;have h3:=Qca _ b 3 _ _ v3 h2;have h4:=Qca _ b 4 _ _ v4 h3;have h5:=Qca _ b 5 _ _ v5 h4;have h6:=Qca _ b 6 _ _ v6 h5;have h7:=Qca _ b 7 _ _ v7 h6;have h8:=Qca _ b 8 _ _ v8 h7;have h9:=Qca _ b 9 _ _ v9 h8;subst e;simp only[List.setIfInBounds_toArray,List.set_cons_zero,List.set_cons_succ]at h9;refine⟨⟨cell_of_heap h9 rfl,cell_of_heap h9 rfl,cell_of_heap h9 rfl,cell_of_heap h9 rfl,cell_of_heap h9 rfl,cell_of_heap h9 rfl,cell_of_heap h9 rfl,cell_of_heap h9 rfl,cell_of_heap h9 rfl,cell_of_heap h9 rfl⟩,?_,?_⟩
 .exact((((((((((ai.refl (λk=>k=b) W).setCell (p:=⟨b,0,none⟩) (.inl rfl) _).setCell (p:=⟨b,1,none⟩) (.inl rfl) _).setCell (p:=⟨b,2,none⟩) (.inl rfl) _).setCell (p:=⟨b,3,none⟩) (.inl rfl) _).setCell (p:=⟨b,4,none⟩) (.inl rfl) _).setCell (p:=⟨b,5,none⟩) (.inl rfl) _).setCell (p:=⟨b,6,none⟩) (.inl rfl) _).setCell (p:=⟨b,7,none⟩) (.inl rfl) _).setCell (p:=⟨b,8,none⟩) (.inl rfl) _).setCell (p:=⟨b,9,none⟩) (.inl rfl) _
 .exact((((((((((Qbg b W).setCell (p:=⟨b,0,none⟩) (Qab b) _).setCell (p:=⟨b,1,none⟩) (Qab b) _).setCell (p:=⟨b,2,none⟩) (Qab b) _).setCell (p:=⟨b,3,none⟩) (Qab b) _).setCell (p:=⟨b,4,none⟩) (Qab b) _).setCell (p:=⟨b,5,none⟩) (Qab b) _).setCell (p:=⟨b,6,none⟩) (Qab b) _).setCell (p:=⟨b,7,none⟩) (Qab b) _).setCell (p:=⟨b,8,none⟩) (Qab b) _).setCell (p:=⟨b,9,none⟩) (Qab b) _
def Fm {w:aj}{x:lj}(h:aA.rep M w cs x):aA.rep M' w' cs x:=h
structure zr(w:aj)(o0 o1:Obj)(K:Nat)(root:aT)(i c:Nat)(a:dC)(sts:List lj)(wr:aj):Prop where
 len:sts.length=i
 blk:wr.heap[K]? =some (uW 1 root (xL a i c) ⟨#[]⟩ ⟨#[]⟩ ⟨#[]⟩ 0 0 ⟨#[]⟩ (xL none 0 0))
 acc:aP (α:=lj) xF (K+1) 85 wr (xL a i c) sts
 bx:Bx w [o0,o1] wr
 hK:w.heap.size+2<=K
section
variable {w wr W w2 w3:aj}{o0 o1 ob:Obj}{K:Nat}{root:aT}{i c:Nat}{a a2:dC}{c2:Nat}{sts:List lj}{s:lj}
theorem zr.lt(h:zr w o0 o1 K root i c a sts wr):K<wr.heap.size:=(Qaa.1 h.blk).1
theorem zr.put(h:zr w o0 o1 K root i c a sts wr)(aY:aq wr w2)(hacc:aP (α:=lj) xF (K+1) 85 w3 (xL a2 (i+1) c2) (sts++[s]))(bG:Below (K+1) (w2.alloc ob) w3):
 zr w o0 o1 K root (i+1) c2 a2 (sts++[s]) (w3.setCell ⟨K,2,none⟩ (xL a2 (i+1) c2)):=by
 have hl:=h.lt;have hK:=h.hK;have hz:=aY.size;have Lh:cI w3 K (uW 1 root (xL a i c) ⟨#[]⟩ ⟨#[]⟩ ⟨#[]⟩ 0 0 ⟨#[]⟩ (xL none 0 0)):=(bG.block K (by omega)).trans ((Qcb w2 ob K (by omega)).trans ((aY.block K hl).trans h.blk));have ub:Below K wr w3:=((aY.mono (by omega)).alloc (by omega) ob).trans (bG.mono (by omega));refine⟨by simp[h.len],?_,?_,?_,hK⟩
 .have:=Qca w3 K 2 _ _ (xL a2 (i+1) c2) Lh;simpa [uW]using this
 .exact hacc.uj ((ai.refl (λj=>j=K) w3).setCell (p:=⟨K,2,none⟩) (.inl rfl) _) (λj hj=>by have:j=K:=hj;omega) Fm
 .exact(h.bx.cP ub (by simp;omega)).cP (B:=K) (dK.setCell (Qab K) _) (by simp;omega)
theorem zr.Ay(h:zr w o0 o1 K root i c a sts wr)(aY:aq wr w2)(bG:Below (K+1) (w2.alloc ob) w3):aU w3 K 2 (xL a i c)/\w3.frozen? ⟨K,2,none⟩=false:=by
 have hl:=h.lt;have hz:=aY.size;have Lh:cI w3 K (uW 1 root (xL a i c) ⟨#[]⟩ ⟨#[]⟩ ⟨#[]⟩ 0 0 ⟨#[]⟩ (xL none 0 0)):=(bG.block K (by omega)).trans ((Qcb w2 ob K (by omega)).trans ((aY.block K hl).trans h.blk));exact⟨(eQ Lh).2.2.1,ag Lh 2⟩
theorem zr.fin(h:zr w o0 o1 K root i c a sts wr)(hr:root.size<=maxLen)(ho:ai (λk=>k=w.heap.size+1) wr W)(hb:Below (w.heap.size+1) wr W):bW w (λu w'=>∃(q:rK)(sv:an),u=rL q sv/\pP q/\ab xF w' sv q.steps) (xR (.agg #[xI 1,xS root,xL a i c,xS ⟨#[]⟩,xS ⟨#[]⟩,xS ⟨#[]⟩,xI 0,xI 0,xS ⟨#[]⟩,xL none 0 0])) W:=by
 have hK:=h.hK;have hz:(⟨#[]⟩:aT).size<=maxLen:=by unfold maxLen;decide
 refine⟨_,rfl,⟨⟨1,root,sts,⟨#[]⟩,⟨#[]⟩,⟨#[]⟩,0,0,⟨#[]⟩,none,0⟩,_,rfl,⟨hr,hz,hz,hz,hz,(show(0:Int)≠5 by decide)⟩,?_⟩,h.bx.1.trans (hb.mono (Nat.le_succ _))⟩;exact(h.acc.uj ho (λj hj=>by have:j=w.heap.size+1:=hj;omega) Fm).slice λi hi=>hi.elim
end
def AR(q:rK)(hq:pP q)(M:aS)(w:aj)(hT:Tb w)(sv:an)(hs:ab M w sv q.steps):xC 55 #[rL q sv] w λe w'=>nN e/\aq w w':=by
 obtain⟨sa,sc,rfl,_⟩:=hs.open_;have bN:=af (Bx.dR w (pQ q (xL sa q.steps.length sc)));have HC:Hd (∀W,Bx w [pQ q (xL sa q.steps.length sc)] W->_):=λW hb=>mY (hb.bJ rfl);have oZ:Hd (∀(s:aT)(W:aj),s.size<=maxLen->_):=λs W hs=>BD s W hs;have Le:Hd (∀W,_):=λW=>vV q.k q.n q.s q.a q.c W;have HR:=fV (w:=w) (λW hb=>kZ ⟨q.k,q.n,q.s,q.a,0,q.c⟩ hq.kind hq.str W (hT.below hb));have HQ:=af hq;have RT:=hq.kind;obtain⟨kd,root,steps,cls,field,op,k,n,s,a,c⟩:=q;unfold rL jl pQ at*;unfold rI.val at HR;dsimp only at*;generalize steps.length=m at*;clear hs hq hT;go_enter func55,ntmps55;go_upto_region 1 with fail;obtain⟨W,hW⟩:=cM (w.alloc (xK #[xI kd,xS root,xL sa m sc,xS cls,xS field,xS op,xI k,xI n,xS s,xL a 0 c] 49));rw[<-hW]at bN⊢;clear hW;obtain⟨q0,q1,q2,q3,q4,q5,q6,q7,q8,q9⟩:=HC.o _ bN.o;go_cut [18](λv wx=>lZ v/\W=wx);case first=>
  rcases Decidable.em (m=0)with rfl|hm;rotate_left 1;have RX:0<m:=by omega
  clear hm;all_goals
   go_wp2_with fail;all_goals first
    |(go_meet;exact⟨⟨_,rfl⟩,rfl⟩)
    |(refine(oZ.o _ _ HQ.o.cls).mono ?_;rintro e w'⟨⟨b2,rfl⟩,rfl⟩;cases b2;all_goals
       go_wp2;go_meet;exact⟨⟨_,rfl⟩,rfl⟩)
 case rest=>
 obtain⟨⟨b,rfl⟩,rfl⟩:=hcut;cases b;rotate_left
 .go_wp2;go_ret;exact⟨dN _,bN.o.1⟩
 by_cases hf:(field.toList==[])=true
 .go_wp2_with fail;all_goals first
   |(go_ret;exact⟨dN _,bN.o.1⟩)
   |(refine(Le.o _).mono ?_;rintro e w1⟨⟨b,rfl⟩,hb⟩;have aO:=af (bN.o.below hb);clear hb;go_wp2;go_ret;exact⟨dN _,aO.o.1⟩)
 go_wp2_with fail;refine(oZ.o _ _ HQ.o.field).mono ?_;rintro e w'⟨⟨b,rfl⟩,rfl⟩;cases b
 .go_wp2;go_ret;exact⟨dN _,bN.o.1⟩
 by_cases h1:(op.toList==[61])=true;rotate_left;by_cases h2:(op.toList==[60])=true;rotate_left;by_cases h3:(op.toList==[62])=true;rotate_left
 .go_wp2;go_ret;exact⟨dN _,bN.o.1⟩
 all_goals
  go_upto_region 8 with fail;obtain⟨W1,dS⟩:=cM (W.alloc (xK #[xI k,xI n,xS s,xL a 0 c] 30));have aO:=af (show aq w W1 by rw[dS];exact(bN.o.alloc _).1);have Rs:=af (show Bx W [xK #[xI k,xI n,xS s,xL a 0 c] 30] W1 by rw[dS];exact Bx.dR W _);rw[<-dS];clear dS q0 q1 q2 q3 q4 q5 q6 q7 q8 q9;obtain⟨v0,v1,v2,v3⟩:=ae (Rs.o.bJ rfl);go_wp2_with fail;refine(HR.o _ aO.o).mono ?_;rintro e w2⟨⟨b,rfl,_⟩,hb⟩;have aL:Hd (aq w w2):=aO.o.trans (hb.mono aO.o.size);have Vv:=af (Rs.o.below hb);clear hb v0 v1 v2 v3;obtain⟨v0,v1,v2,v3⟩:=ae (Vv.o.bJ rfl);cases b
  .go_wp2;go_ret;exact⟨dN _,aL.o⟩
  have k5:(k==5)=false:=by simpa using RT
  by_cases k3:k=3
  .subst k3;go_wp2;go_ret;exact⟨dN _,aL.o⟩
  have k3':(k !=3)=true:=by simpa using k3
  by_cases k4:k=4
  .subst k4;go_wp2;go_ret;exact⟨dN _,aL.o⟩
  have k4':(k !=4)=true:=by simpa using k4
  go_wp2;go_ret;exact⟨dN _,aL.o⟩
def JA(q:rK)(hq:pP q)(M:aS)(w:aj)(hT:Tb w)(sv:an)(hs:ab M w sv q.steps):xC 27 #[rL q sv] w λe w'=>nN e/\aq w w':=by
 have HP:=fV (w:=w) (λW hb=>AH q hq M W sv (hs.below hb));have HF:=fV (w:=w) (λW hb=>AR q hq M W (hT.below hb) sv (hs.below hb));obtain⟨sa,sc,rfl,_⟩:=hs.open_;have bN:=af (Bx.dR w (pQ q (xL sa q.steps.length sc)));obtain⟨kd,root,steps,cls,field,op,k,n,s,a,c⟩:=q;unfold rL pQ at*;dsimp only at*;generalize steps.length=m at*;clear hs hq hT;by_cases h1:kd=1
 .subst h1;go_enter func27,ntmps27;go_wp2_with fail;refine(HP.o _ bN.o.1).mono ?_;rintro e w1⟨⟨b,rfl⟩,hb⟩;have HB:=af (bN.o.below hb);clear hb;go_wp2;go_ret;exact⟨dN _,HB.o.1⟩
 have h1':(kd==1)=false:=by simpa using h1
 by_cases h2:kd=2
 .subst h2;go_enter func27,ntmps27;go_wp2_with fail;refine(HF.o _ bN.o.1).mono ?_;rintro e w1⟨⟨b,rfl⟩,hb⟩;have HB:=af (bN.o.below hb);clear hb;go_wp2;go_ret;exact⟨dN _,HB.o.1⟩
 have h2':(kd==2)=false:=by simpa using h2
 go_enter func27,ntmps27;go_wp2;go_ret;exact⟨dN _,bN.o.1⟩
def KZ(M:aS)(l:List bH)(v:an)(w':aj):Prop:=v= .tuple #[.agg #[xI 0,xI 0,xI 0,xL none 0 0],xB false]\/
 ∃(x:bH)(a:dC)(c:Nat),x∈l/\v= .tuple #[.agg #[xI x.id,xI x.cls,xI x.ver,xL a x.aJ.length c],xB true]/\ab M w' (xL a x.aJ.length c) x.aJ
def Nb(l:List bH)(hl:l.length<=1000)(M:aS)(w:aj)(lv ov rv:an)(nx id:Int)(j8:lv.oneCell'=true)(kN:rv.oneCell'=true)(hM:Bd M w)(kn:ab M w ov l):
 xG 65 #[.agg #[lv,ov,rv,xI nx],xI id] w (KZ M l):=by
 have HO:Hd (∀(i:Nat)(x:bH),l[i]? =some x->_):=λi x hx=>And.intro (Qaf hx) (eD kn hx);obtain⟨oa,oc,rfl,_⟩:=kn.open_;have HG:Hd (∀i,i<l.length->∃x,l[i]? =some x):=λi h=>⟨_,Qac h⟩;have bN:=af (Bx.dh w (xK #[lv,xL oa l.length oc,rv,xI nx] 40) (xK #[xI 0,xI 0,xI 0,xL none 0 0] 65));obtain⟨m,hm⟩:=fx (l.length);have HN:=af hm;rw[hm]at hl bN HG⊢;clear kn hm hM;go_enter func65,ntmps65;go_wp2_with fail;go_quiet(fail);obtain⟨W,hW⟩:=cM (((w.alloc (xK #[lv,xL oa m oc,rv,xI nx] 40)).alloc (xK #[xI 0,xI 0,xI 0,xL none 0 0] 65)).drewN nq);have HB:=af (show Bx w _ W by rw[hW];exact bN.o.drewN nq);rw[<-hW];clear hW bN;obtain⟨p0,p1,p2,p3⟩:=ae (HB.o.bJ rfl);obtain⟨r0,r1,r2,r3⟩:=ae (HB.o.cE rfl);obtain⟨f0,f1,f2,f3⟩:=ic (HB.o.cE rfl);go_wp2;go_loopg [6,7,8]m(λg v6 v7 _ wr=>∃lo hi:Nat,g=hi-lo/\lo<=hi/\hi<=m/\v6=xI lo/\v7=xI hi/\W=wr);case atStart=>exact⟨0,m,rfl,by omega,by omega,rfl,rfl,rfl⟩
 case round=>
  obtain⟨lo,hi,rfl,hle,hhi,rfl,rfl,rfl⟩:=hrel;by_cases aX:lo<hi
  .have hw:IntKind.i64.wrap ((lo:Int)+(hi:Int))=(lo:Int)+(hi:Int):=Qbe _ (by omega);have hq:((lo:Int)+(hi:Int)).tdiv 2=(((lo+hi)/2:Nat):Int):=by rw[Int.tdiv_eq_ediv_of_nonneg (by omega)];omega
   have hq2:IntKind.i64.wrap ((((lo+hi)/2:Nat):Int))=(((lo+hi)/2:Nat):Int):=Qbe _ (by omega);have Ac:lo<=(lo+hi)/2:=by omega
   have YN:(lo+hi)/2<hi:=by omega
   have hm3:(lo+hi)/2<m:=by omega
   generalize(lo+hi)/2=md at*;obtain⟨x,hx⟩:=HG.o md hm3;obtain⟨_,b,off,cap,a,c,hv,_,_,hc⟩:=HO.o md x hx;obtain⟨rfl,rfl⟩:=gY hv;obtain⟨g0,g1,g2,g3⟩:=hc _ HB.o.1;clear hv hc hx;have hmz:(0:Int)<=(md:Int):=by omega
   have qfo:(md:Int)<(m:Int):=by omega
   by_cases hid:x.id<id
   .go_wp2;go_roundg(hi-(md+1));case measure=>omega
    case rel=>exact⟨md+1,hi,rfl,by omega,hhi,by go_num,rfl,rfl⟩
   .go_wp2;go_roundg(md-lo);case measure=>omega
    case rel=>exact⟨lo,md,rfl,by omega,by omega,rfl,rfl,rfl⟩
  .have hzero:∀W',aq w W'->bW w (KZ M l) (xR (.tuple #[.agg #[xI 0,xI 0,xI 0,xL none 0 0],xB false])) W':=λW' hb=>⟨_,rfl, .inl rfl,hb⟩;have HZ:=af hzero;clear hzero;have ui:∀a b c d,aq w ((((W.setCell ⟨w.heap.size+1,0,none⟩ a).setCell ⟨w.heap.size+1,1,none⟩ b).setCell ⟨w.heap.size+1,2,none⟩ c).setCell ⟨w.heap.size+1,3,none⟩ d):=λa b c d=>(((HB.o.1.setCell (by simp) _).setCell (by simp) _).setCell (by simp) _).setCell (by simp) _;have jV:=af ui;clear ui;have hlh:lo=hi:=by omega
   clear hle aX;subst hlh;by_cases XA:lo=m
   .have qfp:((lo:Int)==(m:Int))=true:=by rw[XA];simp
    clear XA;go_wp2_with fail;refine Qae (v:= .tuple #[.agg #[xI 0,xI 0,xI 0,xL none 0 0],xB false]) (by simp[results,results65,go_sem,r0,r1,r2,r3]) rfl (HZ.o _ ?_);exact jV.o _ _ _ _
   .have qfp:((lo:Int)==(m:Int))=false:=by simp;omega
    have NS:lo<m:=by omega
    have hmz:(0:Int)<=(lo:Int):=by omega
    have qfo:(lo:Int)<(m:Int):=by omega
    obtain⟨x,hx⟩:=HG.o lo NS;obtain⟨fG,b,off,cap,a,c,hv,_,dt,hc⟩:=HO.o lo x hx;obtain⟨rfl,rfl⟩:=gY hv;obtain⟨g0,g1,g2,g3⟩:=hc _ HB.o.1;have AZ:=af dt;have Uw:=af fG;clear hv hc hx dt XA fG;by_cases hid:x.id=id
    .have qch:(x.id !=id)=false:=by simpa using hid
     clear hid;go_wp2_with fail;refine Qae (v:= .tuple #[.agg #[xI x.id,xI x.cls,xI x.ver,xL a x.aJ.length c],xB true]) (by simp[results,results65,go_sem,r0,r1,r2,r3]) rfl ⟨_,rfl, .inr ⟨x,a,c,Uw.o,rfl,?_⟩,jV.o _ _ _ _⟩;exact AZ.o.below (jV.o _ _ _ _)
    .have qch:(x.id !=id)=true:=by simpa using hid
     clear hid;go_wp2_with fail;refine Qae (v:= .tuple #[.agg #[xI 0,xI 0,xI 0,xL none 0 0],xB false]) (by simp[results,results65,go_sem,r0,r1,r2,r3]) rfl (HZ.o _ ?_);exact jV.o _ _ _ _
def rP(l:List bH)(vs:List au):Prop:=∀v∈vs,∃x∈l,v= .mk 3 x.id jN []
def wA {l:List bH}(h:rP l vs){x:bH}(hx:x∈l):rP l (vs++[.mk 3 x.id jN []]):=λv hv=>by
 rcases Qch.1 hv with hv|hv
 .exact h v hv
 .exact⟨x,hx,List.mem_singleton.1 hv⟩
def Gb(l:List bH)(hl:l.length<=1000)(M:aS)(w:aj)(lv ov rv:an)(nx num:Int)(j8:lv.oneCell'=true)(kN:rv.oneCell'=true)(hM:Bd M w)(kn:ab M w ov l)(gf:Nat)(cb:Array an)
 (JQ:∀args w,(callFunc gf args).run prog w= .ok (.enter gf args) w)
 (hg:∀W(x:bH)a c,aq w W->x∈l->x.cls=num->ab M W (xL a x.aJ.length c) x.aJ->xC gf (#[.agg #[xI x.id,xI x.cls,xI x.ver,xL a x.aJ.length c]]++cb) W λe w'=>nN e/\aq W w'):
 xG 57 #[.agg #[lv,ov,rv,xI nx],xI num, .func (.func gf) #[] cb] w λv w'=>∃vs,ab M w' v vs/\rP l vs:=by
 obtain⟨i0,dz,dX,cY,dA⟩:=info_parts fY;have HO:Hd (∀(i:Nat)(x:bH),l[i]? =some x->_):=λi x hx=>And.intro (Qaf hx) (eD kn hx);have HF:Hd (∀W(x:bH)a c,aq w W->x∈l->x.cls=num->ab M W (xL a x.aJ.length c) x.aJ->_):=hg;obtain⟨oa,oc,rfl,_⟩:=kn.open_;have HG:Hd (∀i,i<l.length->∃x,l[i]? =some x):=λi h=>⟨_,Qac h⟩;have bN:=af (Bx.dR w (xK #[lv,xL oa l.length oc,rv,xI nx] 40));have HM:=af hM;obtain⟨m,hm⟩:=fx (l.length);have HN:=af hm;rw[hm]at hl bN HG⊢;clear kn hm hM hg;go_enter func57,ntmps57;go_wp2;go_loopg [7,9,13]m(λg v7 _ iv wr=>∃(i:Nat)(a1:dC)(c1:Nat)(vs:List au),g=m-i/\i<=m/\iv=xI i/\v7=xL a1 vs.length c1/\Hd (vs.length<=i/\rP l vs)/\Hd (aP M (w.heap.size+1) 30 wr (xL a1 vs.length c1) vs)/\Hd (Bx w [xK #[lv,xL oa m oc,rv,xI nx] 40] wr));case atStart=>exact⟨0,none,0,[],rfl,by omega,rfl,rfl,af ⟨bq,λv hv=>by cases hv⟩,af (aP.nil _ _ _ _),bN⟩
 case round=>
  clear bN;obtain⟨i,a1,c1,vs,rfl,hi,rfl,rfl,HV,HA,HB⟩:=hrel;by_cases aX:i<m
  .obtain⟨x,hx⟩:=HG.o i aX;obtain⟨fG,b,off,cap,a,c,hv,_,dt,hc⟩:=HO.o i x hx;obtain⟨rfl,rfl⟩:=gY hv;obtain⟨g0,g1,g2,g3⟩:=hc _ HB.o.1;have AZ:=af dt;have Uw:=af fG;clear hv hc hx dt fG;have Q8:vs.length<=1000:=by have:=HV.o.1;omega
   by_cases gw:x.cls=num
   .have Yh:Hd (∀W,aq w W->ab M W (xL a x.aJ.length c) x.aJ->_):=λW hb hs=>HF.o W x a c hb Uw.o gw hs;rw[gw]at Yh;go_upto_region 5 with fail;obtain⟨W1,dS⟩:=cM (wr.alloc (xK #[xI x.id,xI num,xI x.ver,xL a x.aJ.length c] 65));have aO:=af (show Bx w [xK #[lv,xL (some ⟨b,off,none⟩) m oc,rv,xI nx] 40] W1 by rw[dS];exact HB.o.alloc _);have Dq:=af (show aP M (w.heap.size+1) 30 W1 (xL a1 vs.length c1) vs by rw[dS];exact HA.o.alloc _);have fI:=af (show Bx wr [xK #[xI x.id,xI num,xI x.ver,xL a x.aJ.length c] 65] W1 by rw[dS];exact Bx.dR wr _);rw[<-dS];clear dS g0 g1 g2 g3 gw;obtain⟨o0,o1,o2,o3⟩:=ae (fI.o.bJ rfl);go_wp2_with fail;refine(Yh.o _ aO.o.1 (AZ.o.below aO.o.1)).mono ?_;rintro e w2⟨⟨bb,rfl⟩,aY⟩;have aL:=af (aO.o.below aY);have kj:=af (Dq.o.below aY);have jT:=af (fI.o.below aY);clear aY o0 o1 o2 o3;obtain⟨o0,o1,o2,o3⟩:=ae (jT.o.bJ rfl);cases bb
    .go_wp2;go_roundg(m-(i+1));case measure=>omega
     case rel=>exact⟨i+1,a1,c1,vs,rfl,by omega,by go_num,rfl,af ⟨Nat.le_succ_of_le HV.o.1,HV.o.2⟩,kj,aL⟩
    .have QN:w.heap.size+1<=w2.heap.size:=aL.o.bY;go_wp2_with(at_builtin;refine aZ (α:=au) rfl _ _ _ rfl M (w.heap.size+1) 30 i0 _ 56 underlying28 dz dX cY dA rfl (by decide) (.slice a1 vs.length c1) vs rfl (kj.o.alloc _) (λ_=>True) _ _ (.mk 3 x.id jN []) rfl (b9 _ _ _ _ rfl trivial) (eN.iff.2 ⟨_,rfl,ab.nil _ _,fR⟩) (by unfold maxLen;omega) (by omega) (by simp;omega) ?_;intro a2 c2 w4 bu dr dT;have cL:=af bu;have eH:Hd (Bx w [xK #[lv,xL (some ⟨b,off,none⟩) m oc,rv,xI nx] 40] w4):=(aL.o.alloc _).cP dT (by simp);clear bu dr dT);go_roundg(m-(i+1));case measure=>omega
     case rel=>
      refine⟨i+1,a2,c2,vs++[.mk 3 x.id jN []],rfl,by omega,by go_num,by simp,af ⟨by have:=HV.o.1;simp;omega,wA HV.o.2 Uw.o⟩,?_,eH⟩;simpa using cL
   .have qfq:(x.cls==num)=false:=by simpa using gw
    clear gw;go_wp2;go_roundg(m-(i+1));case measure=>omega
    case rel=>exact⟨i+1,a1,c1,vs,rfl,by omega,by go_num,rfl,af ⟨Nat.le_succ_of_le HV.o.1,HV.o.2⟩,af (HA.o.alloc _),af (HB.o.alloc _)⟩
  .go_wp2;go_ret;exact⟨_,rfl,⟨vs,HA.o.slice λj hj=>by have:=HM.o j hj;omega,HV.o.2⟩,HB.o.1⟩
structure j5(l:List bH)(B:Nat)(X:Nat)(t:Tr)(i:Nat)(w:aj):Prop where
 ix:KY w X t
 base:B<=X
 own:∀c∈t.cells,B<=c.1/\∃x∈l,x.id=c.2
 len:t.cells.length<=i
theorem j5.put {l:List bH}{t t':Tr}{x:bH}(h:j5 l B X t i w)(hx:x∈l)(hB:B<=w.heap.size)(k:KY w' X t')(hc:∀c∈t'.cells,c.2=x.id/\w.heap.size<=c.1\/c∈t.cells)(hl:t'.cells.length<=t.cells.length+1):j5 l B X t' (i+1) w':=
 ⟨k,h.base,λc hh=>(hc c hh).elim (λe=>⟨Qcg hB e.2,x,hx,e.1.symm⟩) (λe=>h.own c e),by have:=h.len;omega⟩
theorem j5.blocks {l:List bH}{t:Tr}(h:j5 l B X t i w)(hk:k=X\/k∈t.blocks):B<=k:=by
 rcases hk with rfl|hk
 .exact h.base
 .obtain⟨c,hc,rfl⟩:=List.mem_map.1 hk;exact(h.own c hc).1
theorem j5.later {l:List bH}{t:Tr}(h:j5 l B X t i w)(hb:aq w W):j5 l B X t i W:=⟨h.ix.below hb,h.base,h.own,h.len⟩
theorem Bx.aN {os:List Obj}{S:aS}(h:Bx w os wx)(o:ai S wx W)(hS:∀k,S k->w.heap.size+os.length<=k):Bx w os W:=
 h.cP (B:=w.heap.size+os.length) ⟨o.os,o.tape,o.output,o.size,λk hk=>o.block k (Qde hk h.2.1) λhs=>by have:=hS k hs;omega⟩ bq
def JB(l:List bH)(hl:l.length<=200)(M:aS)(w:aj)(lv ov rv:an)(nx num:Int)(at_:Nat)(k n:Int)(s:aT)(a:dC)(c:Nat)(hk:k≠5)(hs:s.size<=maxLen)(j8:lv.oneCell'=true)(kN:rv.oneCell'=true)(hM:Bd M w)(hT:Tb w)(kn:ab M w ov l)
 (oN:∀x∈l,x.cls=num->∀v,x.aJ[at_]? =some v->v.list=[]/\v.kind≠5)(hv8:∀x∈l,x.aJ.length<=8):
 xG 62 #[.agg #[lv,ov,rv,xI nx],xI num,xI at_, .agg #[xI k,xI n,xS s,xL a 0 c]] w λv w'=>∃vs,ab M w' v vs/\rP l vs:=by
 obtain⟨i0,dz,dX,cY,dA⟩:=info_parts fY;have HO:Hd (∀(i:Nat)(x:bH),l[i]? =some x->_):=λi x hx=>And.intro (Qaf hx) (eD kn hx);have Ar:=af oN;have YA:=af hT;have HKS:=af (And.intro hk hs);obtain⟨oa,oc,rfl,_⟩:=kn.open_;have HG:Hd (∀i,i<l.length->∃x,l[i]? =some x):=λi h=>⟨_,Qac h⟩;have bN:=af (Bx.dh w (xK #[lv,xL oa l.length oc,rv,xI nx] 40) (xK #[xI k,xI n,xS s,xL a 0 c] 30));have HM:=af hM;obtain⟨m,hm⟩:=fx (l.length);have HN:=af hm;rw[hm]at hl bN HG⊢;clear kn hm hM hT oN hk hs;go_enter func62,ntmps62;go_wp2_with fail;refine(TG _).mono ?_;rintro e w1⟨X,rfl,hXz,hX,aC⟩;have aO:=af (bN.o.below aC);have fI:Hd (j5 l (w.heap.size+2) X .nil 0 w1):=⟨hX,by simp at hXz;omega,λc hc=>(by cases hc),bq⟩;obtain⟨p0,p1,p2,p3⟩:=ae (aO.o.bJ rfl);clear aC hX hXz bN;go_wp2;go_loopg [11,19]m(λg _ iv wr=>∃(i:Nat)(t:Tr),g=m-i/\i<=m/\iv=xI i/\Hd (j5 l (w.heap.size+2) X t i wr)/\Hd (Bx w [xK #[lv,xL oa m oc,rv,xI nx] 40,xK #[xI k,xI n,xS s,xL a 0 c] 30] wr));case atStart=>exact⟨0, .nil,rfl,by omega,rfl,fI,aO⟩
 case round=>
  clear p0 p1 p2 p3 fI aO;obtain⟨i,t,rfl,hi,rfl,HX,HB⟩:=hrel;by_cases aX:i<m
  .obtain⟨x,hx⟩:=HG.o i aX;obtain⟨fG,b,off,cap,a',c',hv,_,dt,hc⟩:=HO.o i x hx;obtain⟨rfl,rfl⟩:=gY hv;obtain⟨g0,g1,g2,g3⟩:=hc _ HB.o.1;have AZ:=af dt;have Uw:=af fG;have h8:=hv8 x fG;have HXN:Hd (j5 l (w.heap.size+2) X t (i+1) wr):=⟨HX.o.ix,HX.o.base,HX.o.own,by have:=HX.o.len;omega⟩;clear hv hc hx dt fG;by_cases gw:x.cls=num
   .have Yh:Hd (∀v,x.aJ[at_]? =some v->v.list=[]/\v.kind≠5):=Ar.o x Uw.o gw;go_upto_region 5 with fail;obtain⟨W1,dS⟩:=cM (wr.alloc (xK #[xI x.id,xI num,xI x.ver,xL a' x.aJ.length c'] 65));have aO:=af (show Bx w [xK #[lv,xL (some ⟨b,off,none⟩) m oc,rv,xI nx] 40,xK #[xI k,xI n,xS s,xL a 0 c] 30] W1 by rw[dS];exact HB.o.alloc _);have fI:=af (show j5 l (w.heap.size+2) X t i W1 by rw[dS];exact HX.o.later bO);obtain⟨o0,o1,o2,o3⟩:pd W1 wr 0 (xI x.id)/\pd W1 wr 1 (xI num)/\pd W1 wr 2 (xI x.ver)/\pd W1 wr 3 (xL a' x.aJ.length c'):=by rw[dS];exact ae (Qbh wr _)
    rw[<-dS];clear dS g0 g1 g2 g3 gw;by_cases og:at_<x.aJ.length
    .obtain⟨⟨k1,n1,s1,ll⟩,rZ⟩:=dQ x.aJ at_ og;obtain⟨Aj,qM⟩:=Yh.o _ rZ;obtain⟨b2,J0,oY,a1,c1,vw,_,_,dB,jh⟩:=dZ AZ.o rZ;obtain⟨rfl,rfl⟩:a'=some ⟨b2,J0,none⟩/\c'=oY:=by simpa using vw
     obtain⟨e0,e1,e2,e3⟩:=(jh _ aO.o.1).1;have Aj:ll=[]:=Aj;subst Aj;have HPD:=af (TF X t k1 n1 s1 a1 c1 qM dB x.id W1.drew (YA.o.below aO.o.1.drew) (fI.o.ix.below (dK.drew)) (by have:=fI.o.len;omega));have cY:(0:Int)<=(at_:Int):=by omega
     have dA:(at_:Int)<(x.aJ.length:Int):=by omega
     generalize x.aJ.length=vl at*;clear vw jh rZ qM dB Yh;dsimp only[List.length_nil]at e3;go_wp2_with fail;go_region_law(first
      |(go_simp;go_at_call 111;refine HPD.o.mono ?_;rintro e wa⟨en,t',rfl,h1,h2,h3,h4⟩;have HF:=af (And.intro h1 (And.intro h2 (And.intro h3 h4)));clear h1 h2 h3 h4)
      |fail);all_goals
      go_wp2;go_roundg(m-(i+1));case measure=>omega
      case rel=>
       obtain⟨h1,h2,h3,h4⟩:=HF.o;have hzz:w.heap.size+2<=W1.heap.size:=aO.o.bY;exact⟨i+1,t',rfl,by omega,by go_num,af (fI.o.put Uw.o hzz h1 h2 h3),af (aO.o.drew.aN h4 λk hk=>fI.o.blocks hk)⟩
    .go_wp2;go_roundg(m-(i+1));case measure=>omega
     case rel=>exact⟨i+1,t,rfl,by omega,by go_num,af ⟨fI.o.ix,fI.o.base,fI.o.own,by have:=fI.o.len;omega⟩,aO⟩
   .have qfq:(x.cls==num)=false:=by simpa using gw
    clear gw;go_wp2;go_roundg(m-(i+1));case measure=>omega
    case rel=>exact⟨i+1,t,rfl,by omega,by go_num,af (HXN.o.later bO),af (HB.o.alloc _)⟩
  .have QX:=af (Qv X t k n s a c HKS.o.1 HKS.o.2 M wr (HM.o.below HB.o.1) (YA.o.below HB.o.1) HX.o.ix (by have:=HX.o.len;omega));obtain⟨u0,u1,u2,u3⟩:=ae (HB.o.cE rfl);go_wp2_with fail;refine(QX.o).mono ?_;rintro e w2⟨_,rfl,⟨L,hL,hLt,hLz⟩,aY⟩;have hq2:L.length<=200:=by have:=HX.o.len;omega
   have aL:Hd (aq w w2):=HB.o.1.trans (aY.mono HB.o.1.size);have oV:Hd (∀n∈L,∃x∈l,x.id=n):=λn hn=>by
    obtain⟨cc,hcc,rfl⟩:=List.mem_map.1 (hLt n hn);exact(HX.o.own cc hcc).2
   have HLC:Hd (∀(j:Nat)(z:Int),L[j]? =some z->_):=λj z hj=>iF hL hj;obtain⟨la,lc,rfl,AW,_⟩:=hL.open_;have hLg:∀j,j<L.length->∃z,L[j]? =some z:=λj hj=>⟨_,Qac hj⟩;have HLG:=af hLg;have Zi:Hd (w.heap.size<=w2.heap.size):=aL.o.size;obtain⟨q,hq⟩:=fx (L.length);rw[hq]at HLG AW hq2⊢;have HQL:=af hq;clear hL hLt hLz aY hLg hq u0 u1 u2 u3 HX HB;go_wp2;go_loopg [12,14,48]q(λg v12 _ iv Sl=>∃(j:Nat)(a2:dC)(c2:Nat)(vs:List au),g=q-j/\j<=q/\iv=xI j/\v12=xL a2 vs.length c2/\Hd (vs.length<=j/\rP l vs)/\Hd (aP M w2.heap.size 30 Sl (xL a2 vs.length c2) vs)/\Hd (aq w2 Sl));case atStart=>exact⟨0,none,0,[],rfl,by omega,rfl,rfl,af ⟨bq,λv hv=>by cases hv⟩,af (aP.nil _ _ _ _),af dK⟩
   case round=>
    obtain⟨j,a2,c2,vs,rfl,hj,rfl,rfl,HV,HA,HBJ⟩:=hrel;by_cases xE:j<q
    .obtain⟨z,hz⟩:=HLG.o j xE;obtain⟨b3,qh2,qh3,hv3,_,Sb⟩:=HLC.o j z hz;obtain⟨rfl,rfl⟩:=gY hv3;have e0:=Sb _ HBJ.o;obtain⟨x,Ad,rfl⟩:=oV.o z (Qaf hz);have Lb:=af Ad;have Q8:vs.length<=200:=by have:=HV.o.1;omega
     have QN:=HBJ.o.size;clear hz hv3 Sb Ad;go_wp2_with(at_builtin;refine aZ (α:=au) rfl _ _ _ rfl M w2.heap.size 30 i0 _ 56 underlying28 dz dX cY dA rfl (by decide) (.slice a2 vs.length c2) vs rfl (HA.o.alloc _) (λ_=>True) _ _ (.mk 3 x.id jN []) rfl (b9 _ _ _ _ rfl trivial) (eN.iff.2 ⟨_,rfl,ab.nil _ _,fR⟩) (by unfold maxLen;omega) (by omega) (by simp;omega) ?_;intro a4 c4 w4 bu dr dT;have cL:=af bu;have eH:Hd (aq w2 w4):=(HBJ.o.alloc HBJ.o.size _).trans dT;clear bu dr dT);go_roundg(q-(j+1));case measure=>omega
     case rel=>
      refine⟨j+1,a4,c4,vs++[.mk 3 x.id jN []],rfl,by omega,by go_num,by simp,af ⟨by have:=HV.o.1;simp;omega,wA HV.o.2 Lb.o⟩,?_,eH⟩;simpa using cL
    .go_wp2;go_ret;exact⟨_,rfl,⟨vs,HA.o.slice λj hj=>by have:=HM.o j hj;have:=Zi.o;omega,HV.o.2⟩,aL.o.trans (HBJ.o.mono Zi.o)⟩
def Nc(i c v:Int)(a:dC)(n k:Nat)(w:aj):xC 58 #[.agg #[xI i,xI c,xI v,xL a n k]] w λe w'=>nN e/\aq w w':=by
 go_enter func58,ntmps58;go_wp2;go_ret;exact⟨dN _,bO⟩
def Nd(q:rK)(sv:an)(at_:Nat)(pa pq:Nat)(x:bH)(M:aS)(w:aj)(a:dC)(c:Nat)(hpa:cI w pa (xK #[xI (at_:Int)] 3))(hpq:cI w pq (pQ q sv))
 (dt:ab M w (xL a x.aJ.length c) x.aJ)(oN:∀v,x.aJ[at_]? =some v->v.list=[]):
 xC 63 #[.agg #[xI x.id,xI x.cls,xI x.ver,xL a x.aJ.length c],xP pa,xP pq] w λe w'=>nN e/\aq w w':=by
 have GH:=(Qaa.1 hpa).1;have hql:=(Qaa.1 hpq).1;have QC:Hd (∀k1 n1 s1 a1 c1 W,_):=λk1 n1 s1 a1 c1 W=>S9 k1 q.k n1 q.n s1 q.s q.op a1 q.a c1 q.c W;obtain⟨W1,dS⟩:=cM (w.alloc (xK #[xI x.id,xI x.cls,xI x.ver,xL a x.aJ.length c] 65));have aO:=af (show aq w W1 by rw[dS];exact bO);have o3:=(ae (Qbh w (xK #[xI x.id,xI x.cls,xI x.ver,xL a x.aJ.length c] 65))).2.2.2;rw[<-dS]at o3;have a0:=one_cell ((aO.o.block pa GH).trans hpa);obtain⟨_,_,_,_,_,q5,q6,q7,q8,q9⟩:=mY ((aO.o.block pq hql).trans hpq);unfold jl at QC;by_cases og:at_<x.aJ.length
 .obtain⟨⟨k1,n1,s1,ll⟩,rZ⟩:=dQ x.aJ at_ og;obtain rfl:ll=[]:=oN _ rZ;obtain⟨b2,J0,oY,a1,c1,vw,_,_,_,jh⟩:=dZ dt rZ;obtain⟨rfl,rfl⟩:=gY vw;obtain⟨e0,e1,e2,e3⟩:=(jh _ aO.o).1;have cY:(0:Int)<=(at_:Int):=by omega
  have dA:(at_:Int)<(x.aJ.length:Int):=by omega
  have hd:decide ((at_:Int)<(x.aJ.length:Int))=true:=by simpa using og
  generalize x.aJ.length=vl at*;clear vw jh rZ dt oN hpa hpq;dsimp only[List.length_nil]at e3;go_enter func63,ntmps63;go_upto_region 1 with fail;rw[<-dS];clear dS;go_wp2_with fail;go_region_law(first
   |(go_simp;go_at_call 64;refine(QC.o _ _ _ _ _ _).mono ?_;rintro e wa⟨⟨bb,rfl⟩,hb⟩;have DR:=af hb;clear hb)
   |fail);all_goals
   go_wp2;go_ret;exact⟨dN _,aO.o.drew.trans (DR.o.mono aO.o.size)⟩
 .have hd:decide ((at_:Int)<(x.aJ.length:Int))=false:=by simpa using og
  generalize x.aJ.length=vl at*;clear dt oN hpa hpq;go_enter func63,ntmps63;go_upto_region 1 with fail;rw[<-dS];clear dS;go_wp2_with fail;go_quiet(fail);go_wp2;go_ret;exact⟨dN _,⟨aO.o.os,aO.o.tape,aO.o.output,aO.o.size,aO.o.block⟩⟩
end Go.Proofs.YtccpcfcochffcaaGreatDoor
