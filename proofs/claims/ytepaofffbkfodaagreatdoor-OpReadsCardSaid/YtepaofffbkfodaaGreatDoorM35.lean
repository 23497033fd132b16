/- A part of OpReads's proof; no condition. -/
import Derived.Test.YtepaofffbkfodaaGreatDoorM16
import Derived.Test.YtepaofffbkfodaaGreatDoorM18
set_option linter.all false
set_option maxHeartbeats 8000000
set_option maxRecDepth 100000
namespace Go.Proofs.YtepaofffbkfodaaGreatDoor
open Go.Proofs.Tryz
variable{cur:Array an}{W w:aj}{t:TypeId}{K g:Nat}{id:Int}{o0:Obj}{fv:an}{nm:aM}
section
open Go.RowKit
def qU {vs:List an}(h:bR W K (.cells cur t (0,0)))(hl:cur.size=vs.length):(W.setCells K 0 vs).heap[K]? =some (.cells vs.toArray t (0,0)):=by
 obtain⟨CG,g1,g2,g3⟩:=lU K t vs 0 W cur h (by omega);have:CG=vs.toArray:=by
  apply Array.toList_inj.1;simp only[Nat.zero_add,List.take_zero,List.nil_append]at g3;rw[Qah (by rw[Array.length_toList,g2,hl];exact bN)]at g3;exact g3
 rw[g1,this]
theorem kU(K:Nat):∀(vs:List an)(o:Nat){w W:aj},ai (λi=>i=K) w W->ai (λi=>i=K) w (W.setCells K o vs)
 |[],_,_,_,h=>h
 |v::r,o,_,_,h=>kU K r (o+1) (h.setCell (p:=⟨K,o,none⟩) (.inl rfl) v)
def mL {n:Nat}(h:bR W K (.cells cur t (0,0)))(hn:n<=cur.size):W.there K 0 n:=λj hj=>by
 rw[Nat.zero_add];exact⟨by simp[World.cell?,h];omega,ag h j⟩
def ir:(Tryz.prog.info? 53).map (·.size)=some 19:=by kernel_rfl
def P5 {k:Int}{c n:aM}{vv:an}{dn:aM}{df:an}(h:bR W g (eG k id c n vv dn df)):W.rangeAt g 0 [xI k,xI id,xS c,xS n,xI 0,xI 0,xS ⟨#[]⟩,xL none 0 0,vv,xS dn,df,xI 0,xS ⟨#[]⟩,xS ⟨#[]⟩,xS ⟨#[]⟩,xI 0,xI 0,xS ⟨#[]⟩,xS ⟨#[]⟩]:=λj v hv=>by
 rw[Nat.zero_add];unfold eG at h;simp only[World.cell?,h];simpa using hv
def IT {op:Oper}{a:Act}{K:Act->aj->Prop}{Q:Exit->Act->aj->Prop}(x:Operand)(ho:op.op= .load 53 x)(b:Nat)(hx:a.eval x=xP b){k:Int}{c n:aM}{vv:an}{dn:aM}{df:an}(h:bR w b (eG k id c n vv dn df))
 (hk:K (a.put op.dst (A6 k id c n vv dn df)) w):op.wp prog a w K Q:=
 wp_load_mid 53 x ho b 0 hx _ _ (P5 h) underlying53 rfl ir hk
def cQ {ops:Array Oper}{rest:List Oper}{op:Oper}{a:Act}{Q:Exit->Act->aj->Prop}(hw:Region.wanted op (yielded ops a.tmps)=true)(x:Operand)(ho:op.op= .load 53 x)(b:Nat)(hx:a.eval x=xP b){k:Int}{c n:aM}{vv:an}{dn:aM}{df:an}(h:bR w b (eG k id c n vv dn df))
 (hk:wpList prog ops Q rest (a.put op.dst (A6 k id c n vv dn df)) w):wpList prog ops Q (op::rest) a w:=
 wpList_step λK hK=>by rw[if_pos hw];exact IT x ho b hx h (hK _ _ hk)
def sV {k k' id':Int}{c n c' n':aM}{vv vv':an}{dn dn':aM}{df df':an}(h:Bx w [o0,eG k id c n vv dn df] W):
 Bx w [o0,eG k' id' c' n' vv' dn' df'] (W.setCells (w.heap.size+1) 0 [xI k',xI id',xS c',xS n',xI 0,xI 0,xS ⟨#[]⟩,xL none 0 0,vv',xS dn',df',xI 0,xS ⟨#[]⟩,xS ⟨#[]⟩,xS ⟨#[]⟩,xI 0,xI 0,xS ⟨#[]⟩,xS ⟨#[]⟩]):=by
 have hK:bR W (w.heap.size+1) (eG k id c n vv dn df):=h.bU rfl;have h2:2<=W.heap.size-w.heap.size:=by have:=h.bF;simp at this;omega
 have ho:=kU (w.heap.size+1) [xI k',xI id',xS c',xS n',xI 0,xI 0,xS ⟨#[]⟩,xL none 0 0,vv',xS dn',df',xI 0,xS ⟨#[]⟩,xS ⟨#[]⟩,xS ⟨#[]⟩,xI 0,xI 0,xS ⟨#[]⟩,xS ⟨#[]⟩] 0 (ai.refl _ W);refine⟨aS h.1 h.1.size ho (λi hi=>by omega),by have:=h.bF;have:=ho.size;simp at*;omega,λi o hi=> ?_⟩;match i,hi with
 |0,hi=>
  simp at hi;subst hi;exact(ho.block _ (by omega) (by omega)).trans (h.bG rfl)
 |1,hi=>
  simp at hi;subst hi;exact qU hK rfl
 |i+2,hi=>simp at hi
def wg {k k':Int}{c n:aM}{vv:an}{dn:aM}{df:an}(h:Bx w [o0,eG k id c n vv dn df] W):
 Bx w [o0,eG k' id c n vv dn df] (W.setCell ⟨w.heap.size+1,0,none⟩ (xI k')):=by
 have:=h.set 1 0 (v:=xI k') rfl;simpa [eG]using this
def sW(id:Int)(h:1<=id/\id<=100000)(w:aj):xC 15 #[A6 7 id ⟨#[]⟩ ⟨#[]⟩ (xL none 0 0) ⟨#[]⟩ (xL none 0 0)] w (cr (xB true) w):=by
 have XX:=gG (w:=w) (λW _=>qg 7 id ⟨#[]⟩ ⟨#[]⟩ (xL none 0 0) ⟨#[]⟩ (xL none 0 0) W (SU.nil W));obtain⟨h1,h2⟩:=h;have vS:∀W,(Instr.build 53 #[(1,xI id)]).run prog W= .ok (.agg #[xI 0,xI id,xS ⟨#[]⟩,xS ⟨#[]⟩,xI 0,xI 0,xS ⟨#[]⟩,xL none 0 0,(xL none 0 0),xS ⟨#[]⟩,(xL none 0 0),xI 0,xS ⟨#[]⟩,xS ⟨#[]⟩,xS ⟨#[]⟩,xI 0,xI 0,xS ⟨#[]⟩,xS ⟨#[]⟩]) W:=λW=>run_build W _ _ _ (by kernel_rfl);have HX:=af (Bx.dq w (eG 7 id ⟨#[]⟩ ⟨#[]⟩ (xL none 0 0) ⟨#[]⟩ (xL none 0 0)) (eG 0 0 ⟨#[]⟩ ⟨#[]⟩ (xL none 0 0) ⟨#[]⟩ (xL none 0 0)));go_enter func15,ntmps15;go_upto_region 2 with fail;obtain⟨W1,bT⟩:=bS ((w.alloc (eG 7 id ⟨#[]⟩ ⟨#[]⟩ (xL none 0 0) ⟨#[]⟩ (xL none 0 0))).alloc (eG 0 0 ⟨#[]⟩ ⟨#[]⟩ (xL none 0 0) ⟨#[]⟩ (xL none 0 0)));rw[<-bT]at HX;unfold eG at bT;rw[<-bT];clear bT;obtain⟨a0,a1,a2,a3,-,-,-,-,a8,a9,yZ,-,-,-,-,-,-,-,-⟩:=bB (HX.o.bG rfl);have ry:Hd (W1.there (w.heap.size+1) 0 19):=mL (HX.o.bU rfl) (by simp);go_upto_region 27 with fail;iterate 10 go_step
 refine wpList_store_mid ?_ 53 (.tmp 3) (.tmp 104) ?_ (w.heap.size+1) 0 #[xI 0,xI id,xS ⟨#[]⟩,xS ⟨#[]⟩,xI 0,xI 0,xS ⟨#[]⟩,xL none 0 0,(xL none 0 0),xS ⟨#[]⟩,(xL none 0 0),xI 0,xS ⟨#[]⟩,xS ⟨#[]⟩,xS ⟨#[]⟩,xI 0,xI 0,xS ⟨#[]⟩,xS ⟨#[]⟩] ?_ ?_ ?_ ?_ ?_ ?_
 .exact rfl
 .exact rfl
 .exact rfl
 .exact rfl
 .exact ry.o
 .exact ir
 .simp[Value.oneCell']
 obtain⟨W2,gS⟩:=bS (W1.setCells (w.heap.size+1) 0 #[xI 0,xI id,xS ⟨#[]⟩,xS ⟨#[]⟩,xI 0,xI 0,xS ⟨#[]⟩,xL none 0 0,(xL none 0 0),xS ⟨#[]⟩,(xL none 0 0),xI 0,xS ⟨#[]⟩,xS ⟨#[]⟩,xS ⟨#[]⟩,xI 0,xI 0,xS ⟨#[]⟩,xS ⟨#[]⟩].toList);have HY:=af (show Bx w [eG 7 id ⟨#[]⟩ ⟨#[]⟩ (xL none 0 0) ⟨#[]⟩ (xL none 0 0),eG 0 id ⟨#[]⟩ ⟨#[]⟩ (xL none 0 0) ⟨#[]⟩ (xL none 0 0)] W2 by rw[gS];exact sV HX.o);rw[<-gS];clear gS a0 a1 a2 a3 a8 a9 yZ;obtain⟨a0,a1,a2,a3,-,-,-,-,a8,a9,yZ,-,-,-,-,-,-,-,-⟩:=bB (HY.o.bG rfl);have f0:=ag (HY.o.bU rfl) 0;have b0:=(bB (HY.o.bU rfl)).c0;go_upto_region 30 with fail;obtain⟨W3,fw⟩:=bS (W2.setCell ⟨w.heap.size+1,0,none⟩ (xI 7));have HZ:=af (show Bx w [eG 7 id ⟨#[]⟩ ⟨#[]⟩ (xL none 0 0) ⟨#[]⟩ (xL none 0 0),eG 7 id ⟨#[]⟩ ⟨#[]⟩ (xL none 0 0) ⟨#[]⟩ (xL none 0 0)] W3 by rw[fw];exact wg HY.o);rw[<-fw];clear fw f0 b0;clear a0 a1 a2 a3 a8 a9 yZ;go_wp2_with(first|(refine cQ rfl (.tmp 1) rfl w.heap.size rfl (HZ.o.bG rfl) ?_)|(refine cQ rfl (.tmp 3) rfl (w.heap.size+1) rfl (HZ.o.bU rfl) ?_));refine bY (XX.o _ HZ.o.1) λw9 vR=> ?_;have HF:=af (HZ.o.below vR);clear vR;go_wp2;go_ret;exact⟨rfl,HF.o.1⟩
def zH(n:aM)(h:aB n=true)(w:aj):xC 15 #[A6 8 0 ⟨#[]⟩ n (xL none 0 0) ⟨#[]⟩ (xL none 0 0)] w (cr (xB true) w):=by
 have XX:=gG (w:=w) (λW _=>qg 8 0 ⟨#[]⟩ n (xL none 0 0) ⟨#[]⟩ (xL none 0 0) W (SU.nil W));have HN:Hd (∀W,_):=λW=>ux n h W;clear h;have vS:∀W,(Instr.build 53 #[(3,xS n)]).run prog W= .ok (.agg #[xI 0,xI 0,xS ⟨#[]⟩,xS n,xI 0,xI 0,xS ⟨#[]⟩,xL none 0 0,(xL none 0 0),xS ⟨#[]⟩,(xL none 0 0),xI 0,xS ⟨#[]⟩,xS ⟨#[]⟩,xS ⟨#[]⟩,xI 0,xI 0,xS ⟨#[]⟩,xS ⟨#[]⟩]) W:=λW=>run_build W _ _ _ (by kernel_rfl);have HX:=af (Bx.dq w (eG 8 0 ⟨#[]⟩ n (xL none 0 0) ⟨#[]⟩ (xL none 0 0)) (eG 0 0 ⟨#[]⟩ ⟨#[]⟩ (xL none 0 0) ⟨#[]⟩ (xL none 0 0)));go_enter func15,ntmps15;go_upto_region 2 with fail;obtain⟨W1,bT⟩:=bS ((w.alloc (eG 8 0 ⟨#[]⟩ n (xL none 0 0) ⟨#[]⟩ (xL none 0 0))).alloc (eG 0 0 ⟨#[]⟩ ⟨#[]⟩ (xL none 0 0) ⟨#[]⟩ (xL none 0 0)));rw[<-bT]at HX;unfold eG at bT;rw[<-bT];clear bT;obtain⟨a0,a1,a2,a3,-,-,-,-,a8,a9,yZ,-,-,-,-,-,-,-,-⟩:=bB (HX.o.bG rfl);have ry:Hd (W1.there (w.heap.size+1) 0 19):=mL (HX.o.bU rfl) (by simp);go_upto_region 17 with fail;iterate 10 go_step
 refine wpList_store_mid ?_ 53 (.tmp 3) (.tmp 68) ?_ (w.heap.size+1) 0 #[xI 0,xI 0,xS ⟨#[]⟩,xS n,xI 0,xI 0,xS ⟨#[]⟩,xL none 0 0,(xL none 0 0),xS ⟨#[]⟩,(xL none 0 0),xI 0,xS ⟨#[]⟩,xS ⟨#[]⟩,xS ⟨#[]⟩,xI 0,xI 0,xS ⟨#[]⟩,xS ⟨#[]⟩] ?_ ?_ ?_ ?_ ?_ ?_
 .exact rfl
 .exact rfl
 .exact rfl
 .exact rfl
 .exact ry.o
 .exact ir
 .simp[Value.oneCell']
 obtain⟨W2,gS⟩:=bS (W1.setCells (w.heap.size+1) 0 #[xI 0,xI 0,xS ⟨#[]⟩,xS n,xI 0,xI 0,xS ⟨#[]⟩,xL none 0 0,(xL none 0 0),xS ⟨#[]⟩,(xL none 0 0),xI 0,xS ⟨#[]⟩,xS ⟨#[]⟩,xS ⟨#[]⟩,xI 0,xI 0,xS ⟨#[]⟩,xS ⟨#[]⟩].toList);have HY:=af (show Bx w [eG 8 0 ⟨#[]⟩ n (xL none 0 0) ⟨#[]⟩ (xL none 0 0),eG 0 0 ⟨#[]⟩ n (xL none 0 0) ⟨#[]⟩ (xL none 0 0)] W2 by rw[gS];exact sV HX.o);rw[<-gS];clear gS a0 a1 a2 a3 a8 a9 yZ;obtain⟨a0,a1,a2,a3,-,-,-,-,a8,a9,yZ,-,-,-,-,-,-,-,-⟩:=bB (HY.o.bG rfl);go_wp2_with fail;refine cT (HN.o _) ?_;have f0:=ag (HY.o.bU rfl) 0;have b0:=(bB (HY.o.bU rfl)).c0;go_upto_region 30 with fail;obtain⟨W3,fw⟩:=bS (W2.setCell ⟨w.heap.size+1,0,none⟩ (xI 8));have HZ:=af (show Bx w [eG 8 0 ⟨#[]⟩ n (xL none 0 0) ⟨#[]⟩ (xL none 0 0),eG 8 0 ⟨#[]⟩ n (xL none 0 0) ⟨#[]⟩ (xL none 0 0)] W3 by rw[fw];exact wg HY.o);rw[<-fw];clear fw f0 b0;clear a0 a1 a2 a3 a8 a9 yZ;go_wp2_with(first|(refine cQ rfl (.tmp 1) rfl w.heap.size rfl (HZ.o.bG rfl) ?_)|(refine cQ rfl (.tmp 3) rfl (w.heap.size+1) rfl (HZ.o.bU rfl) ?_));refine bY (XX.o _ HZ.o.1) λw9 vR=> ?_;have HF:=af (HZ.o.below vR);clear vR;go_wp2;go_ret;exact⟨rfl,HF.o.1⟩
def Ch(id:Int)(n:aM)(h:aB n=true)(hi:(1<=id/\id<=100000)\/(-20<=id/\id<=-1))(w:aj):xC 15 #[A6 3 id ⟨#[]⟩ n (xL none 0 0) ⟨#[]⟩ (xL none 0 0)] w (cr (xB true) w):=by
 have XX:=gG (w:=w) (λW _=>qg 3 id ⟨#[]⟩ n (xL none 0 0) ⟨#[]⟩ (xL none 0 0) W (SU.nil W));have HN:Hd (∀W,_):=λW=>ux n h W;have HI:Hd (∀W,_):=λW=>SS id hi W;clear h hi;have vS:∀W,(Instr.build 53 #[(1,xI id),(3,xS n)]).run prog W= .ok (.agg #[xI 0,xI id,xS ⟨#[]⟩,xS n,xI 0,xI 0,xS ⟨#[]⟩,xL none 0 0,(xL none 0 0),xS ⟨#[]⟩,(xL none 0 0),xI 0,xS ⟨#[]⟩,xS ⟨#[]⟩,xS ⟨#[]⟩,xI 0,xI 0,xS ⟨#[]⟩,xS ⟨#[]⟩]) W:=λW=>run_build W _ _ _ (by kernel_rfl);have HX:=af (Bx.dq w (eG 3 id ⟨#[]⟩ n (xL none 0 0) ⟨#[]⟩ (xL none 0 0)) (eG 0 0 ⟨#[]⟩ ⟨#[]⟩ (xL none 0 0) ⟨#[]⟩ (xL none 0 0)));go_enter func15,ntmps15;go_upto_region 2 with fail;obtain⟨W1,bT⟩:=bS ((w.alloc (eG 3 id ⟨#[]⟩ n (xL none 0 0) ⟨#[]⟩ (xL none 0 0))).alloc (eG 0 0 ⟨#[]⟩ ⟨#[]⟩ (xL none 0 0) ⟨#[]⟩ (xL none 0 0)));rw[<-bT]at HX;unfold eG at bT;rw[<-bT];clear bT;obtain⟨a0,a1,a2,a3,-,-,-,-,a8,a9,yZ,-,-,-,-,-,-,-,-⟩:=bB (HX.o.bG rfl);have ry:Hd (W1.there (w.heap.size+1) 0 19):=mL (HX.o.bU rfl) (by simp);go_upto_region 11 with fail;iterate 16 go_step
 refine wpList_store_mid ?_ 53 (.tmp 3) (.tmp 52) ?_ (w.heap.size+1) 0 #[xI 0,xI id,xS ⟨#[]⟩,xS n,xI 0,xI 0,xS ⟨#[]⟩,xL none 0 0,(xL none 0 0),xS ⟨#[]⟩,(xL none 0 0),xI 0,xS ⟨#[]⟩,xS ⟨#[]⟩,xS ⟨#[]⟩,xI 0,xI 0,xS ⟨#[]⟩,xS ⟨#[]⟩] ?_ ?_ ?_ ?_ ?_ ?_
 .exact rfl
 .exact rfl
 .exact rfl
 .exact rfl
 .exact ry.o
 .exact ir
 .simp[Value.oneCell']
 obtain⟨W2,gS⟩:=bS (W1.setCells (w.heap.size+1) 0 #[xI 0,xI id,xS ⟨#[]⟩,xS n,xI 0,xI 0,xS ⟨#[]⟩,xL none 0 0,(xL none 0 0),xS ⟨#[]⟩,(xL none 0 0),xI 0,xS ⟨#[]⟩,xS ⟨#[]⟩,xS ⟨#[]⟩,xI 0,xI 0,xS ⟨#[]⟩,xS ⟨#[]⟩].toList);have HY:=af (show Bx w [eG 3 id ⟨#[]⟩ n (xL none 0 0) ⟨#[]⟩ (xL none 0 0),eG 0 id ⟨#[]⟩ n (xL none 0 0) ⟨#[]⟩ (xL none 0 0)] W2 by rw[gS];exact sV HX.o);rw[<-gS];clear gS a0 a1 a2 a3 a8 a9 yZ;obtain⟨a0,a1,a2,a3,-,-,-,-,a8,a9,yZ,-,-,-,-,-,-,-,-⟩:=bB (HY.o.bG rfl);go_wp2_with fail;refine cT (HI.o _) ?_;go_wp2_with fail;refine cT (HN.o _) ?_;have f0:=ag (HY.o.bU rfl) 0;have b0:=(bB (HY.o.bU rfl)).c0;go_upto_region 30 with fail;obtain⟨W3,fw⟩:=bS (W2.setCell ⟨w.heap.size+1,0,none⟩ (xI 3));have HZ:=af (show Bx w [eG 3 id ⟨#[]⟩ n (xL none 0 0) ⟨#[]⟩ (xL none 0 0),eG 3 id ⟨#[]⟩ n (xL none 0 0) ⟨#[]⟩ (xL none 0 0)] W3 by rw[fw];exact wg HY.o);rw[<-fw];clear fw f0 b0;clear a0 a1 a2 a3 a8 a9 yZ;go_wp2_with(first|(refine cQ rfl (.tmp 1) rfl w.heap.size rfl (HZ.o.bG rfl) ?_)|(refine cQ rfl (.tmp 3) rfl (w.heap.size+1) rfl (HZ.o.bU rfl) ?_));refine bY (XX.o _ HZ.o.1) λw9 vR=> ?_;have HF:=af (HZ.o.below vR);clear vR;go_wp2;go_ret;exact⟨rfl,HF.o.1⟩
def E5(c:aM)(h:aB c=true)(l:List aA)(hf:∀y∈l,yz y)(hr:∀y∈l,P4 y)(hl:l.length<=8)(M:aN)(v:an)(w:aj)(hT:Tb w)(hs:ab M w v l):xC 15 #[A6 1 0 c ⟨#[]⟩ v ⟨#[]⟩ (xL none 0 0)] w (cr (xB true) w):=by
 have hs':=hs;obtain⟨va,vc,rfl,_⟩:=hs'.open_;have XX:=gG (w:=w) (λW hb=>qg 1 0 c ⟨#[]⟩ (xL va l.length vc) ⟨#[]⟩ (xL none 0 0) W (SU.list (hs.below hb) hf (by omega)));have HN:Hd (∀W,_):=λW=>ux c h W;have HV:=gG (w:=w) (λW hb=>Cf l hr hl M W (hT.below hb) (xL va l.length vc) (hs.below hb));generalize l.length=ln at*;clear h hs hs' hf hr hT;have vS:∀W,(Instr.build 53 #[(2,xS c),(5,xL va ln vc)]).run prog W= .ok (.agg #[xI 0,xI 0,xS c,xS ⟨#[]⟩,xI 0,xI 0,xS ⟨#[]⟩,xL none 0 0,(xL va ln vc),xS ⟨#[]⟩,(xL none 0 0),xI 0,xS ⟨#[]⟩,xS ⟨#[]⟩,xS ⟨#[]⟩,xI 0,xI 0,xS ⟨#[]⟩,xS ⟨#[]⟩]) W:=λW=>run_build W _ _ _ (by kernel_rfl);have HX:=af (Bx.dq w (eG 1 0 c ⟨#[]⟩ (xL va ln vc) ⟨#[]⟩ (xL none 0 0)) (eG 0 0 ⟨#[]⟩ ⟨#[]⟩ (xL none 0 0) ⟨#[]⟩ (xL none 0 0)));go_enter func15,ntmps15;go_upto_region 2 with fail;obtain⟨W1,bT⟩:=bS ((w.alloc (eG 1 0 c ⟨#[]⟩ (xL va ln vc) ⟨#[]⟩ (xL none 0 0))).alloc (eG 0 0 ⟨#[]⟩ ⟨#[]⟩ (xL none 0 0) ⟨#[]⟩ (xL none 0 0)));rw[<-bT]at HX;unfold eG at bT;rw[<-bT];clear bT;obtain⟨a0,a1,a2,a3,-,-,-,-,a8,a9,yZ,-,-,-,-,-,-,-,-⟩:=bB (HX.o.bG rfl);have ry:Hd (W1.there (w.heap.size+1) 0 19):=mL (HX.o.bU rfl) (by simp);go_upto_region 5 with fail;iterate 16 go_step
 refine wpList_store_mid ?_ 53 (.tmp 3) (.tmp 15) ?_ (w.heap.size+1) 0 #[xI 0,xI 0,xS c,xS ⟨#[]⟩,xI 0,xI 0,xS ⟨#[]⟩,xL none 0 0,(xL va ln vc),xS ⟨#[]⟩,(xL none 0 0),xI 0,xS ⟨#[]⟩,xS ⟨#[]⟩,xS ⟨#[]⟩,xI 0,xI 0,xS ⟨#[]⟩,xS ⟨#[]⟩] ?_ ?_ ?_ ?_ ?_ ?_
 .exact rfl
 .exact rfl
 .exact rfl
 .exact rfl
 .exact ry.o
 .exact ir
 .simp[Value.oneCell']
 obtain⟨W2,gS⟩:=bS (W1.setCells (w.heap.size+1) 0 #[xI 0,xI 0,xS c,xS ⟨#[]⟩,xI 0,xI 0,xS ⟨#[]⟩,xL none 0 0,(xL va ln vc),xS ⟨#[]⟩,(xL none 0 0),xI 0,xS ⟨#[]⟩,xS ⟨#[]⟩,xS ⟨#[]⟩,xI 0,xI 0,xS ⟨#[]⟩,xS ⟨#[]⟩].toList);have HY:=af (show Bx w [eG 1 0 c ⟨#[]⟩ (xL va ln vc) ⟨#[]⟩ (xL none 0 0),eG 0 0 c ⟨#[]⟩ (xL va ln vc) ⟨#[]⟩ (xL none 0 0)] W2 by rw[gS];exact sV HX.o);rw[<-gS];clear gS a0 a1 a2 a3 a8 a9 yZ;obtain⟨a0,a1,a2,a3,-,-,-,-,a8,a9,yZ,-,-,-,-,-,-,-,-⟩:=bB (HY.o.bG rfl);go_wp2_with fail;refine cT (HN.o _) ?_;go_wp2_with fail;refine bY (HV.o _ HY.o.1) λw3 bP=> ?_;have HY:=af (HY.o.below bP);clear bP a0 a1 a2 a3 a8 a9 yZ;obtain⟨a0,a1,a2,a3,-,-,-,-,a8,a9,yZ,-,-,-,-,-,-,-,-⟩:=bB (HY.o.bG rfl);have f0:=ag (HY.o.bU rfl) 0;have b0:=(bB (HY.o.bU rfl)).c0;go_upto_region 30 with fail;obtain⟨W3,fw⟩:=bS (w3.setCell ⟨w.heap.size+1,0,none⟩ (xI 1));have HZ:=af (show Bx w [eG 1 0 c ⟨#[]⟩ (xL va ln vc) ⟨#[]⟩ (xL none 0 0),eG 1 0 c ⟨#[]⟩ (xL va ln vc) ⟨#[]⟩ (xL none 0 0)] W3 by rw[fw];exact wg HY.o);rw[<-fw];clear fw f0 b0;clear a0 a1 a2 a3 a8 a9 yZ;go_wp2_with(first|(refine cQ rfl (.tmp 1) rfl w.heap.size rfl (HZ.o.bG rfl) ?_)|(refine cQ rfl (.tmp 3) rfl (w.heap.size+1) rfl (HZ.o.bU rfl) ?_));refine bY (XX.o _ HZ.o.1) λw9 vR=> ?_;have HF:=af (HZ.o.below vR);clear vR;go_wp2;go_ret;exact⟨rfl,HF.o.1⟩
def Ci(w:aj):xC 15 #[A6 0 0 ⟨#[]⟩ ⟨#[]⟩ (xL none 0 0) ⟨#[]⟩ (xL none 0 0)] w (cr (xB false) w):=by
 have HX:=af (Bx.dq w (eG 0 0 ⟨#[]⟩ ⟨#[]⟩ (xL none 0 0) ⟨#[]⟩ (xL none 0 0)) (eG 0 0 ⟨#[]⟩ ⟨#[]⟩ (xL none 0 0) ⟨#[]⟩ (xL none 0 0)));go_enter func15,ntmps15;go_upto_region 2 with fail;obtain⟨W1,bT⟩:=bS ((w.alloc (eG 0 0 ⟨#[]⟩ ⟨#[]⟩ (xL none 0 0) ⟨#[]⟩ (xL none 0 0))).alloc (eG 0 0 ⟨#[]⟩ ⟨#[]⟩ (xL none 0 0) ⟨#[]⟩ (xL none 0 0)));rw[<-bT]at HX;unfold eG at bT;rw[<-bT];clear bT;have a0:=(bB (HX.o.bG rfl)).c0;have b0:=(bB (HX.o.bU rfl)).c0;have f0:=ag (HX.o.bU rfl) 0;go_wp2;go_ret;exact⟨rfl,HX.o.1.setCell (p:=⟨w.heap.size+1,0,none⟩) (by simp) _⟩
end
section
open Go.RowKit Go.Shelf
def MX(n:Int)(w:aj):xC 309 #[xI n,xI n] w (ji (xI 0) w):=by
 go_enter func309,ntmps309;go_wp2;go_ret;exact⟨rfl,rfl⟩
def MY(k n:Int)(s:aM)(a b:fA)(c d:Nat)(w:aj):xC 269 #[.agg #[xI k,xI n,xS s,xL a 0 c], .agg #[xI k,xI n,xS s,xL b 0 d]] w (cr (xI 0) w):=by
 have HX:=af (Bx.dq w (xK #[xI k,xI n,xS s,xL a 0 c] 44) (xK #[xI k,xI n,xS s,xL b 0 d] 44));have hir:=qT s;have HO:=af MX;go_enter func269,ntmps269;go_upto_region 1 with fail;obtain⟨W1,bT⟩:=bS ((w.alloc (xK #[xI k,xI n,xS s,xL a 0 c] 44)).alloc (xK #[xI k,xI n,xS s,xL b 0 d] 44));rw[<-bT]at HX;rw[<-bT];clear bT;obtain⟨c0,c1,c2,c3⟩:=ae (HX.o.bG rfl);obtain⟨d0,d1,d2,d3⟩:=ae (HX.o.bU rfl);go_wp2_with fail;refine cT (HO.o _ _) ?_;go_wp2_with fail;refine cT (HO.o _ _) ?_;go_wp2;go_loopg [5,6]0(λgg v5 v6 wr=>gg=0/\v5=xI 0/\v6=xI 0/\wr=W1);case atStart=>exact⟨rfl,rfl,rfl,rfl⟩
 case round=>
  obtain⟨rfl,rfl,rfl,rfl⟩:=hrel;go_wp2_with fail;refine cT (HO.o _ _) ?_;go_wp2;go_ret;exact⟨rfl,HX.o.1⟩
def Qo(k n:Int)(s:aM)(a b:fA)(c d:Nat)(w:aj):xC 235 #[.agg #[xI k,xI n,xS s,xL a 0 c], .agg #[xI k,xI n,xS s,xL b 0 d]] w (cr (xB true) w):=by
 have HX:=af (Bx.dq w (xK #[xI k,xI n,xS s,xL a 0 c] 44) (xK #[xI k,xI n,xS s,xL b 0 d] 44));obtain⟨c0,c1,c2,c3⟩:=ae (HX.o.bG rfl);obtain⟨d0,d1,d2,d3⟩:=ae (HX.o.bU rfl);go_enter func235,ntmps235;go_wp2_with fail;refine bY (MY _ _ _ _ _ _ _ _) λw' hb=> ?_;have HB:=af (HX.o.below hb);go_wp2;go_ret;exact⟨rfl,HB.o.1⟩
def Qp(l:List aA)(hf:∀y∈l,yz y)(hl:l.length<=20)(M:aN)(w:aj)(v u:an)(hs:ab M w v l)(hu:ab M w u l):
 xC 163 #[v,u] w (cr (xB true) w):=by
 have HV:Hd (∀(i:Nat)k n s ll,l[i]? =some (.mk k n s ll)->_):=λi k n s ll hx=>dy hs hx;have HU:Hd (∀(i:Nat)k n s ll,l[i]? =some (.mk k n s ll)->_):=λi k n s ll hx=>dy hu hx;have HF:=af hf;obtain⟨a,bQ,rfl,cV,lL,_⟩:=hs.open_;obtain⟨ua,qf6,rfl,-⟩:=hu.open_;generalize hn:l.length=n at*;have HN:=af hn;go_enter func163,ntmps163;go_wp2;go_loopg [4,5]n(λg r4 iv wr=>∃i:Nat,i<=n/\g=n-i/\iv=xI i/\r4=xB false/\Hd (aq w wr));case atStart=>exact⟨0,Qbf _,rfl,rfl,rfl,af dQ⟩
 case round=>
  obtain⟨i,hi,rfl,rfl,rfl,HB⟩:=hrel;rename World=>wr;by_cases bu:i<n
  .obtain⟨y,hy⟩:=eB l i (by rw[HN.o];exact bu);obtain⟨vk,vn,vs,rfl⟩:=HF.o y (Qaf hy);obtain⟨b,off,cap,za,zc,hv,cR,bI,_,ay⟩:=HV.o i vk vn vs [] hy;obtain⟨rfl,rfl⟩:=iB hv;obtain⟨b2,zY,rz,za2,zc2,zW,qa8,qh7,_,qu⟩:=HU.o i vk vn vs [] hy;obtain⟨rfl,rfl⟩:=iB zW;have mP:=af ay;have HCU:=af qu;have i0:(0:Int)<=(i:Int):=Qba _;have i1:(i:Int)<(n:Int):=by omega
   have HK:Hd (∀V,aq wr V->(bt V b (off+i*4) (xI vk)/\bt V b (off+i*4+1) (xI vn)/\bt V b (off+i*4+2) (xS vs)/\bt V b (off+i*4+3) (xL za 0 zc))/\(bt V b2 (zY+i*4) (xI vk)/\bt V b2 (zY+i*4+1) (xI vn)/\bt V b2 (zY+i*4+2) (xS vs)/\bt V b2 (zY+i*4+3) (xL za2 0 zc2))):=λV hb=>by
    have h1:=(mP.o V (HB.o.trans (hb.mono HB.o.size))).1;have h2:=(HCU.o V (HB.o.trans (hb.mono HB.o.size))).1;rw[Qcd]at h1 h2;exact⟨h1,h2⟩
   go_upto_region 6 with fail;go_cut [26](λs25 wx=>s25=xB false/\Hd (aq w wx));case first=>
    refine ib (by kernel_rfl) (by kernel_rfl) λι _ F lg C4=> ?_;have s0:=λi=>(HK.o (F i) (lg i)).1.1;have s1:=λi=>(HK.o (F i) (lg i)).1.2.1;have s2:=λi=>(HK.o (F i) (lg i)).1.2.2.1;have s3:=λi=>(HK.o (F i) (lg i)).1.2.2.2;have t0:=λi=>(HK.o (F i) (lg i)).2.1;have t1:=λi=>(HK.o (F i) (lg i)).2.2.1;have t2:=λi=>(HK.o (F i) (lg i)).2.2.2.1;have t3:=λi=>(HK.o (F i) (lg i)).2.2.2.2;have jy:=af lg;have zP:=af C4;repeat(go_big_quiet_step((go_at_call 235;refine bY (Qo _ _ _ _ _ _ _ _) λw3 bP=> ?_;exact⟨rfl,zP.o _ ((jy.o _).trans (bP.mono (jy.o _).size))⟩)))
    refine wpQuiet_nil ?_;rintro _⟨nq,rfl⟩;go_wp2;go_meet;exact⟨rfl,af (HB.o.trans ((jy.o _).mono HB.o.size))⟩
   case rest=>
    obtain⟨rfl,bO⟩:=hcut;go_wp2;go_roundg(n-(i+1));case measure=>omega
    case rel=>exact⟨i+1,by omega,rfl,by go_num,rfl,bO⟩
  .obtain rfl:i=n:=by omega
   go_wp2;go_ret;exact⟨rfl,HB.o⟩
def MZ(o:bE)(hf:∀y∈o.aR,yz y)(hl:o.aR.length<=20)(M:aN)(w:aj)(v u:an)(hs:ab M w v o.aR)(hu:ab M w u o.aR):
 xC 97 #[.agg #[xI o.id,xI o.cls,xI o.ver,v], .agg #[xI o.id,xI o.cls,xI o.ver,u]] w (cr (xB true) w):=by
 have HV:=gG (w:=w) (λW hb=>Qp o.aR hf hl M W v u (hs.below hb) (hu.below hb));obtain⟨va,vc,rfl,-⟩:=hs.open_;obtain⟨ua,uc,rfl,-⟩:=hu.open_;generalize o.aR.length=n at*;have HX:=af (Bx.dq w (xK #[xI o.id,xI o.cls,xI o.ver,xL va n vc] 66) (xK #[xI o.id,xI o.cls,xI o.ver,xL ua n uc] 66));obtain⟨c0,c1,c2,c3⟩:=ae (HX.o.bG rfl);obtain⟨d0,d1,d2,d3⟩:=ae (HX.o.bU rfl);go_enter func97,ntmps97;go_wp2_with fail;refine bY (HV.o _ HX.o.1) λw' hb=> ?_;have HB:=af (HX.o.below hb);go_wp2;go_ret;exact⟨rfl,HB.o.1⟩
def M0(s:aM)(a b:fA)(c d:Nat)(w:aj):xC 98 #[.agg #[xS s,xL a 0 c], .agg #[xS s,xL b 0 d]] w (cr (xB true) w):=by
 have HX:=af (Bx.dq w (xK #[xS s,xL a 0 c] 47) (xK #[xS s,xL b 0 d] 47));go_enter func98,ntmps98;go_upto_region 1 with fail;obtain⟨W1,bT⟩:=bS ((w.alloc (xK #[xS s,xL a 0 c] 47)).alloc (xK #[xS s,xL b 0 d] 47));rw[<-bT]at HX;rw[<-bT];clear bT;obtain⟨c0,c1⟩:=ah (HX.o.bG rfl);obtain⟨d0,d1⟩:=ah (HX.o.bU rfl);go_wp2;go_loopg [4,5]0(λgg v4 v5 wr=>gg=0/\v4=xB false/\v5=xI 0/\wr=W1);case atStart=>exact⟨rfl,rfl,rfl,rfl⟩
 case round=>
  obtain⟨rfl,rfl,rfl,rfl⟩:=hrel;go_wp2;go_ret;exact⟨rfl,HX.o.1⟩
def M3(w:aj):xC 99 #[.agg #[xI 0,xS ⟨#[]⟩,xS ⟨#[]⟩,xS ⟨#[]⟩,xI 0,xI 0,xS ⟨#[]⟩,xS ⟨#[]⟩], .agg #[xI 0,xS ⟨#[]⟩,xS ⟨#[]⟩,xS ⟨#[]⟩,xI 0,xI 0,xS ⟨#[]⟩,xS ⟨#[]⟩]] w (cr (xB true) w):=by
 have heq:∀w,(Op.equal 51 MG MG).run prog w= .ok true w:=λw=>by kernel_rfl
 unfold MG at heq;have HX:=af (Bx.dq w (xK #[xI 0,xS ⟨#[]⟩,xS ⟨#[]⟩,xS ⟨#[]⟩,xI 0,xI 0,xS ⟨#[]⟩,xS ⟨#[]⟩] 51) (xK #[xI 0,xS ⟨#[]⟩,xS ⟨#[]⟩,xS ⟨#[]⟩,xI 0,xI 0,xS ⟨#[]⟩,xS ⟨#[]⟩] 51));obtain⟨c0,c1,c2,c3,c4,c5,c6,c7⟩:=ak (HX.o.bG rfl);obtain⟨d0,d1,d2,d3,d4,d5,d6,d7⟩:=ak (HX.o.bU rfl);go_enter func99,ntmps99;go_wp2;go_ret;exact⟨rfl,HX.o.1⟩
abbrev ZU(k:Int)(o:bE)(id:Int)(nm:aM)(vv fv:an):an:= .agg #[xI k,xI o.id,xI o.cls,xI o.ver,vv,xI id,xI 0,xS nm,xS ⟨#[]⟩,fv,xI 0,xS ⟨#[]⟩,xS ⟨#[]⟩,xS ⟨#[]⟩,xI 0,xI 0,xS ⟨#[]⟩,xS ⟨#[]⟩]
def V9(k:Int)(o:bE)(id:Int)(nm:aM)(vv fv:an):Obj:=xK #[xI k,xI o.id,xI o.cls,xI o.ver,vv,xI id,xI 0,xS nm,xS ⟨#[]⟩,fv,xI 0,xS ⟨#[]⟩,xS ⟨#[]⟩,xS ⟨#[]⟩,xI 0,xI 0,xS ⟨#[]⟩,xS ⟨#[]⟩] 75
structure RzC(W:aj)(g:Nat)(k:Int)(o:bE)(id:Int)(nm:aM)(vv fv:an):Prop where
 c0:W.cell? ⟨g,0,none⟩=some (xI k)
 c1:W.cell? ⟨g,1,none⟩=some (xI o.id)
 c2:W.cell? ⟨g,2,none⟩=some (xI o.cls)
 c3:W.cell? ⟨g,3,none⟩=some (xI o.ver)
 c4:W.cell? ⟨g,4,none⟩=some vv
 c5:W.cell? ⟨g,5,none⟩=some (xI id)
 c6:W.cell? ⟨g,6,none⟩=some (xI 0)
 c7:W.cell? ⟨g,7,none⟩=some (xS nm)
 c8:W.cell? ⟨g,8,none⟩=some (xS ⟨#[]⟩)
 c9:W.cell? ⟨g,9,none⟩=some fv
 c10:W.cell? ⟨g,10,none⟩=some (xI 0)
 c11:W.cell? ⟨g,11,none⟩=some (xS ⟨#[]⟩)
 c12:W.cell? ⟨g,12,none⟩=some (xS ⟨#[]⟩)
 c13:W.cell? ⟨g,13,none⟩=some (xS ⟨#[]⟩)
 c14:W.cell? ⟨g,14,none⟩=some (xI 0)
 c15:W.cell? ⟨g,15,none⟩=some (xI 0)
 c16:W.cell? ⟨g,16,none⟩=some (xS ⟨#[]⟩)
 c17:W.cell? ⟨g,17,none⟩=some (xS ⟨#[]⟩)
def jY {k:Int}{o:bE}{vv:an}(h:bR W g (V9 k o id nm vv fv)):RzC W g k o id nm vv fv:=by
 unfold V9 at h;constructor<;>simp[World.cell?,h]
def M4(k:Int)(o:bE)(id:Int)(nm:aM)(hf:∀y∈o.aR,yz y)(hl:o.aR.length<=20)(M:aN)(w:aj)(v u:an)(a b:fA)(c d:Nat)(hs:ab M w v o.aR)(hu:ab M w u o.aR):
 xC 40 #[ZU k o id nm v (xL a 0 c),ZU k o id nm u (xL b 0 d)] w (cr (xB true) w):=by
 have HV:=gG (w:=w) (λW hb=>MZ o hf hl M W v u (hs.below hb) (hu.below hb));have HC:=af (M0 ⟨#[]⟩ a b c d);have HD:=af M3;obtain⟨va,vc,rfl,-⟩:=hs.open_;obtain⟨ua,uc,rfl,-⟩:=hu.open_;clear hs hu hf hl;generalize o.aR.length=n at*;have HX:=af (Bx.dq w (V9 k o id nm (xL va n vc) (xL a 0 c)) (V9 k o id nm (xL ua n uc) (xL b 0 d)));go_enter func40,ntmps40;go_upto_region 1 with fail;obtain⟨W1,bT⟩:=bS ((w.alloc (V9 k o id nm (xL va n vc) (xL a 0 c))).alloc (V9 k o id nm (xL ua n uc) (xL b 0 d)));rw[<-bT]at HX;unfold V9 at bT;rw[<-bT];clear bT;obtain⟨a0,a1,a2,a3,a4,a5,a6,a7,-,-,-,-,-,-,-,-,-,-⟩:=jY (HX.o.bG rfl);obtain⟨b0,b1,b2,b3,b4,b5,b6,b7,-,-,-,-,-,-,-,-,-,-⟩:=jY (HX.o.bU rfl);go_wp2_with fail;refine bY (HV.o _ HX.o.1) λw1 aF=> ?_;have fU:=af (HX.o.below aF);clear aF a0 a1 a2 a3 a4 a5 a6 a7 b0 b1 b2 b3 b4 b5 b6 b7;have a8:=(jY (fU.o.bG rfl)).c8;have b8:=(jY (fU.o.bU rfl)).c8;have a9:=(jY (fU.o.bG rfl)).c9;have b9:=(jY (fU.o.bU rfl)).c9;go_wp2_with fail;refine bY (HC.o _) λw2 bC=> ?_;have lq:=af (fU.o.below bC);clear bC a8 b8 a9 b9;obtain⟨-,-,-,-,-,-,-,-,-,-,yZ,a11,a12,a13,a14,a15,a16,a17⟩:=jY (lq.o.bG rfl);obtain⟨-,-,-,-,-,-,-,-,-,-,b10,b11,b12,b13,b14,b15,b16,b17⟩:=jY (lq.o.bU rfl);go_wp2_with fail;refine bY (HD.o _) λw3 bP=> ?_;have pL:=af (lq.o.below bP);clear bP;go_wp2;go_ret;exact⟨rfl,pL.o.1⟩
end
end Go.Proofs.YtepaofffbkfodaaGreatDoor
