/- A part of the proof; no condition. -/
import Derived.Test.YtpjdjlnknfmfkaaGreatDoorM07
import Derived.Test.YtpjdjlnknfmfkaaGreatDoorM08
set_option linter.all false
set_option maxHeartbeats 8000000
set_option maxRecDepth 100000
namespace Go.Proofs.YtpjdjlnknfmfkaaGreatDoor
open Go.Proofs.Tryz
variable{cur:Array bt}{W w W':bq}{t:TypeId}{K g:Nat}{id:Int}{o0 o1 o2:Obj}{fv:bt}{nm:bS}
section
open Go.RowKit
def zS {vs:List bt}(h:cX W K (.cells cur t (0,0)))(hl:cur.size=vs.length):(W.setCells K 0 vs).heap[K]? =some (.cells vs.toArray t (0,0)):=by
 have⟨cur',g1,g2,g3⟩:=mY K t vs 0 W cur h (by omega);have:cur'=vs.toArray:=by
  apply Array.toList_inj.1;simp only[Nat.zero_add,List.take_zero,List.nil_append]at g3;rw[ak (by rw[Array.length_toList,g2,hl];exact cN)]at g3;exact g3
 rw[g1,this]
theorem qj(K:Nat):∀(vs:List bt)(o:Nat){w W:bq},bh (λi=>i=K) w W->bh (λi=>i=K) w (W.setCells K o vs)
 |[],_,_,_,h=>h
 |v::r,o,_,_,h=>qj K r (o+1) (h.setCell (p:=(K,o)) (.inl rfl) v)
def MG {n:Nat}(h:cX W K (.cells cur t (0,0)))(hn:n<=cur.size):W.there K 0 n:=λj hj=>by
 rw[Nat.zero_add];exact⟨by simp[World.cell?,h];omega,aY h j⟩
def Cz:(Tryz.prog.info? 59).map (·.size)=some 19:=by kernel_rfl
def P2 {k:Int}{c n:bS}{vv:bt}{dn:bS}{df:bt}(h:cX W g (ir k id c n vv dn df)):W.rangeAt g 0 [xI k,xI id,xS c,xS n,xI 0,xI 0,"",(),vv,xS dn,df,xI 0,"","","",xI 0,xI 0,"",""]:=λj v hv=>by
 rw[Nat.zero_add];unfold ir at h;simp only[World.cell?,h];simpa using hv
def IY {op:Oper}{a:Act}{K:Act->bq->Prop}{Q:Exit->Act->bq->Prop}(x:Operand)(ho:op.op= .load 59 x)(b:Nat)(hx:a.eval x=xP b){k:Int}{c n:bS}{vv:bt}{dn:bS}{df:bt}(h:cX w b (ir k id c n vv dn df))
 (hk:K (a.put op.dst (zR k id c n vv dn df)) w):op.wp prog a w K Q:=
 wp_load_mid 59 x ho b 0 hx _ _ (P2 h) underlying59 rfl Cz hk
def ew {ops:Array Oper}{rest:List Oper}{op:Oper}{a:Act}{Q:Exit->Act->bq->Prop}(hw:Region.wanted op (yielded ops a.tmps)=true)(x:Operand)(ho:op.op= .load 59 x)(b:Nat)(hx:a.eval x=xP b){k:Int}{c n:bS}{vv:bt}{dn:bS}{df:bt}(h:cX w b (ir k id c n vv dn df))
 (hk:wpList prog ops Q rest (a.put op.dst (zR k id c n vv dn df)) w):wpList prog ops Q (op::rest) a w:=
 wpList_step λK hK=>by rw[if_pos hw];exact IY x ho b hx h (hK _ _ hk)
def ia {ops:Array Oper}{rest:List Oper}{op:Oper}{a:Act}{Q:Exit->Act->bq->Prop}(hg:op.guard=none)(x y:Operand)(ho:op.op= .store 59 x y)(b:Nat)(hx:a.eval x=xP b){k k' id':Int}{c n c' n':bS}{vv vv':bt}{dn dn':bS}{df df':bt}(hy:a.eval y=zR k id c n vv dn df)(h1:vv.oneCell'=true)(h2:df.oneCell'=true)(h0:cX w b (ir k' id' c' n' vv' dn' df'))
 (h:∀W,cX W b (ir k id c n vv dn df)->bh (λi=>i=b) w W->wpList prog ops Q rest (a.put op.dst undef) W):wpList prog ops Q (op::rest) a w:=
 wpList_store_mid hg 59 x y ho b 0 _ hx hy (MG h0 cN) Cz (by simp[Value.oneCell']at h1 h2⊢;exact⟨h1,h2⟩) (h _ (zS h0 rfl) (qj b _ 0 (bh.refl _ _)))
def tB(h:Bx w [o0,o1] W)(h1:W'.heap[w.heap.size+1]? =some o2)(ho:bh (λi=>i=[w]) W W'):Bx w [o0,o2] W':=by
 have h2:=h.cM;have h3:=ho.size;simp at h2;refine⟨cr h.1 h.1.size ho (λi hi=>by omega),by simp;omega,λi o hi=> ?_⟩;match i,hi with
 |0,hi=>
  simp at hi;subst hi;exact(ho.block _ (by omega) (by omega)).trans (h.cP rfl)
 |1,hi=>
  simp at hi;subst hi;exact h1
 |i+2,hi=>simp at hi
def wE {k k':Int}{c n:bS}{vv:bt}{dn:bS}{df:bt}(h:Bx w [o0,ir k id c n vv dn df] W):
 Bx w [o0,ir k' id c n vv dn df] (W.setCell ([w],0) k'):=by
 have:=h.set 1 0 (v:=xI k') rfl;simpa [ir]using this
def tC(id:Int)(h:1<=id/\id<=100000)(w:bq):xC 15 #[zR 7 id () () () () ()] w (di true w):=by
 have XQ:=ie (w:=w) (λW _=>qI 7 id () () () () () W (S5.nil W));obtain⟨h1,h2⟩:=h;have qM:∀W,(Instr.build 59 #[(1,xI id)]).run prog W= .ok (.agg #[xI 0,id,"","",xI 0,xI 0,"",(),(),"",(),xI 0,"","","",xI 0,xI 0,"",""]) W:=λW=>run_build W _ _ _ (by kernel_rfl);have HX:=aV (Bx.ei w (ir 7 id () () () () ()) (ir 0 0 () () () () ()));delta xC;go_in;go_upto_region 2 with fail;have⟨W1,hW1⟩:=dd ((w.alloc (ir 7 id () () () () ())).alloc (ir 0 0 () () () () ()));rw[<-hW1]at HX;unfold ir at hW1;rw[<-hW1];clear hW1;obtain⟨a0,a1,a2,a3,-,-,-,-,a8,a9,Aj,-,-,-,-,-,-,-,-⟩:=cQ (HX.o.cP rfl);go_upto_region 27 with fail;iterate 10 go_step
 refine ia rfl (.tmp 3) (.tmp 104) rfl _ rfl rfl rfl rfl (HX.o.cZ rfl) λW2 h2 o2=> ?_;have HY:=aV (tB HX.o h2 o2);clear h2 o2 a0 a1 a2 a3 a8 a9 Aj;obtain⟨a0,a1,a2,a3,-,-,-,-,a8,a9,Aj,-,-,-,-,-,-,-,-⟩:=cQ (HY.o.cP rfl);have f0:=aY (HY.o.cZ rfl) 0;have b0:=(cQ (HY.o.cZ rfl)).c0;go_upto_region 30 with fail;have⟨W3,hW3⟩:=dd (W2.setCell ([w],0) (xI 7));have HZ:=aV (show Bx w [ir 7 id () () () () (),ir 7 id () () () () ()] W3 by rw[hW3];exact wE HY.o);rw[<-hW3];clear hW3 f0 b0;clear a0 a1 a2 a3 a8 a9 Aj;go_wp2_with(first|(refine ew rfl (.tmp 1) rfl w rfl (HZ.o.cP rfl) ?_)|(refine ew rfl (.tmp 3) rfl [w] rfl (HZ.o.cZ rfl) ?_));refine dx (XQ.o _ HZ.o.1) λw9 vN=> ?_;have HF:=aV (HZ.o.aT vN);clear vN;go_wp2;go_ret;exact⟨rfl,HF.o.1⟩
def CA(id:Int)(n:bS)(h:bF n=true)(hi:(1<=id/\id<=100000)\/(-20<=id/\id<=-1))(w:bq):xC 15 #[zR 3 id () n () () ()] w (di true w):=by
 have XQ:=ie (w:=w) (λW _=>qI 3 id () n () () () W (S5.nil W));have HN:Hd (∀W,_):=λW=>uH n h W;have HI:Hd (∀W,_):=λW=>S4 id hi W;clear h hi;have qM:∀W,(Instr.build 59 #[(1,xI id),(3,xS n)]).run prog W= .ok (.agg #[xI 0,id,"",n,xI 0,xI 0,"",(),(),"",(),xI 0,"","","",xI 0,xI 0,"",""]) W:=λW=>run_build W _ _ _ (by kernel_rfl);have HX:=aV (Bx.ei w (ir 3 id () n () () ()) (ir 0 0 () () () () ()));delta xC;go_in;go_upto_region 2 with fail;have⟨W1,hW1⟩:=dd ((w.alloc (ir 3 id () n () () ())).alloc (ir 0 0 () () () () ()));rw[<-hW1]at HX;unfold ir at hW1;rw[<-hW1];clear hW1;obtain⟨a0,a1,a2,a3,-,-,-,-,a8,a9,Aj,-,-,-,-,-,-,-,-⟩:=cQ (HX.o.cP rfl);go_upto_region 11 with fail;iterate 16 go_step
 refine ia rfl (.tmp 3) (.tmp 52) rfl _ rfl rfl rfl rfl (HX.o.cZ rfl) λW2 h2 o2=> ?_;have HY:=aV (tB HX.o h2 o2);clear h2 o2 a0 a1 a2 a3 a8 a9 Aj;obtain⟨a0,a1,a2,a3,-,-,-,-,a8,a9,Aj,-,-,-,-,-,-,-,-⟩:=cQ (HY.o.cP rfl);go_wp2_with fail;refine ey (HI.o _) ?_;go_wp2_with fail;refine ey (HN.o _) ?_;have f0:=aY (HY.o.cZ rfl) 0;have b0:=(cQ (HY.o.cZ rfl)).c0;go_upto_region 30 with fail;have⟨W3,hW3⟩:=dd (W2.setCell ([w],0) (xI 3));have HZ:=aV (show Bx w [ir 3 id () n () () (),ir 3 id () n () () ()] W3 by rw[hW3];exact wE HY.o);rw[<-hW3];clear hW3 f0 b0;clear a0 a1 a2 a3 a8 a9 Aj;go_wp2_with(first|(refine ew rfl (.tmp 1) rfl w rfl (HZ.o.cP rfl) ?_)|(refine ew rfl (.tmp 3) rfl [w] rfl (HZ.o.cZ rfl) ?_));refine dx (XQ.o _ HZ.o.1) λw9 vN=> ?_;have HF:=aV (HZ.o.aT vN);clear vN;go_wp2;go_ret;exact⟨rfl,HF.o.1⟩
def Fj(c:bS)(h:bF c=true)(l:List bE)(hf:∀y∈l,yQ y)(hr:∀y∈l,PZ y)(hl:l.length<=8)(M:bY)(v:bt)(w:bq)(hT:Tb w)(hs:aS M w v l):xC 15 #[zR 1 0 c () v () ()] w (di true w):=by
 have hs':=hs;obtain⟨va,vc,rfl,_⟩:=hs'.bj;have XQ:=ie (w:=w) (λW hb=>qI 1 0 c () (xL va l.length vc) () () W (S5.list (hs.aT hb) hf (by omega)));have HN:Hd (∀W,_):=λW=>uH c h W;have HV:=ie (w:=w) (λW hb=>Cx l hr hl M W (hT.aT hb) (xL va l.length vc) (hs.aT hb));generalize l.length=ln at*;clear h hs hs' hf hr hT;have qM:∀W,(Instr.build 59 #[(2,xS c),(5,xL va ln vc)]).run prog W= .ok (.agg #[xI 0,xI 0,c,"",xI 0,xI 0,"",(),(xL va ln vc),"",(),xI 0,"","","",xI 0,xI 0,"",""]) W:=λW=>run_build W _ _ _ (by kernel_rfl);have HX:=aV (Bx.ei w (ir 1 0 c () (xL va ln vc) () ()) (ir 0 0 () () () () ()));delta xC;go_in;go_upto_region 2 with fail;have⟨W1,hW1⟩:=dd ((w.alloc (ir 1 0 c () (xL va ln vc) () ())).alloc (ir 0 0 () () () () ()));rw[<-hW1]at HX;unfold ir at hW1;rw[<-hW1];clear hW1;obtain⟨a0,a1,a2,a3,-,-,-,-,a8,a9,Aj,-,-,-,-,-,-,-,-⟩:=cQ (HX.o.cP rfl);go_upto_region 5 with fail;iterate 16 go_step
 refine ia rfl (.tmp 3) (.tmp 15) rfl _ rfl rfl rfl rfl (HX.o.cZ rfl) λW2 h2 o2=> ?_;have HY:=aV (tB HX.o h2 o2);clear h2 o2 a0 a1 a2 a3 a8 a9 Aj;obtain⟨a0,a1,a2,a3,-,-,-,-,a8,a9,Aj,-,-,-,-,-,-,-,-⟩:=cQ (HY.o.cP rfl);go_wp2_with fail;refine ey (HN.o _) ?_;go_wp2_with fail;refine dx (HV.o _ HY.o.1) λw3 hb3=> ?_;have HY:=aV (HY.o.aT hb3);clear hb3 a0 a1 a2 a3 a8 a9 Aj;obtain⟨a0,a1,a2,a3,-,-,-,-,a8,a9,Aj,-,-,-,-,-,-,-,-⟩:=cQ (HY.o.cP rfl);have f0:=aY (HY.o.cZ rfl) 0;have b0:=(cQ (HY.o.cZ rfl)).c0;go_upto_region 30 with fail;have⟨W3,hW3⟩:=dd (w3.setCell ([w],0) (xI 1));have HZ:=aV (show Bx w [ir 1 0 c () (xL va ln vc) () (),ir 1 0 c () (xL va ln vc) () ()] W3 by rw[hW3];exact wE HY.o);rw[<-hW3];clear hW3 f0 b0;clear a0 a1 a2 a3 a8 a9 Aj;go_wp2_with(first|(refine ew rfl (.tmp 1) rfl w rfl (HZ.o.cP rfl) ?_)|(refine ew rfl (.tmp 3) rfl [w] rfl (HZ.o.cZ rfl) ?_));refine dx (XQ.o _ HZ.o.1) λw9 vN=> ?_;have HF:=aV (HZ.o.aT vN);clear vN;go_wp2;go_ret;exact⟨rfl,HF.o.1⟩
def CB(w:bq):xC 15 #[zR 0 0 () () () () ()] w (di false w):=by
 have HX:=aV (Bx.ei w (ir 0 0 () () () () ()) (ir 0 0 () () () () ()));delta xC;go_in;go_upto_region 2 with fail;have⟨W1,hW1⟩:=dd ((w.alloc (ir 0 0 () () () () ())).alloc (ir 0 0 () () () () ()));rw[<-hW1]at HX;unfold ir at hW1;rw[<-hW1];clear hW1;have a0:=(cQ (HX.o.cP rfl)).c0;have b0:=(cQ (HX.o.cZ rfl)).c0;have f0:=aY (HX.o.cZ rfl) 0;go_wp2;go_ret;exact⟨rfl,HX.o.1.setCell (p:=⟨[w],0,none⟩) (by simp) _⟩
def yY(n:bS)(h:bF n=true)(w:bq):xC 15 #[zR 4 0 () n () () ()] w (di true w):=by
 have XQ:=ie (w:=w) (λW _=>qI 4 0 () n () () () W (S5.nil W));have HN:Hd (∀W,_):=λW=>uH n h W;clear h;have qM:∀W,(Instr.build 59 #[(3,xS n)]).run prog W= .ok (.agg #[xI 0,xI 0,"",n,xI 0,xI 0,"",(),(),"",(),xI 0,"","","",xI 0,xI 0,"",""]) W:=λW=>run_build W _ _ _ (by kernel_rfl);have HX:=aV (Bx.ei w (ir 4 0 () n () () ()) (ir 0 0 () () () () ()));delta xC;go_in;go_upto_region 2 with fail;have⟨W1,hW1⟩:=dd ((w.alloc (ir 4 0 () n () () ())).alloc (ir 0 0 () () () () ()));rw[<-hW1]at HX;unfold ir at hW1;rw[<-hW1];clear hW1;obtain⟨a0,a1,a2,a3,-,-,-,-,a8,a9,Aj,-,-,-,-,-,-,-,-⟩:=cQ (HX.o.cP rfl);go_upto_region 17 with fail;iterate 10 go_step
 refine ia rfl (.tmp 3) (.tmp 68) rfl _ rfl rfl rfl rfl (HX.o.cZ rfl) λW2 h2 o2=> ?_;have HY:=aV (tB HX.o h2 o2);clear h2 o2 a0 a1 a2 a3 a8 a9 Aj;obtain⟨a0,a1,a2,a3,-,-,-,-,a8,a9,Aj,-,-,-,-,-,-,-,-⟩:=cQ (HY.o.cP rfl);go_wp2_with fail;refine ey (HN.o _) ?_;have f0:=aY (HY.o.cZ rfl) 0;have b0:=(cQ (HY.o.cZ rfl)).c0;go_upto_region 30 with fail;have⟨W3,hW3⟩:=dd (W2.setCell ([w],0) (xI 4));have HZ:=aV (show Bx w [ir 4 0 () n () () (),ir 4 0 () n () () ()] W3 by rw[hW3];exact wE HY.o);rw[<-hW3];clear hW3 f0 b0;clear a0 a1 a2 a3 a8 a9 Aj;go_wp2_with(first|(refine ew rfl (.tmp 1) rfl w rfl (HZ.o.cP rfl) ?_)|(refine ew rfl (.tmp 3) rfl [w] rfl (HZ.o.cZ rfl) ?_));refine dx (XQ.o _ HZ.o.1) λw9 vN=> ?_;have HF:=aV (HZ.o.aT vN);clear vN;go_wp2;go_ret;exact⟨rfl,HF.o.1⟩
end
section
open Go.RowKit Go.Shelf
def M9(n:Int)(w:bq):xC 344 #[n,n] w (j7 (xI 0) w):=by
 delta xC;go_in;go_wp2;go_ret;exact⟨rfl,rfl⟩
def Na(k n:Int)(s:bS)(a b:fM)(c d:Nat)(w:bq):xC 300 #[.agg #[k,n,s,xL a 0 c], .agg #[k,n,s,xL b 0 d]] w (di (xI 0) w):=by
 have HX:=aV (Bx.ei w (xK #[k,n,s,xL a 0 c] 50) (xK #[k,n,s,xL b 0 d] 50));have hir:=rG s;have HO:=aV M9;delta xC;go_in;go_upto_region 1 with fail;have⟨W1,hW1⟩:=dd ((w.alloc (xK #[k,n,s,xL a 0 c] 50)).alloc (xK #[k,n,s,xL b 0 d] 50));rw[<-hW1]at HX;rw[<-hW1];clear hW1;have⟨c0,c1,c2,c3⟩:=aU (HX.o.cP rfl);have⟨d0,d1,d2,d3⟩:=aU (HX.o.cZ rfl);go_wp2_with fail;refine ey (HO.o _ _) ?_;go_wp2_with fail;refine ey (HO.o _ _) ?_;go_wp2;go_loopg [5,6]0(λgg v5 v6 wr=>gg=0/\v5=xI 0/\v6=xI 0/\wr=W1);exact⟨rfl,rfl,rfl,rfl⟩;obtain⟨rfl,rfl,rfl,rfl⟩:=hrel;go_wp2_with fail;refine ey (HO.o _ _) ?_;go_wp2;go_ret;exact⟨rfl,HX.o.1⟩
def Qz(k n:Int)(s:bS)(a b:fM)(c d:Nat)(w:bq):xC 265 #[.agg #[k,n,s,xL a 0 c], .agg #[k,n,s,xL b 0 d]] w (di true w):=by
 have HX:=aV (Bx.ei w (xK #[k,n,s,xL a 0 c] 50) (xK #[k,n,s,xL b 0 d] 50));have⟨c0,c1,c2,c3⟩:=aU (HX.o.cP rfl);have⟨d0,d1,d2,d3⟩:=aU (HX.o.cZ rfl);delta xC;go_in;go_wp2_with fail;refine dx (Na _ _ _ _ _ _ _ _) λw' hb=> ?_;have HB:=aV (HX.o.aT hb);go_wp2;go_ret;exact⟨rfl,HB.o.1⟩
def QA(l:List bE)(hf:∀y∈l,yQ y)(hl:l.length<=20)(M:bY)(w:bq)(v u:bt)(hs:aS M w v l)(hu:aS M w u l):
 xC 190 #[v,u] w (di true w):=by
 have HV:Hd (∀(i:Nat)k n s ll,l[i]? =some (.mk k n s ll)->_):=λi k n s ll hx=>ep hs hx;have HU:Hd (∀(i:Nat)k n s ll,l[i]? =some (.mk k n s ll)->_):=λi k n s ll hx=>ep hu hx;have HF:=aV hf;obtain⟨a,cY,rfl,dN,hmx,_⟩:=hs.bj;obtain⟨ua,qfn,rfl,-⟩:=hu.bj;generalize hn:l.length=n at*;have HN:=aV hn;delta xC;go_in;go_wp2;go_loopg [4,5]n(λg r4 iv wr=>∃i:Nat,i<=n/\g=n-i/\iv=xI i/\r4=xB false/\Hd (bC w wr));exact⟨0,ax _,rfl,rfl,rfl,aV eH⟩;obtain⟨i,hi,rfl,rfl,rfl,HB⟩:=hrel;rename World=>wr;by_cases cE:i<n
 .have⟨y,hy⟩:=fg l i (by rw[HN.o];exact cE);obtain⟨vk,vn,vs,rfl⟩:=HF.o y (ai hy);have⟨b,off,cap,za,zc,hv,hbl,hsl,_,hcells⟩:=HV.o i vk vn vs [] hy;obtain⟨rfl,rfl⟩:=jk hv;have⟨b2,off2,cap2,za2,zc2,hv2,hbl2,hsl2,_,hcells2⟩:=HU.o i vk vn vs [] hy;obtain⟨rfl,rfl⟩:=jk hv2;have mC:=aV hcells;have HCU:=aV hcells2;have i0:(0:Int)<=(i:Int):=an _;have i1:(i:Int)<(n:Int):=by omega
  have HK:Hd (∀V,bC wr V->(cC V b (off+i*4) vk/\cC V b (off+i*4+1) vn/\cC V b (off+i*4+2) vs/\cC V b (off+i*4+3) (xL za 0 zc))/\(cC V b2 (off2+i*4) vk/\cC V b2 (off2+i*4+1) vn/\cC V b2 (off2+i*4+2) vs/\cC V b2 (off2+i*4+3) (xL za2 0 zc2))):=λV hb=>by
   have h1:=(mC.o V (HB.o.trans (hb.mono HB.o.size))).1;have h2:=(HCU.o V (HB.o.trans (hb.mono HB.o.size))).1;rw[aD]at h1 h2;exact⟨h1,h2⟩
  go_upto_region 6 with fail;go_cut [26](λs25 wx=>s25=xB false/\Hd (bC w wx))
  .refine jf (by kernel_rfl) (by kernel_rfl) λι _ F jr vO=> ?_;have s0:=λi=>(HK.o (F i) (jr i)).1.1;have s1:=λi=>(HK.o (F i) (jr i)).1.2.1;have s2:=λi=>(HK.o (F i) (jr i)).1.2.2.1;have s3:=λi=>(HK.o (F i) (jr i)).1.2.2.2;have t0:=λi=>(HK.o (F i) (jr i)).2.1;have t1:=λi=>(HK.o (F i) (jr i)).2.2.1;have t2:=λi=>(HK.o (F i) (jr i)).2.2.2.1;have t3:=λi=>(HK.o (F i) (jr i)).2.2.2.2;have iY:=aV jr;have uR:=aV vO;repeat(go_big_quiet_step((go_at_call 265;refine dx (Qz _ _ _ _ _ _ _ _) λw3 hb3=> ?_;exact⟨rfl,uR.o _ ((iY.o _).trans (hb3.mono (iY.o _).size))⟩)))
   refine wpQuiet_nil ?_;rintro _⟨nq,rfl⟩;go_wp2;go_meet;exact⟨rfl,aV (HB.o.trans ((iY.o _).mono HB.o.size))⟩
  obtain⟨rfl,cR⟩:=hcut;go_wp2;go_roundg(n-(i+1));exact⟨i+1,by omega,rfl,by go_num,rfl,cR⟩;omega
 obtain rfl:i=n:=by omega
 go_wp2;go_ret;exact⟨rfl,HB.o⟩
def Nb(o:cm)(hf:∀y∈o.bR,yQ y)(hl:o.bR.length<=20)(M:bY)(w:bq)(v u:bt)(hs:aS M w v o.bR)(hu:aS M w u o.bR):
 xC 115 #[.agg #[o.id,o.dz,o.dB,v], .agg #[o.id,o.dz,o.dB,u]] w (di true w):=by
 have HV:=ie (w:=w) (λW hb=>QA o.bR hf hl M W v u (hs.aT hb) (hu.aT hb));obtain⟨va,vc,rfl,-⟩:=hs.bj;obtain⟨ua,uc,rfl,-⟩:=hu.bj;generalize o.bR.length=n at*;have HX:=aV (Bx.ei w (xK #[o.id,o.dz,o.dB,xL va n vc] 41) (xK #[o.id,o.dz,o.dB,xL ua n uc] 41));have⟨c0,c1,c2,c3⟩:=aU (HX.o.cP rfl);have⟨d0,d1,d2,d3⟩:=aU (HX.o.cZ rfl);delta xC;go_in;go_wp2_with fail;refine dx (HV.o _ HX.o.1) λw' hb=> ?_;have HB:=aV (HX.o.aT hb);go_wp2;go_ret;exact⟨rfl,HB.o.1⟩
def Nc(s:bS)(a b:fM)(c d:Nat)(w:bq):xC 116 #[.agg #[s,xL a 0 c], .agg #[s,xL b 0 d]] w (di true w):=by
 have HX:=aV (Bx.ei w (xK #[s,xL a 0 c] 53) (xK #[s,xL b 0 d] 53));delta xC;go_in;go_upto_region 1 with fail;have⟨W1,hW1⟩:=dd ((w.alloc (xK #[s,xL a 0 c] 53)).alloc (xK #[s,xL b 0 d] 53));rw[<-hW1]at HX;rw[<-hW1];clear hW1;have⟨c0,c1⟩:=aZ (HX.o.cP rfl);have⟨d0,d1⟩:=aZ (HX.o.cZ rfl);go_wp2;go_loopg [4,5]0(λgg v4 v5 wr=>gg=0/\v4=xB false/\v5=xI 0/\wr=W1);exact⟨rfl,rfl,rfl,rfl⟩;obtain⟨rfl,rfl,rfl,rfl⟩:=hrel;go_wp2;go_ret;exact⟨rfl,HX.o.1⟩
def Nd(w:bq):xC 117 #[.agg #[xI 0,"","","",xI 0,xI 0,"",""], .agg #[xI 0,"","","",xI 0,xI 0,"",""]] w (di true w):=by
 have heq:∀w,(Op.equal 57 MF MF).run prog w= .ok true w:=λw=>by kernel_rfl
 unfold MF at heq;have HX:=aV (Bx.ei w (xK #[xI 0,"","","",xI 0,xI 0,"",""] 57) (xK #[xI 0,"","","",xI 0,xI 0,"",""] 57));have⟨c0,c1,c2,c3,c4,c5,c6,c7⟩:=bz (HX.o.cP rfl);have⟨d0,d1,d2,d3,d4,d5,d6,d7⟩:=bz (HX.o.cZ rfl);delta xC;go_in;go_wp2;go_ret;exact⟨rfl,HX.o.1⟩
abbrev ZL(k:Int)(o:cm)(id:Int)(nm:bS)(vv fv:bt):bt:= .agg #[k,o.id,o.dz,o.dB,vv,id,xI 0,nm,"",fv,xI 0,"","","",xI 0,xI 0,"",""]
def Wd(k:Int)(o:cm)(id:Int)(nm:bS)(vv fv:bt):Obj:=xK #[k,o.id,o.dz,o.dB,vv,id,xI 0,nm,"",fv,xI 0,"","","",xI 0,xI 0,"",""] 81
structure RzC(W:bq)(g:Nat)(k:Int)(o:cm)(id:Int)(nm:bS)(vv fv:bt):Prop where
 c0:W.cell? (g,0)=some (xI k)
 c1:W.cell? (g,1)=some (xI o.id)
 c2:W.cell? (g,2)=some (xI o.dz)
 c3:W.cell? (g,3)=some (xI o.dB)
 c4:W.cell? (g,4)=some vv
 c5:W.cell? (g,5)=some (xI id)
 c6:W.cell? (g,6)=some (xI 0)
 c7:W.cell? (g,7)=some (xS nm)
 c8:W.cell? (g,8)=some (xS ())
 c9:W.cell? (g,9)=some fv
 c10:W.cell? (g,10)=some (xI 0)
 c11:W.cell? (g,11)=some (xS ())
 c12:W.cell? (g,12)=some (xS ())
 c13:W.cell? (g,13)=some (xS ())
 c14:W.cell? (g,14)=some (xI 0)
 c15:W.cell? (g,15)=some (xI 0)
 c16:W.cell? (g,16)=some (xS ())
 c17:W.cell? (g,17)=some (xS ())
def kY {k:Int}{o:cm}{vv:bt}(h:cX W g (Wd k o id nm vv fv)):RzC W g k o id nm vv fv:=by
 unfold Wd at h;constructor<;>simp[World.cell?,h]
def Nf(k:Int)(o:cm)(id:Int)(nm:bS)(hf:∀y∈o.bR,yQ y)(hl:o.bR.length<=20)(M:bY)(w:bq)(v u:bt)(a b:fM)(c d:Nat)(hs:aS M w v o.bR)(hu:aS M w u o.bR):
 xC 45 #[ZL k o id nm v (xL a 0 c),ZL k o id nm u (xL b 0 d)] w (di true w):=by
 have HV:=ie (w:=w) (λW hb=>Nb o hf hl M W v u (hs.aT hb) (hu.aT hb));have HC:=aV (Nc () a b c d);have HD:=aV Nd;obtain⟨va,vc,rfl,-⟩:=hs.bj;obtain⟨ua,uc,rfl,-⟩:=hu.bj;clear hs hu hf hl;generalize o.bR.length=n at*;have HX:=aV (Bx.ei w (Wd k o id nm (xL va n vc) (xL a 0 c)) (Wd k o id nm (xL ua n uc) (xL b 0 d)));delta xC;go_in;go_upto_region 1 with fail;have⟨W1,hW1⟩:=dd ((w.alloc (Wd k o id nm (xL va n vc) (xL a 0 c))).alloc (Wd k o id nm (xL ua n uc) (xL b 0 d)));rw[<-hW1]at HX;unfold Wd at hW1;rw[<-hW1];clear hW1;obtain⟨a0,a1,a2,a3,a4,a5,a6,a7,-,-,-,-,-,-,-,-,-,-⟩:=kY (HX.o.cP rfl);obtain⟨b0,b1,b2,b3,b4,b5,b6,b7,-,-,-,-,-,-,-,-,-,-⟩:=kY (HX.o.cZ rfl);go_wp2_with fail;refine dx (HV.o _ HX.o.1) λw1 hb1=> ?_;have gz:=aV (HX.o.aT hb1);clear hb1 a0 a1 a2 a3 a4 a5 a6 a7 b0 b1 b2 b3 b4 b5 b6 b7;have a8:=(kY (gz.o.cP rfl)).c8;have b8:=(kY (gz.o.cZ rfl)).c8;have a9:=(kY (gz.o.cP rfl)).c9;have b9:=(kY (gz.o.cZ rfl)).c9;go_wp2_with fail;refine dx (HC.o _) λw2 cJ=> ?_;have mn:=aV (gz.o.aT cJ);clear cJ a8 b8 a9 b9;obtain⟨-,-,-,-,-,-,-,-,-,-,Aj,a11,a12,a13,a14,a15,a16,a17⟩:=kY (mn.o.cP rfl);obtain⟨-,-,-,-,-,-,-,-,-,-,b10,b11,b12,b13,b14,b15,b16,b17⟩:=kY (mn.o.cZ rfl);go_wp2_with fail;refine dx (HD.o _) λw3 hb3=> ?_;have nX:=aV (mn.o.aT hb3);clear hb3;go_wp2;go_ret;exact⟨rfl,nX.o.1⟩
def Jn(xs:List iZ)(ys:List kG)(zs:List kP)(M:bY)(w:bq)(hM:Bd M w)(xv yv zv:bt)(hx:aS M w xv xs)(hy:aS M w yv ys)(hz:aS M w zv zs):
 xG 5 #[.agg #[xv,yv,zv]] w λu w'=>∃(x:bU)(lv ov rv:bt),B9 x/\u= .agg #[lv,ov,rv,x.next]/\aS M w' lv x.bH/\aS M w' ov x.bN/\aS M w' rv x.bB:=by
 have⟨i0,hi0,hz0,hz1,hz2⟩:=info_parts LI;have mQ:=aV hM;have HY:Hd (∀k r,ys[k]? =some r->_):=λk r h=>DS hy h;have HZ:Hd (∀k r,zs[k]? =some r->_):=λk r h=>DT hz h;have wH:Hd (∀W,Bx w [vi xv yv zv,NH () () () 0] W->_):=λW hB=>DK xs (eo M w 2) W (dZ hM hB.cM) xv (hx.ev (dH hB.1));obtain⟨xa,xc,rfl,_⟩:=hx.bj;obtain⟨ya,yc,rfl,hyc,hym,_⟩:=hy.bj;obtain⟨za,zc,rfl,hzc,hzm,_⟩:=hz.bj;clear hx hy hz hM;generalize hxl:xs.length=xl at*;generalize hyl:ys.length=yl at*;generalize hzl:zs.length=zl at*;have U6:=aV hyl;clear hyl;have HZL:=aV hzl;clear hzl;clear hxl;have⟨n,hn⟩:=dd (min yl 10);have qel:n<=10:=by omega
 have hny:n<=yl:=by omega
 have qhn:min (yl:Int) 10=(n:Int):=by omega
 have qfy:(if(yl:Int)<=10 then(yl:Int)else 10)=(n:Int):=by split<;>omega
 have qfz:(if(yl:Int)<10 then(yl:Int)else 10)=(n:Int):=by split<;>omega
 have qf0:(if(10:Int)<(yl:Int)then(10:Int)else(yl:Int))=(n:Int):=by split<;>omega
 clear hn;delta xG;go_in;go_wp2_with fail;refine(wH.o _ (Bx.ei w _ _)).mono ?_;rintro e w1⟨_,rfl,⟨ls,CV,uP,lv,rfl,tP⟩,hb1⟩;have qfr:=tP;obtain⟨la,lc,rfl,_⟩:=qfr.bj;have cu:=aV ((Bx.ei w (vi (xL xa xl xc) (xL ya yl yc) (xL za zl zc)) (NH () () () 0)).aT hb1);have Yy:=aV tP;have Da:Hd (eS ls/\ls≠[]):=⟨CV,List.length_pos_iff.1 uP.1⟩;have HSF:=aV uP.2;have s1:=cu.o.cM;simp only[aC,aD]at s1;clear hb1 tP CV uP;generalize UM:ls.length=ll at*;clear UM;have⟨o1,ho1⟩:=dd (NH () () () 0);rw[<-ho1]at cu;have rU:=aV ho1;clear ho1;have x0:=λo=>bM ((cu.o.alloc o).cP rfl);go_upto_region 3 with fail;have⟨K,hK⟩:=dd (w1.heap.size);have⟨W1,hW1⟩:=dd (w1.alloc (NH (xL la ll lc) () () 1));have F6:=aV (show lZ M w w1 (vi (xL xa xl xc) (xL ya yl yc) (xL za zl zc)) o1 K (xL la ll lc) ls (n:Int) 0 0 none [] (((0:Nat):Int)+1) W1 by
  rw[hW1];exact⟨rfl,λj o h=>by simp at h,by rw[hK];exact az w1 _,bP.nil _ _ _ _,Yy.o,eH.alloc (Nat.le_of_eq hK) _,hK,cu.o.alloc _,by omega⟩);unfold NH at hW1;rw[<-hW1,<-hK];clear hW1 hK cu Yy x0;go_wp2;go_loopg [5]n(λg iv wr=>∃(i cap:Nat)(a:fM)(os:List cm),i<=n/\g=n-i/\iv=xI i/\Hd (lZ M w w1 (vi (xL xa xl xc) (xL ya yl yc) (xL za zl zc)) o1 K (xL la ll lc) ls (n:Int) i cap a os ((i:Int)+1) wr));exact⟨0,0,none,[],ax _,rfl,rfl,F6⟩;obtain⟨i,cap,a,os,hi,rfl,rfl,HS⟩:=hrel;have⟨x0,x1,x2⟩:=bM (HS.o.bx.cP rfl);by_cases cE:i<n
 .have⟨y,hy⟩:=fg ys i (by rw[U6.o];omega);have⟨b,off,cap',vv,hv,hbl,hvv,hI,hcells⟩:=HY.o i y hy;obtain⟨rfl,rfl⟩:=jk hv;have⟨q0,q1,q2,q3⟩:=hcells wr HS.o.bx.1;have⟨k0,k1,k2,k3⟩:=aU HS.o.blk;have f1:=aY HS.o.blk 1;have RV:=HS.o.lt;have WN:=HS.o.hK;have BF:=aV (λ(W:bq)(hb:bC wr W)=>DQ ls Da.o.1 (List.length_pos_iff.2 Da.o.2) y ⟨hI.1,hI.2.1,hI.2.2.2⟩ ((i:Int)+1) (n:Int) (by omega) (cz (xL a i cap) (rS M w K)) W ((HS.o.aT hb).bd mQ.o) (xL la ll lc) vv (HS.o.ls0.ev (HS.o.aT hb).ev1) (hvv.ev (HS.o.aT hb).ev0));have qfs:=hvv;obtain⟨va,vc,rfl,_⟩:=qfs.bj;obtain⟨yy,yv,yw,yk⟩:=y;dsimp only at*;have z1:IntKind.i64.wrap ((i:Int)+1)=(i:Int)+1:=aw _ (by omega);have z2:IntKind.i64.wrap ((i:Int)+2)=(i:Int)+2:=aw _ (by omega);have z3:(0:Int)<=(i:Int):=an _;have z4:(i:Int)<(yl:Int):=by omega
  have lp:=aV HS.o.len;clear hv hbl hvv hI hcells hy;go_upto_region 6 with fail;go_cut [](λwx=>∃(cap2:Nat)(a2:fM)(o:cm),Hd (lZ M w w1 (vi (xL xa xl xc) (xL (b,off) yl yc) (xL za zl zc)) o1 K (xL la ll lc) ls (n:Int) (i+1) cap2 a2 (os++[o]) ((i:Int)+1) wx))
  .go_region_law(first
    |(go_simp;go_at_call 17;refine(BF.o _ (ay _ wr).drew).mono ?_;rintro e w2⟨_,rfl,⟨k,v,l,vs,uv,rfl,hok,hsl⟩,cJ⟩;have CQ:=hsl;obtain⟨ua,uc,rfl,_⟩:=CQ.bj;have ij:Hd (bC wr w2):=((ay _ wr).drew.trans cJ);have Wl:Hd (∃k' v' l',jS ls (n:Int) ⟨(i:Int)+1,(k:Int),(v:Int),vs⟩ k' v' l'):=⟨k,v,l,hok⟩;have fR:Hd (∀o',bD.rep (α:=cm) (cz (xL a i cap) (rS M w K)) (w2.alloc o') [xI ((i:Int)+1),xI (k:Int),xI (v:Int),xL ua vs.length uc] ⟨(i:Int)+1,(k:Int),(v:Int),vs⟩):=λo'=>⟨_,rfl,hsl.aT (eH.alloc cN o')⟩;have s1:=cJ.size;simp at s1;have j1:cC w2 K 1 (xL a i cap):=(ij.o.cell (p:=⟨K,1,none⟩) (by simp;omega)).trans k1;have n1:∀o,(w2.alloc o).cell? (K,1)=some (xL a i cap):=λo=>dr _ _ _ j1;clear cJ hok hsl)
    |(refine eA (α:=cm) rfl _ _ _ rfl (rS M w K) (K+1) 41 i0 _ 48 underlying31 hi0 hz0 hz1 hz2 rfl (by decide) (.slice a i cap) os rfl ((HS.o.acc.aT ij.o).alloc _) (λ_=>True) _ _ ⟨(i:Int)+1,(k:Int),(v:Int),vs⟩ rfl (dj _ _ _ _ rfl trivial) (fR.o _) (by rw[lp.o];unfold maxLen;omega) (by rw[lp.o];omega) (by simp;omega) ?_;rw[lp.o];intro a2 c2 w3 kZ zt hb3;have qq:=aV kZ;have l1:cC w3 K 1 (xL a i cap):=(hb3.cell (p:=⟨K,1,none⟩) (by simp)).trans (dr _ _ _ j1);have l4:w3.frozen? (K,1)=false:=(hb3.frozen (p:=⟨K,1,none⟩) (by simp)).trans ((cU.frozen (p:=⟨K,1,none⟩) (by simp;omega)).trans ((ij.o.frozen (p:=⟨K,1,none⟩) (by simp;omega)).trans f1));have cR:=aV hb3;clear kZ zt hb3));all_goals(go_wp2;go_meet)
   all_goals exact⟨c2,a2,_,(HS.o.put mQ.o ij.o rfl Wl.o qq.o cR.o)⟩
  obtain⟨cap2,a2,o,iy⟩:=hcut;have⟨wx,hwx⟩:=dd (wc);subst hwx;clear q0 q1 q2 q3 k0 k1 k2 k3 f1 x0 x1 x2;have⟨k0,k1,k2,k3⟩:=aU iy.o.blk;have f3:=aY iy.o.blk 3;go_wp2;go_roundg(n-(i+1));case measure=>omega
  case rel=>
   refine⟨i+1,cap2,a2,os++[o],by omega,rfl,by go_num,(show lZ _ _ _ _ _ _ _ _ _ _ _ _ _ _ _ from ?_)⟩;rw[show(((i+1:Nat):Int)+1)=(i:Int)+2 from by omega];exact iy.o.num _
 obtain rfl:i=n:=by omega
 have HID:Hd (∀(j:Nat)(o:cm),os[j]? =some o->o.id=(j:Int)+1/\∃k v l,jS ls (os.length:Int) o k v l):=λj o ho=>by
  have:=HS.o.ids j o ho;rw[HS.o.len];exact this
 have Rw:=aV HS.o.len;have HG0:=aV (HS.o.bB mQ.o);clear x0 x1 x2 HS;go_wp2;go_loopg [6]5(λg jv wr=>∃(j:Nat)(rv:bt)(rs:List bT),j<=zl/\j<=5/\g=5-j/\jv=xI j/\Hd (mV M w (vi (xL xa xl xc) (xL ya yl yc) (xL za zl zc)) o1 K (xL la ll lc) (xL a i cap) rv ls os rs ((i:Int)+1) j wr));exact⟨0,_,[],ax _,by omega,rfl,rfl,HG0⟩;obtain⟨j,rv,rs,hj,hj5,rfl,rfl,HG⟩:=hrel;clear HG0;have ib:∃ra rc,rv=xL ra rs.length rc:=by
  have h:=HG.o.sr;have⟨ra,rc,e,_⟩:=h.bj;exact⟨ra,rc,e⟩
 obtain⟨ra,rc,rfl⟩:=ib;generalize JK:rs.length=rl at*;have UX:=aV JK;clear JK;have hwK:=HG.o.hK;have⟨x0,x1,x2⟩:=bM (HG.o.bx.cP rfl);by_cases hgo:j<zl/\j<5/\0<i
 .obtain⟨hjz,qho,hi0⟩:=hgo;have⟨z,hz⟩:=fg zs j (by rw[HZL.o];exact hjz);have⟨b,off,cap',hv,hbl,hI,hcells⟩:=HZ.o j z hz;obtain⟨rfl,rfl⟩:=jk hv;have⟨q0,q1⟩:=hcells wr HG.o.bx.1;have⟨k0,k1,k2,k3⟩:=aU HG.o.blk;obtain⟨zn,zi⟩:=z;dsimp only at*;have HNA:=aV (λW=>Hl zn hI.1 W);have KN:Hd (∀W,xC 20 #[zi,xI (i:Int)] W (j7 (xI (bW zi i:Int)) W)):=λW=>by
   have h:=lX zi (i:Int) W hI.2 (by omega) (by omega);simpa using h
  have hpk:=dJ zi i hi0;have hq5:RL (bW zn 5)<5:=Vs (dJ zn 5 (by omega));have⟨ks,u1,u2,u3⟩:=HG.o.nms;have⟨j',d,p1,p2,p3,p4,p5⟩:=LJ u1 u2 u3 (RL (bW zn 5)) hq5;have Wt:rs.length<=5:=aH HG.o.len hj5;have⟨rs2,hrs2⟩:=dd (rs.take j'++[(⟨vT (RL (bW zn 5)),1+(bW zi i:Int)⟩:bT)]++rs.drop (j'+d));have tM:Hd (∀W,bC wr W->xC 18 #[xL ra rl rc, .agg #[xS (vT (RL (bW zn 5))),xI (1+(bW zi i:Int))]] W (de W λu w'=>aS (rS M w K) w' u rs2)):=λW hb=>by
   rw[hrs2];exact Sv rs ⟨vT (RL (bW zn 5)),1+(bW zi i:Int)⟩ (by show(0:Int)<1+_;omega) (aH (AD _ hq5).2 (by unfold maxLen;omega)) Wt j' d p1 p3 p4 p2 (rS M w K) W ((HG.o.aT hb).bd mQ.o) _ (HG.o.sr.aT hb) HG.o.nil
  have hp5:=p5 (1+(bW zi i:Int));rw[<-hrs2]at hp5;have vZ:=aV (show rs2≠[]/\(∀r∈rs2,1<=r.id/\r.id<=os.length)/\rs2.length<=j+1/\∃ks:List Nat,ks.Pairwise (·< ·)/\(∀k∈ks,k<5)/\rs2.map bT.aX=ks.map vT by
   refine⟨by rw[hrs2];simp,λr hr=> ?_,?_,hp5⟩
   .rw[hrs2]at hr;simp only[aI,aR]at hr;rcases hr with(hr|rfl)|hr
    .exact HG.o.rng r (List.mem_of_mem_take hr)
    .have:=Rw.o;show(1:Int)<=1+_/\1+_<=_;omega
    exact HG.o.rng r (List.mem_of_mem_drop hr)
   have:=HG.o.len;rw[hrs2];simp only[aJ,aK,List.length_drop,aC,aD];omega);have Aa:=aV hbl;clear p1 p2 p3 p4 p5 u1 u2 u3 hrs2 hp5 Wt hv hcells hz hI hbl hq5;generalize vT (RL (bW zn 5))=nmv at*;generalize bW zi i=pk at*;have z1:IntKind.i64.wrap (1+(pk:Int))=1+(pk:Int):=aw _ (by omega);have z3:(0:Int)<=(j:Int):=an _;have z4:(j:Int)<(zl:Int):=by omega
  have z5:(j:Int)<5:=by omega
  have z6:(0:Int)<(i:Int):=by omega
  have f2:=aY HG.o.blk 2;have RV:=HG.o.lt;go_upto_region 11 with fail;refine' yL 19 ?hl ?hm ?hB1 ?hB2 ?hB3 ?hB ?hh;case hl=>exact rfl
  case hm=>kernel_rfl
  case hB1=>kernel_rfl
  case hB2=>kernel_rfl
  case hB3=>kernel_rfl
  case hB=>kernel_rfl
  intro ι _ F jr vO;have s0:=λi=>(bM ((HG.o.aT (jr i)).bx.cP rfl)).2.2;have s1:=λi=>(aU (HG.o.aT (jr i)).blk).2.2.1;have s2:∀i,(F i).cell? (b,off+j*2)=some (xI zn):=λi=>((jr i).cell (p:=⟨b,off+j*2,none⟩) (pI q0)).trans q0;have s3:∀i,(F i).cell? (b,off+j*2+1)=some (xI zi):=λi=>((jr i).cell (p:=⟨b,off+j*2+1,none⟩) (pI q1)).trans q1;have iY:=aV jr;have uR:=aV vO;clear jr vO;simp only[List.take_succ_cons,List.take_zero,Act.put,List.setIfInBounds_toArray,List.set_cons_zero,List.set_cons_succ];repeat(go_big_quiet_step(first
   |(go_at_call 19;refine dx (HNA.o _) λw3 hb3=> ?_;exact⟨rfl,uR.o _ ((iY.o _).trans (hb3.mono (iY.o _).size))⟩)
   |(go_at_call 20;refine ey (KN.o _) ?_;exact⟨rfl,_,rfl⟩)))
  refine wpQuiet_nil ?_;rintro _⟨nq,rfl⟩;go_simp;go_at_call 18;refine(tM.o _ (iY.o _)).mono ?_;rintro e wn⟨un,rfl,hsl,wI⟩;have hun:∃na nc,un=xL na rs2.length nc:=by
   have⟨na,nc,e,_⟩:=hsl.bj;exact⟨na,nc,e⟩
  obtain⟨na,nc,rfl⟩:=hun;have HJn:Hd (bC wr wn):=(iY.o _).trans (wI.mono (iY.o _).size);have HSn:=aV hsl;have kn2:=(aU (HG.o.aT HJn.o).blk).2.2.1;have fn2:=aY (HG.o.aT HJn.o).blk 2;clear hsl wI;go_simp;go_wp2;go_roundg(5-(j+1));exact⟨j+1,_,rs2,by omega,by omega,rfl,by go_num,(HG.o.root HJn.o HSn.o vZ.o.1 vZ.o.2.1 vZ.o.2.2.1 vZ.o.2.2.2)⟩;omega
 have⟨k0,k1,k2,k3⟩:=aU HG.o.blk;rcases Nat.eq_zero_or_pos i with hi0|hi0
 .subst hi0;have C4:Hd (mV M w (vi (xL xa xl xc) (xL ya yl yc) (xL za zl zc)) o1 K (xL la ll lc) (xL a 0 cap) (xL ra rl rc) ls os rs 1 j wr):=HG.o;have hex:zl<=j\/(j<zl/\5<=j)\/(j<zl/\j<5):=by omega
  clear hgo HG k0 k1 k2 k3;have hb1:=C4.o.bx.cZ rfl;rw[rU.o]at hb1;have⟨r0,r1,r2,r3⟩:=aU hb1;have⟨g0,g1,g2,g3⟩:=iS hb1;clear hb1;have⟨k0,k1,k2,k3⟩:=aU C4.o.blk;have po:Hd (∀W',W'=(((wr.setCell ([w],0) (xL la ll lc)).setCell ([w],1) (xL a 0 cap)).setCell ([w],2) (xL ra rl rc)).setCell ([w],3) (xI (1))->_):=λW' hW'=>C4.o.fin Da.o.1 HSF.o (by have:=Rw.o;omega) HID.o hj5 (by have:=Rw.o;omega) W' hW';rcases hex with hex|⟨hex,qcc⟩|⟨hex,qcc⟩
  .go_wp2_with fail;exact ah (v:= .agg #[xL la ll lc,xL a 0 cap,xL ra rl rc,xI (1)]) (by simp[results,results5,go_sem,r0,r1,r2,r3,g0,g1,g2,g3]) rfl (by have⟨⟨x',l',o',r',e1,e2,e3,e4,e5⟩,e6⟩:=po.o _ rfl;first|exact⟨_,rfl,⟨x',l',o',r',e1,e2,e3,e4,e5⟩,e6⟩|exact⟨_,rfl,⟨x',e1,l',o',r',e2,e3,e4,e5⟩,e6⟩)
  .have z8:¬(j:Int)<5:=by omega
   go_wp2_with fail;exact ah (v:= .agg #[xL la ll lc,xL a 0 cap,xL ra rl rc,xI (1)]) (by simp[results,results5,go_sem,r0,r1,r2,r3,g0,g1,g2,g3]) rfl (by have⟨⟨x',l',o',r',e1,e2,e3,e4,e5⟩,e6⟩:=po.o _ rfl;first|exact⟨_,rfl,⟨x',l',o',r',e1,e2,e3,e4,e5⟩,e6⟩|exact⟨_,rfl,⟨x',e1,l',o',r',e2,e3,e4,e5⟩,e6⟩)
  have z8:(j:Int)<5:=by omega
  go_wp2_with fail;exact ah (v:= .agg #[xL la ll lc,xL a 0 cap,xL ra rl rc,xI (1)]) (by simp[results,results5,go_sem,r0,r1,r2,r3,g0,g1,g2,g3]) rfl (by have⟨⟨x',l',o',r',e1,e2,e3,e4,e5⟩,e6⟩:=po.o _ rfl;first|exact⟨_,rfl,⟨x',l',o',r',e1,e2,e3,e4,e5⟩,e6⟩|exact⟨_,rfl,⟨x',e1,l',o',r',e2,e3,e4,e5⟩,e6⟩)
 have hex:zl<=j\/(j<zl/\¬(j:Int)<5):=by omega
 have z6:(0:Int)<(i:Int):=by omega
 have⟨y,hy⟩:=fg ys 0 (by rw[U6.o];omega);have⟨b,off,cap',vv,hv,hbl,hvv,hI,hcells⟩:=HY.o 0 y hy;obtain⟨rfl,rfl⟩:=jk hv;have⟨q0,q1,q2,q3⟩:=hcells wr HG.o.bx.1;simp only[Nat.zero_mul,Nat.add_zero]at q0 q1 q2 q3;have tS:Hd (∀W,xC 20 #[y.skip,xI 3] W (j7 (xI (bW y.skip 3:Int)) W)):=λW=>lX y.skip 3 W hI.2.2.1 (by omega) (by omega);have hps:=dJ y.skip 3 (by omega);obtain⟨yy,yv,yw,yk⟩:=y;dsimp only at*;generalize bW yk 3=sk at*;have z1:IntKind.i64.wrap ((i:Int)+1+(sk:Int))=(i:Int)+1+(sk:Int):=aw _ (by omega);have z9:(0:Int)<(yl:Int):=by omega
 have z10:0<yl:=by omega
 have f3:=aY HG.o.blk 3;clear hv hbl hvv hI hcells hy hgo;rcases hex with hex|⟨hex,qcc⟩;all_goals
  go_upto_region 13 with fail;go_cut [](λwx=>Hd (mV M w (vi (xL xa xl xc) (xL (b,off) yl yc) (xL za zl zc)) o1 K (xL la ll lc) (xL a i cap) (xL ra rl rc) ls os rs ((i:Int)+1+(sk:Int)) j wx))
  .go_region_law(first
    |(go_simp;go_at_call 20;refine ey (tS.o _) ?_));all_goals(go_wp2;go_meet)
   all_goals first
    |exact((HG.o.aT eH.drew).num _)
    |exact((HG.o.num _).aT eH.drew)
  have Tv:=hcut;have⟨wx,hwx⟩:=dd (wc);subst hwx;clear q0 q1 q2 q3 x0 x1 x2 f3 k0 k1 k2 k3;have hb1:=Tv.o.bx.cZ rfl;rw[rU.o]at hb1;have⟨r0,r1,r2,r3⟩:=aU hb1;have⟨g0,g1,g2,g3⟩:=iS hb1;clear hb1;have⟨k0,k1,k2,k3⟩:=aU Tv.o.blk;have po:Hd (∀W',W'=(((wx.setCell ([w],0) (xL la ll lc)).setCell ([w],1) (xL a i cap)).setCell ([w],2) (xL ra rl rc)).setCell ([w],3) (xI ((i:Int)+1+(sk:Int)))->_):=λW' hW'=>Tv.o.fin Da.o.1 HSF.o (by have:=Rw.o;omega) HID.o hj5 (by have:=Rw.o;omega) W' hW';go_wp2_with fail;exact ah (v:= .agg #[xL la ll lc,xL a i cap,xL ra rl rc,xI ((i:Int)+1+(sk:Int))]) (by simp[results,results5,go_sem,r0,r1,r2,r3,g0,g1,g2,g3]) rfl (by have⟨⟨x',l',o',r',e1,e2,e3,e4,e5⟩,e6⟩:=po.o _ rfl;first|exact⟨_,rfl,⟨x',l',o',r',e1,e2,e3,e4,e5⟩,e6⟩|exact⟨_,rfl,⟨x',e1,l',o',r',e2,e3,e4,e5⟩,e6⟩)
end
end Go.Proofs.YtpjdjlnknfmfkaaGreatDoor
