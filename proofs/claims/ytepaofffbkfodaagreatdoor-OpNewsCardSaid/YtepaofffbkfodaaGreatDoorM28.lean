/- A part; no condition. -/
import Derived.Test.YtepaofffbkfodaaGreatDoorM14
import Derived.Test.YtepaofffbkfodaaGreatDoorM16
set_option linter.all false
set_option maxHeartbeats 8000000
set_option maxRecDepth 100000
namespace Go.Proofs.YtepaofffbkfodaaGreatDoor
open Go.Proofs.Tryz
variable{cur:Array aA}{W w W':ax}{t:TypeId}{K g:Nat}{id:Int}{o0 o1 o2:Obj}{fv:aA}{nm:aY}
section
open Go.RowKit
def zt {vs:List aA}(h:bW W K (.cells cur t (0,0)))(hl:cur.size=vs.length):(W.setCells K 0 vs).heap[K]? =some (.cells vs.toArray t (0,0)):=by
 have⟨cur',g1,g2,g3⟩:=mj K t vs 0 W cur h (by omega);have:cur'=vs.toArray:=by
  apply Array.toList_inj.1;simp only[Nat.zero_add,List.take_zero,List.nil_append]at g3;rw[Qah (by rw[Array.length_toList,g2,hl];exact bT)]at g3;exact g3
 rw[g1,this]
theorem pC(K:Nat):∀(vs:List aA)(o:Nat){w W:ax},ao (λi=>i=K) w W->ao (λi=>i=K) w (W.setCells K o vs)
 |[],_,_,_,h=>h
 |v::r,o,_,_,h=>pC K r (o+1) (h.setCell (p:=(K,o)) (.inl rfl) v)
def L4 {n:Nat}(h:bW W K (.cells cur t (0,0)))(hn:n<=cur.size):W.there K 0 n:=λj hj=>by
 rw[Nat.zero_add];exact⟨by simp[World.cell?,h];omega,aj h j⟩
def B8:(Tryz.prog.info? 53).map (·.size)=some 19:=by kernel_rfl
def Pq {k:Int}{c n:aY}{vv:aA}{dn:aY}{df:aA}(h:bW W g (gU k id c n vv dn df)):W.rangeAt g 0 [xI k,xI id,xS c,xS n,xI 0,xI 0,"",(),vv,xS dn,df,xI 0,"","","",xI 0,xI 0,"",""]:=λj v hv=>by
 rw[Nat.zero_add];unfold gU at h;simp only[World.cell?,h];simpa using hv
def Il {op:Oper}{a:Act}{K:Act->ax->Prop}{Q:Exit->Act->ax->Prop}(x:Operand)(ho:op.op= .load 53 x)(b:Nat)(hx:a.eval x=xP b){k:Int}{c n:aY}{vv:aA}{dn:aY}{df:aA}(h:bW w b (gU k id c n vv dn df))
 (hk:K (a.put op.dst (yr k id c n vv dn df)) w):op.wp prog a w K Q:=
 wp_load_mid 53 x ho b 0 hx _ _ (Pq h) underlying53 rfl B8 hk
def dC {ops:Array Oper}{rest:List Oper}{op:Oper}{a:Act}{Q:Exit->Act->ax->Prop}(hw:Region.wanted op (yielded ops a.tmps)=true)(x:Operand)(ho:op.op= .load 53 x)(b:Nat)(hx:a.eval x=xP b){k:Int}{c n:aY}{vv:aA}{dn:aY}{df:aA}(h:bW w b (gU k id c n vv dn df))
 (hk:wpList prog ops Q rest (a.put op.dst (yr k id c n vv dn df)) w):wpList prog ops Q (op::rest) a w:=
 wpList_step λK hK=>by rw[if_pos hw];exact Il x ho b hx h (hK _ _ hk)
def fX {ops:Array Oper}{rest:List Oper}{op:Oper}{a:Act}{Q:Exit->Act->ax->Prop}(hg:op.guard=none)(x y:Operand)(ho:op.op= .store 53 x y)(b:Nat)(hx:a.eval x=xP b){k k' id':Int}{c n c' n':aY}{vv vv':aA}{dn dn':aY}{df df':aA}(hy:a.eval y=yr k id c n vv dn df)(h1:vv.oneCell'=true)(h2:df.oneCell'=true)(h0:bW w b (gU k' id' c' n' vv' dn' df'))
 (h:∀W,bW W b (gU k id c n vv dn df)->ao (λi=>i=b) w W->wpList prog ops Q rest (a.put op.dst undef) W):wpList prog ops Q (op::rest) a w:=
 wpList_store_mid hg 53 x y ho b 0 _ hx hy (L4 h0 bT) B8 (by simp[Value.oneCell']at h1 h2⊢;exact⟨h1,h2⟩) (h _ (zt h0 rfl) (pC b _ 0 (ao.refl _ _)))
def sL(h:Bx w [o0,o1] W)(h1:W'.heap[w.heap.size+1]? =some o2)(ho:ao (λi=>i=[w]) W W'):Bx w [o0,o2] W':=by
 have h2:=h.bQ;have h3:=ho.size;simp at h2;refine⟨bq h.1 h.1.size ho (λi hi=>by omega),by simp;omega,λi o hi=> ?_⟩;match i,hi with
 |0,hi=>
  simp at hi;subst hi;exact(ho.block _ (by omega) (by omega)).trans (h.bO rfl)
 |1,hi=>
  simp at hi;subst hi;exact h1
 |i+2,hi=>simp at hi
def vY {k k':Int}{c n:aY}{vv:aA}{dn:aY}{df:aA}(h:Bx w [o0,gU k id c n vv dn df] W):
 Bx w [o0,gU k' id c n vv dn df] (W.setCell ([w],0) k'):=by
 have:=h.set 1 0 (v:=xI k') rfl;simpa [gU]using this
def sM(id:Int)(h:1<=id/\id<=100000)(w:ax):xC 15 #[yr 7 id () () () () ()] w (cu true w):=by
 have WY:=gQ (w:=w) (λW _=>qe 7 id () () () () () W (Tt.nil W));obtain⟨h1,h2⟩:=h;have sU:∀W,(Instr.build 53 #[(1,xI id)]).run prog W= .ok (.agg #[xI 0,id,"","",xI 0,xI 0,"",(),(),"",(),xI 0,"","","",xI 0,xI 0,"",""]) W:=λW=>run_build W _ _ _ (by kernel_rfl);have HX:=ag (Bx.du w (gU 7 id () () () () ()) (gU 0 0 () () () () ()));go_enter func15,ntmps15;go_upto_region 2 with fail;have⟨W1,hW1⟩:=bY ((w.alloc (gU 7 id () () () () ())).alloc (gU 0 0 () () () () ()));rw[<-hW1]at HX;unfold gU at hW1;rw[<-hW1];clear hW1;obtain⟨a0,a1,a2,a3,-,-,-,-,a8,a9,zN,-,-,-,-,-,-,-,-⟩:=bM (HX.o.bO rfl);go_upto_region 27 with fail;iterate 10 go_step
 refine fX rfl (.tmp 3) (.tmp 104) rfl _ rfl rfl rfl rfl (HX.o.cg rfl) λW2 h2 o2=> ?_;have HY:=ag (sL HX.o h2 o2);clear h2 o2 a0 a1 a2 a3 a8 a9 zN;obtain⟨a0,a1,a2,a3,-,-,-,-,a8,a9,zN,-,-,-,-,-,-,-,-⟩:=bM (HY.o.bO rfl);have f0:=aj (HY.o.cg rfl) 0;have b0:=(bM (HY.o.cg rfl)).c0;go_upto_region 30 with fail;have⟨W3,hW3⟩:=bY (W2.setCell ([w],0) (xI 7));have HZ:=ag (show Bx w [gU 7 id () () () () (),gU 7 id () () () () ()] W3 by rw[hW3];exact vY HY.o);rw[<-hW3];clear hW3 f0 b0;clear a0 a1 a2 a3 a8 a9 zN;go_wp2_with(first|(refine dC rfl (.tmp 1) rfl w rfl (HZ.o.bO rfl) ?_)|(refine dC rfl (.tmp 3) rfl [w] rfl (HZ.o.cg rfl) ?_));refine cC (WY.o _ HZ.o.1) λw9 vu=> ?_;have HF:=ag (HZ.o.ae vu);clear vu;go_wp2;go_ret;exact⟨rfl,HF.o.1⟩
def sN(id:Int)(n:aY)(h:aM n=true)(hi:(1<=id/\id<=100000)\/(-20<=id/\id<=-1))(w:ax):xC 15 #[yr 3 id () n () () ()] w (cu true w):=by
 have WY:=gQ (w:=w) (λW _=>qe 3 id () n () () () W (Tt.nil W));have HN:Hd (∀W,_):=λW=>AQ n h W;have HI:Hd (∀W,_):=λW=>R9 id hi W;clear h hi;have sU:∀W,(Instr.build 53 #[(1,xI id),(3,xS n)]).run prog W= .ok (.agg #[xI 0,id,"",n,xI 0,xI 0,"",(),(),"",(),xI 0,"","","",xI 0,xI 0,"",""]) W:=λW=>run_build W _ _ _ (by kernel_rfl);have HX:=ag (Bx.du w (gU 3 id () n () () ()) (gU 0 0 () () () () ()));go_enter func15,ntmps15;go_upto_region 2 with fail;have⟨W1,hW1⟩:=bY ((w.alloc (gU 3 id () n () () ())).alloc (gU 0 0 () () () () ()));rw[<-hW1]at HX;unfold gU at hW1;rw[<-hW1];clear hW1;obtain⟨a0,a1,a2,a3,-,-,-,-,a8,a9,zN,-,-,-,-,-,-,-,-⟩:=bM (HX.o.bO rfl);go_upto_region 11 with fail;iterate 16 go_step
 refine fX rfl (.tmp 3) (.tmp 52) rfl _ rfl rfl rfl rfl (HX.o.cg rfl) λW2 h2 o2=> ?_;have HY:=ag (sL HX.o h2 o2);clear h2 o2 a0 a1 a2 a3 a8 a9 zN;obtain⟨a0,a1,a2,a3,-,-,-,-,a8,a9,zN,-,-,-,-,-,-,-,-⟩:=bM (HY.o.bO rfl);go_wp2_with fail;refine dw (HI.o _) ?_;go_wp2_with fail;refine dw (HN.o _) ?_;have f0:=aj (HY.o.cg rfl) 0;have b0:=(bM (HY.o.cg rfl)).c0;go_upto_region 30 with fail;have⟨W3,hW3⟩:=bY (W2.setCell ([w],0) (xI 3));have HZ:=ag (show Bx w [gU 3 id () n () () (),gU 3 id () n () () ()] W3 by rw[hW3];exact vY HY.o);rw[<-hW3];clear hW3 f0 b0;clear a0 a1 a2 a3 a8 a9 zN;go_wp2_with(first|(refine dC rfl (.tmp 1) rfl w rfl (HZ.o.bO rfl) ?_)|(refine dC rfl (.tmp 3) rfl [w] rfl (HZ.o.cg rfl) ?_));refine cC (WY.o _ HZ.o.1) λw9 vu=> ?_;have HF:=ag (HZ.o.ae vu);clear vu;go_wp2;go_ret;exact⟨rfl,HF.o.1⟩
def qhd(c:aY)(h:aM c=true)(l:List aJ)(hf:∀y∈l,og y)(hr:∀y∈l,Pp y)(hl:l.length<=8)(M:aV)(v:aA)(w:ax)(hT:Tb w)(hs:ab M w v l):xC 15 #[yr 1 0 c () v () ()] w (cu true w):=by
 have hs':=hs;obtain⟨va,vc,rfl,_⟩:=hs'.aq;have WY:=gQ (w:=w) (λW hb=>qe 1 0 c () (xL va l.length vc) () () W (Tt.list (hs.ae hb) hf (by omega)));have HN:Hd (∀W,_):=λW=>AQ c h W;have HV:=gQ (w:=w) (λW hb=>B7 l hr hl M W (hT.ae hb) (xL va l.length vc) (hs.ae hb));generalize l.length=ln at*;clear h hs hs' hf hr hT;have sU:∀W,(Instr.build 53 #[(2,xS c),(5,xL va ln vc)]).run prog W= .ok (.agg #[xI 0,xI 0,c,"",xI 0,xI 0,"",(),(xL va ln vc),"",(),xI 0,"","","",xI 0,xI 0,"",""]) W:=λW=>run_build W _ _ _ (by kernel_rfl);have HX:=ag (Bx.du w (gU 1 0 c () (xL va ln vc) () ()) (gU 0 0 () () () () ()));go_enter func15,ntmps15;go_upto_region 2 with fail;have⟨W1,hW1⟩:=bY ((w.alloc (gU 1 0 c () (xL va ln vc) () ())).alloc (gU 0 0 () () () () ()));rw[<-hW1]at HX;unfold gU at hW1;rw[<-hW1];clear hW1;obtain⟨a0,a1,a2,a3,-,-,-,-,a8,a9,zN,-,-,-,-,-,-,-,-⟩:=bM (HX.o.bO rfl);go_upto_region 5 with fail;iterate 16 go_step
 refine fX rfl (.tmp 3) (.tmp 15) rfl _ rfl rfl rfl rfl (HX.o.cg rfl) λW2 h2 o2=> ?_;have HY:=ag (sL HX.o h2 o2);clear h2 o2 a0 a1 a2 a3 a8 a9 zN;obtain⟨a0,a1,a2,a3,-,-,-,-,a8,a9,zN,-,-,-,-,-,-,-,-⟩:=bM (HY.o.bO rfl);go_wp2_with fail;refine dw (HN.o _) ?_;go_wp2_with fail;refine cC (HV.o _ HY.o.1) λw3 hb3=> ?_;have HY:=ag (HY.o.ae hb3);clear hb3 a0 a1 a2 a3 a8 a9 zN;obtain⟨a0,a1,a2,a3,-,-,-,-,a8,a9,zN,-,-,-,-,-,-,-,-⟩:=bM (HY.o.bO rfl);have f0:=aj (HY.o.cg rfl) 0;have b0:=(bM (HY.o.cg rfl)).c0;go_upto_region 30 with fail;have⟨W3,hW3⟩:=bY (w3.setCell ([w],0) (xI 1));have HZ:=ag (show Bx w [gU 1 0 c () (xL va ln vc) () (),gU 1 0 c () (xL va ln vc) () ()] W3 by rw[hW3];exact vY HY.o);rw[<-hW3];clear hW3 f0 b0;clear a0 a1 a2 a3 a8 a9 zN;go_wp2_with(first|(refine dC rfl (.tmp 1) rfl w rfl (HZ.o.bO rfl) ?_)|(refine dC rfl (.tmp 3) rfl [w] rfl (HZ.o.cg rfl) ?_));refine cC (WY.o _ HZ.o.1) λw9 vu=> ?_;have HF:=ag (HZ.o.ae vu);clear vu;go_wp2;go_ret;exact⟨rfl,HF.o.1⟩
def B9(w:ax):xC 15 #[yr 0 0 () () () () ()] w (cu false w):=by
 have HX:=ag (Bx.du w (gU 0 0 () () () () ()) (gU 0 0 () () () () ()));go_enter func15,ntmps15;go_upto_region 2 with fail;have⟨W1,hW1⟩:=bY ((w.alloc (gU 0 0 () () () () ())).alloc (gU 0 0 () () () () ()));rw[<-hW1]at HX;unfold gU at hW1;rw[<-hW1];clear hW1;have a0:=(bM (HX.o.bO rfl)).c0;have b0:=(bM (HX.o.cg rfl)).c0;have f0:=aj (HX.o.cg rfl) 0;go_wp2;go_ret;exact⟨rfl,HX.o.1.setCell (p:=⟨[w],0,none⟩) (by simp) _⟩
end
section
open Go.RowKit Go.Shelf
def Mm(n:Int)(w:ax):xC 309 #[n,n] w (jt (xI 0) w):=by
 go_enter func309,ntmps309;go_wp2;go_ret;exact⟨rfl,rfl⟩
def Mn(k n:Int)(s:aY)(a b:fx)(c d:Nat)(w:ax):xC 269 #[.agg #[k,n,s,xL a 0 c], .agg #[k,n,s,xL b 0 d]] w (cu (xI 0) w):=by
 have HX:=ag (Bx.du w (xK #[k,n,s,xL a 0 c] 44) (xK #[k,n,s,xL b 0 d] 44));have hir:=qG s;have HO:=ag Mm;go_enter func269,ntmps269;go_upto_region 1 with fail;have⟨W1,hW1⟩:=bY ((w.alloc (xK #[k,n,s,xL a 0 c] 44)).alloc (xK #[k,n,s,xL b 0 d] 44));rw[<-hW1]at HX;rw[<-hW1];clear hW1;have⟨c0,c1,c2,c3⟩:=af (HX.o.bO rfl);have⟨d0,d1,d2,d3⟩:=af (HX.o.cg rfl);go_wp2_with fail;refine dw (HO.o _ _) ?_;go_wp2_with fail;refine dw (HO.o _ _) ?_;go_wp2;go_loopg [5,6]0(λgg v5 v6 wr=>gg=0/\v5=xI 0/\v6=xI 0/\wr=W1);case atStart=>exact⟨rfl,rfl,rfl,rfl⟩
 case round=>
  obtain⟨rfl,rfl,rfl,rfl⟩:=hrel;go_wp2_with fail;refine dw (HO.o _ _) ?_;go_wp2;go_ret;exact⟨rfl,HX.o.1⟩
def PQ(k n:Int)(s:aY)(a b:fx)(c d:Nat)(w:ax):xC 235 #[.agg #[k,n,s,xL a 0 c], .agg #[k,n,s,xL b 0 d]] w (cu true w):=by
 have HX:=ag (Bx.du w (xK #[k,n,s,xL a 0 c] 44) (xK #[k,n,s,xL b 0 d] 44));have⟨c0,c1,c2,c3⟩:=af (HX.o.bO rfl);have⟨d0,d1,d2,d3⟩:=af (HX.o.cg rfl);go_enter func235,ntmps235;go_wp2_with fail;refine cC (Mn _ _ _ _ _ _ _ _) λw' hb=> ?_;have HB:=ag (HX.o.ae hb);go_wp2;go_ret;exact⟨rfl,HB.o.1⟩
def PR(l:List aJ)(hf:∀y∈l,og y)(hl:l.length<=20)(M:aV)(w:ax)(v u:aA)(hs:ab M w v l)(hu:ab M w u l):
 xC 163 #[v,u] w (cu true w):=by
 have HV:Hd (∀(i:Nat)k n s ll,l[i]? =some (.mk k n s ll)->_):=λi k n s ll hx=>dy hs hx;have HU:Hd (∀(i:Nat)k n s ll,l[i]? =some (.mk k n s ll)->_):=λi k n s ll hx=>dy hu hx;have HF:=ag hf;obtain⟨a,cj,rfl,cY,hmx,_⟩:=hs.aq;obtain⟨ua,qe3,rfl,-⟩:=hu.aq;generalize hn:l.length=n at*;have HN:=ag hn;go_enter func163,ntmps163;go_wp2;go_loopg [4,5]n(λg r4 iv wr=>∃i:Nat,i<=n/\g=n-i/\iv=xI i/\r4=xB false/\Hd (aC w wr));case atStart=>exact⟨0,Qbf _,rfl,rfl,rfl,ag dS⟩
 case round=>
  obtain⟨i,hi,rfl,rfl,rfl,HB⟩:=hrel;rename World=>wr;by_cases bH:i<n
  .have⟨y,hy⟩:=eG l i (by rw[HN.o];exact bH);obtain⟨vk,vn,vs,rfl⟩:=HF.o y (Qaf hy);have⟨b,off,cap,za,zc,hv,hbl,hsl,_,hcells⟩:=HV.o i vk vn vs [] hy;obtain⟨rfl,rfl⟩:=iY hv;have⟨b2,off2,cap2,za2,zc2,hv2,hbl2,hsl2,_,hcells2⟩:=HU.o i vk vn vs [] hy;obtain⟨rfl,rfl⟩:=iY hv2;have lM:=ag hcells;have HCU:=ag hcells2;have i0:(0:Int)<=(i:Int):=Qba _;have i1:(i:Int)<(n:Int):=by omega
   have HK:Hd (∀V,aC wr V->(bJ V b (off+i*4) vk/\bJ V b (off+i*4+1) vn/\bJ V b (off+i*4+2) vs/\bJ V b (off+i*4+3) (xL za 0 zc))/\(bJ V b2 (off2+i*4) vk/\bJ V b2 (off2+i*4+1) vn/\bJ V b2 (off2+i*4+2) vs/\bJ V b2 (off2+i*4+3) (xL za2 0 zc2))):=λV hb=>by
    have h1:=(lM.o V (HB.o.trans (hb.mono HB.o.size))).1;have h2:=(HCU.o V (HB.o.trans (hb.mono HB.o.size))).1;rw[Qcd]at h1 h2;exact⟨h1,h2⟩
   go_upto_region 6 with fail;go_cut [26](λs25 wx=>s25=xB false/\Hd (aC w wx));case first=>
    refine ir (by kernel_rfl) (by kernel_rfl) λι _ F jM yW=> ?_;have s0:=λi=>(HK.o (F i) (jM i)).1.1;have s1:=λi=>(HK.o (F i) (jM i)).1.2.1;have s2:=λi=>(HK.o (F i) (jM i)).1.2.2.1;have s3:=λi=>(HK.o (F i) (jM i)).1.2.2.2;have t0:=λi=>(HK.o (F i) (jM i)).2.1;have t1:=λi=>(HK.o (F i) (jM i)).2.2.1;have t2:=λi=>(HK.o (F i) (jM i)).2.2.2.1;have t3:=λi=>(HK.o (F i) (jM i)).2.2.2.2;have jq:=ag jM;have yL:=ag yW;repeat(go_big_quiet_step((go_at_call 235;refine cC (PQ _ _ _ _ _ _ _ _) λw3 hb3=> ?_;exact⟨rfl,yL.o _ ((jq.o _).trans (hb3.mono (jq.o _).size))⟩)))
    refine wpQuiet_nil ?_;rintro _⟨nq,rfl⟩;go_wp2;go_meet;exact⟨rfl,ag (HB.o.trans ((jq.o _).mono HB.o.size))⟩
   case rest=>
    obtain⟨rfl,bV⟩:=hcut;go_wp2;go_roundg(n-(i+1));case measure=>omega
    case rel=>exact⟨i+1,by omega,rfl,by go_num,rfl,bV⟩
  .obtain rfl:i=n:=by omega
   go_wp2;go_ret;exact⟨rfl,HB.o⟩
def Mo(o:bF)(hf:∀y∈o.aZ,og y)(hl:o.aZ.length<=20)(M:aV)(w:ax)(v u:aA)(hs:ab M w v o.aZ)(hu:ab M w u o.aZ):
 xC 97 #[.agg #[o.id,o.cL,o.cQ,v], .agg #[o.id,o.cL,o.cQ,u]] w (cu true w):=by
 have HV:=gQ (w:=w) (λW hb=>PR o.aZ hf hl M W v u (hs.ae hb) (hu.ae hb));obtain⟨va,vc,rfl,-⟩:=hs.aq;obtain⟨ua,uc,rfl,-⟩:=hu.aq;generalize o.aZ.length=n at*;have HX:=ag (Bx.du w (xK #[o.id,o.cL,o.cQ,xL va n vc] 66) (xK #[o.id,o.cL,o.cQ,xL ua n uc] 66));have⟨c0,c1,c2,c3⟩:=af (HX.o.bO rfl);have⟨d0,d1,d2,d3⟩:=af (HX.o.cg rfl);go_enter func97,ntmps97;go_wp2_with fail;refine cC (HV.o _ HX.o.1) λw' hb=> ?_;have HB:=ag (HX.o.ae hb);go_wp2;go_ret;exact⟨rfl,HB.o.1⟩
def Mp(s:aY)(a b:fx)(c d:Nat)(w:ax):xC 98 #[.agg #[s,xL a 0 c], .agg #[s,xL b 0 d]] w (cu true w):=by
 have HX:=ag (Bx.du w (xK #[s,xL a 0 c] 47) (xK #[s,xL b 0 d] 47));go_enter func98,ntmps98;go_upto_region 1 with fail;have⟨W1,hW1⟩:=bY ((w.alloc (xK #[s,xL a 0 c] 47)).alloc (xK #[s,xL b 0 d] 47));rw[<-hW1]at HX;rw[<-hW1];clear hW1;have⟨c0,c1⟩:=ak (HX.o.bO rfl);have⟨d0,d1⟩:=ak (HX.o.cg rfl);go_wp2;go_loopg [4,5]0(λgg v4 v5 wr=>gg=0/\v4=xB false/\v5=xI 0/\wr=W1);case atStart=>exact⟨rfl,rfl,rfl,rfl⟩
 case round=>
  obtain⟨rfl,rfl,rfl,rfl⟩:=hrel;go_wp2;go_ret;exact⟨rfl,HX.o.1⟩
def Mq(w:ax):xC 99 #[.agg #[xI 0,"","","",xI 0,xI 0,"",""], .agg #[xI 0,"","","",xI 0,xI 0,"",""]] w (cu true w):=by
 have heq:∀w,(Op.equal 51 L3 L3).run prog w= .ok true w:=λw=>by kernel_rfl
 unfold L3 at heq;have HX:=ag (Bx.du w (xK #[xI 0,"","","",xI 0,xI 0,"",""] 51) (xK #[xI 0,"","","",xI 0,xI 0,"",""] 51));have⟨c0,c1,c2,c3,c4,c5,c6,c7⟩:=aB (HX.o.bO rfl);have⟨d0,d1,d2,d3,d4,d5,d6,d7⟩:=aB (HX.o.cg rfl);go_enter func99,ntmps99;go_wp2;go_ret;exact⟨rfl,HX.o.1⟩
abbrev Y8(k:Int)(o:bF)(id:Int)(nm:aY)(vv fv:aA):aA:= .agg #[k,o.id,o.cL,o.cQ,vv,id,xI 0,nm,"",fv,xI 0,"","","",xI 0,xI 0,"",""]
def Vp(k:Int)(o:bF)(id:Int)(nm:aY)(vv fv:aA):Obj:=xK #[k,o.id,o.cL,o.cQ,vv,id,xI 0,nm,"",fv,xI 0,"","","",xI 0,xI 0,"",""] 75
structure RzC(W:ax)(g:Nat)(k:Int)(o:bF)(id:Int)(nm:aY)(vv fv:aA):Prop where
 c0:W.cell? (g,0)=some (xI k)
 c1:W.cell? (g,1)=some (xI o.id)
 c2:W.cell? (g,2)=some (xI o.cL)
 c3:W.cell? (g,3)=some (xI o.cQ)
 c4:W.cell? (g,4)=some vv
 c5:W.cell? (g,5)=some (xI id)
 c6:W.cell? (g,6)=some (xI 0)
 c7:W.cell? (g,7)=some (xS nm)
 c8:W.cell? (g,8)=some (xS ())
 c9:W.cell? (g,9)=some fv
 c10:W.cell? (g,10)=some (xI 0)
 c11:W.cell? (g,11)=some (xS ())
 c12:W.cell? (g,12)=some (xS ())
 c13:W.cell? (g,13)=some (xS ())
 c14:W.cell? (g,14)=some (xI 0)
 c15:W.cell? (g,15)=some (xI 0)
 c16:W.cell? (g,16)=some (xS ())
 c17:W.cell? (g,17)=some (xS ())
def kg {k:Int}{o:bF}{vv:aA}(h:bW W g (Vp k o id nm vv fv)):RzC W g k o id nm vv fv:=by
 unfold Vp at h;constructor<;>simp[World.cell?,h]
def Mr(k:Int)(o:bF)(id:Int)(nm:aY)(hf:∀y∈o.aZ,og y)(hl:o.aZ.length<=20)(M:aV)(w:ax)(v u:aA)(a b:fx)(c d:Nat)(hs:ab M w v o.aZ)(hu:ab M w u o.aZ):
 xC 40 #[Y8 k o id nm v (xL a 0 c),Y8 k o id nm u (xL b 0 d)] w (cu true w):=by
 have HV:=gQ (w:=w) (λW hb=>Mo o hf hl M W v u (hs.ae hb) (hu.ae hb));have HC:=ag (Mp () a b c d);have HD:=ag Mq;obtain⟨va,vc,rfl,-⟩:=hs.aq;obtain⟨ua,uc,rfl,-⟩:=hu.aq;clear hs hu hf hl;generalize o.aZ.length=n at*;have HX:=ag (Bx.du w (Vp k o id nm (xL va n vc) (xL a 0 c)) (Vp k o id nm (xL ua n uc) (xL b 0 d)));go_enter func40,ntmps40;go_upto_region 1 with fail;have⟨W1,hW1⟩:=bY ((w.alloc (Vp k o id nm (xL va n vc) (xL a 0 c))).alloc (Vp k o id nm (xL ua n uc) (xL b 0 d)));rw[<-hW1]at HX;unfold Vp at hW1;rw[<-hW1];clear hW1;obtain⟨a0,a1,a2,a3,a4,a5,a6,a7,-,-,-,-,-,-,-,-,-,-⟩:=kg (HX.o.bO rfl);obtain⟨b0,b1,b2,b3,b4,b5,b6,b7,-,-,-,-,-,-,-,-,-,-⟩:=kg (HX.o.cg rfl);go_wp2_with fail;refine cC (HV.o _ HX.o.1) λw1 hb1=> ?_;have eZ:=ag (HX.o.ae hb1);clear hb1 a0 a1 a2 a3 a4 a5 a6 a7 b0 b1 b2 b3 b4 b5 b6 b7;have a8:=(kg (eZ.o.bO rfl)).c8;have b8:=(kg (eZ.o.cg rfl)).c8;have a9:=(kg (eZ.o.bO rfl)).c9;have b9:=(kg (eZ.o.cg rfl)).c9;go_wp2_with fail;refine cC (HC.o _) λw2 bE=> ?_;have ky:=ag (eZ.o.ae bE);clear bE a8 b8 a9 b9;obtain⟨-,-,-,-,-,-,-,-,-,-,zN,a11,a12,a13,a14,a15,a16,a17⟩:=kg (ky.o.bO rfl);obtain⟨-,-,-,-,-,-,-,-,-,-,b10,b11,b12,b13,b14,b15,b16,b17⟩:=kg (ky.o.cg rfl);go_wp2_with fail;refine cC (HD.o _) λw3 hb3=> ?_;have nQ:=ag (ky.o.ae hb3);clear hb3;go_wp2;go_ret;exact⟨rfl,nQ.o.1⟩
def IK(xs:List ib)(ys:List jO)(zs:List jY)(M:aV)(w:ax)(hM:Bd M w)(xv yv zv:aA)(hx:ab M w xv xs)(hy:ab M w yv ys)(hz:ab M w zv zs):
 xG 6 #[.agg #[xv,yv,zv]] w λu w'=>∃(x:aW)(lv ov rv:aA),xj x/\u= .agg #[lv,ov,rv,x.next]/\ab M w' lv x.aK/\ab M w' ov x.aP/\ab M w' rv x.aF:=by
 have⟨i0,hi0,hz0,hz1,hz2⟩:=info_parts K3;have lF:=ag hM;have HY:Hd (∀k r,ys[k]? =some r->_):=λk r h=>Dt hy h;have HZ:Hd (∀k r,zs[k]? =some r->_):=λk r h=>Du hz h;have CD:Hd (∀W,Bx w [uL xv yv zv,M7 () () () 0] W->_):=λW hB=>Dl xs (dX M w 2) W (dt hM hB.bQ) xv (hx.ev (dj hB.1));obtain⟨xa,xc,rfl,_⟩:=hx.aq;obtain⟨ya,yc,rfl,hyc,hym,_⟩:=hy.aq;obtain⟨za,zc,rfl,hzc,hzm,_⟩:=hz.aq;clear hx hy hz hM;generalize hxl:xs.length=xl at*;generalize hyl:ys.length=yl at*;generalize hzl:zs.length=zl at*;have HYL:=ag hyl;clear hyl;have HZL:=ag hzl;clear hzl;clear hxl;have⟨n,hn⟩:=bY (min yl 10);have qd4:n<=10:=by omega
 have hny:n<=yl:=by omega
 have qhb:min (yl:Int) 10=(n:Int):=by omega
 have qff:(if(yl:Int)<=10 then(yl:Int)else 10)=(n:Int):=by split<;>omega
 have qfg:(if(yl:Int)<10 then(yl:Int)else 10)=(n:Int):=by split<;>omega
 have qfh:(if(10:Int)<(yl:Int)then(10:Int)else(yl:Int))=(n:Int):=by split<;>omega
 clear hn;go_enter func6,ntmps6;go_wp2_with fail;refine(CD.o _ (Bx.du w _ _)).mono ?_;rintro e w1⟨_,rfl,⟨ls,vO,uj,lv,rfl,zJ⟩,hb1⟩;have qe9:=zJ;obtain⟨la,lc,rfl,_⟩:=qe9.aq;have bz:=ag ((Bx.du w (uL (xL xa xl xc) (xL ya yl yc) (xL za zl zc)) (M7 () () () 0)).ae hb1);have XT:=ag zJ;have CM:Hd (dF ls/\ls≠[]):=⟨vO,List.length_pos_iff.1 uj.1⟩;have HSF:=ag uj.2;have s1:=bz.o.bQ;simp only[Qcc,Qcd]at s1;clear hb1 zJ vO uj;generalize T5:ls.length=ll at*;clear T5;have⟨o1,ho1⟩:=bY (M7 () () () 0);rw[<-ho1]at bz;have q9:=ag ho1;clear ho1;have x0:=λo=>aO ((bz.o.alloc o).bO rfl);go_upto_region 3 with fail;have⟨K,hK⟩:=bY (w1.heap.size);have⟨W1,hW1⟩:=bY (w1.alloc (M7 (xL la ll lc) () () 1));have Fx:=ag (show lh M w w1 (uL (xL xa xl xc) (xL ya yl yc) (xL za zl zc)) o1 K (xL la ll lc) ls (n:Int) 0 0 none [] (((0:Nat):Int)+1) W1 by
  rw[hW1];exact⟨rfl,λj o h=>by simp at h,by rw[hK];exact Qbh w1 _,aS.nil _ _ _ _,XT.o,dS.alloc (Nat.le_of_eq hK) _,hK,bz.o.alloc _,by omega⟩);unfold M7 at hW1;rw[<-hW1,<-hK];clear hW1 hK bz XT x0;go_wp2;go_loopg [5]n(λg iv wr=>∃(i cap:Nat)(a:fx)(os:List bF),i<=n/\g=n-i/\iv=xI i/\Hd (lh M w w1 (uL (xL xa xl xc) (xL ya yl yc) (xL za zl zc)) o1 K (xL la ll lc) ls (n:Int) i cap a os ((i:Int)+1) wr));case atStart=>exact⟨0,0,none,[],Qbf _,rfl,rfl,Fx⟩
 case round=>
  obtain⟨i,cap,a,os,hi,rfl,rfl,HS⟩:=hrel;have⟨x0,x1,x2⟩:=aO (HS.o.bx.bO rfl);by_cases bH:i<n
  .have⟨y,hy⟩:=eG ys i (by rw[HYL.o];omega);have⟨b,off,cap',vv,hv,hbl,hvv,hI,hcells⟩:=HY.o i y hy;obtain⟨rfl,rfl⟩:=iY hv;have⟨q0,q1,q2,q3⟩:=hcells wr HS.o.bx.1;have⟨k0,k1,k2,k3⟩:=af HS.o.blk;have f1:=aj HS.o.blk 1;have Q2:=HS.o.lt;have VY:=HS.o.hK;have SX:=ag (λ(W:ax)(hb:aC wr W)=>Dr ls CM.o.1 (List.length_pos_iff.2 CM.o.2) y ⟨hI.1,hI.2.1,hI.2.2.2⟩ ((i:Int)+1) (n:Int) (by omega) (bu (xL a i cap) (qZ M w K)) W ((HS.o.ae hb).bd lF.o) (xL la ll lc) vv (HS.o.ls0.ev (HS.o.ae hb).ev1) (hvv.ev (HS.o.ae hb).ev0));have qfa:=hvv;obtain⟨va,vc,rfl,_⟩:=qfa.aq;obtain⟨yy,yv,yw,yk⟩:=y;dsimp only at*;have z1:IntKind.i64.wrap ((i:Int)+1)=(i:Int)+1:=Qbe _ (by omega);have z2:IntKind.i64.wrap ((i:Int)+2)=(i:Int)+2:=Qbe _ (by omega);have z3:(0:Int)<=(i:Int):=Qba _;have z4:(i:Int)<(yl:Int):=by omega
   have ku:=ag HS.o.len;clear hv hbl hvv hI hcells hy;go_upto_region 6 with fail;go_cut [](λwx=>∃(cap2:Nat)(a2:fx)(o:bF),Hd (lh M w w1 (uL (xL xa xl xc) (xL (b,off) yl yc) (xL za zl zc)) o1 K (xL la ll lc) ls (n:Int) (i+1) cap2 a2 (os++[o]) ((i:Int)+1) wx));case first=>
    go_region_law(first
     |(go_simp;go_at_call 17;refine(SX.o _ (Qbg _ wr).drew).mono ?_;rintro e w2⟨_,rfl,⟨k,v,l,vs,uv,rfl,hok,hsl⟩,bE⟩;have Cq:=hsl;obtain⟨ua,uc,rfl,_⟩:=Cq.aq;have fZ:Hd (aC wr w2):=((Qbg _ wr).drew.trans bE);have Su:Hd (∃k' v' l',iR ls (n:Int) ⟨(i:Int)+1,(k:Int),(v:Int),vs⟩ k' v' l'):=⟨k,v,l,hok⟩;have fq:Hd (∀o',aD.rep (α:=bF) (bu (xL a i cap) (qZ M w K)) (w2.alloc o') [xI ((i:Int)+1),xI (k:Int),xI (v:Int),xL ua vs.length uc] ⟨(i:Int)+1,(k:Int),(v:Int),vs⟩):=λo'=>⟨_,rfl,hsl.ae (dS.alloc bT o')⟩;have s1:=bE.size;simp at s1;have j1:bJ w2 K 1 (xL a i cap):=(fZ.o.cell (p:=⟨K,1,none⟩) (by simp;omega)).trans k1;have n1:∀o,(w2.alloc o).cell? (K,1)=some (xL a i cap):=λo=>bR _ _ _ j1;clear bE hok hsl)
     |(refine dT (α:=bF) rfl _ _ _ rfl (qZ M w K) (K+1) 66 i0 _ 48 underlying32 hi0 hz0 hz1 hz2 rfl (by decide) (.slice a i cap) os rfl ((HS.o.acc.ae fZ.o).alloc _) (λ_=>True) _ _ ⟨(i:Int)+1,(k:Int),(v:Int),vs⟩ rfl (cF _ _ _ _ rfl trivial) (fq.o _) (by rw[ku.o];unfold maxLen;omega) (by rw[ku.o];omega) (by simp;omega) ?_;rw[ku.o];intro a2 c2 w3 kh yQ hb3;have pN:=ag kh;have l1:bJ w3 K 1 (xL a i cap):=(hb3.cell (p:=⟨K,1,none⟩) (by simp)).trans (bR _ _ _ j1);have l4:w3.frozen? (K,1)=false:=(hb3.frozen (p:=⟨K,1,none⟩) (by simp)).trans ((bU.frozen (p:=⟨K,1,none⟩) (by simp;omega)).trans ((fZ.o.frozen (p:=⟨K,1,none⟩) (by simp;omega)).trans f1));have bV:=ag hb3;clear kh yQ hb3));all_goals(go_wp2;go_meet)
    all_goals exact⟨c2,a2,_,(HS.o.put lF.o fZ.o rfl Su.o pN.o bV.o)⟩
   case rest=>
    obtain⟨cap2,a2,o,gn⟩:=hcut;have⟨wx,hwx⟩:=bY (wc);subst hwx;clear q0 q1 q2 q3 k0 k1 k2 k3 f1 x0 x1 x2;have⟨k0,k1,k2,k3⟩:=af gn.o.blk;have f3:=aj gn.o.blk 3;go_wp2;go_roundg(n-(i+1));case measure=>omega
    case rel=>
     refine⟨i+1,cap2,a2,os++[o],by omega,rfl,by go_num,(show lh _ _ _ _ _ _ _ _ _ _ _ _ _ _ _ from ?_)⟩;rw[show(((i+1:Nat):Int)+1)=(i:Int)+2 from by omega];exact gn.o.num _
  .obtain rfl:i=n:=by omega
   have HID:Hd (∀(j:Nat)(o:bF),os[j]? =some o->o.id=(j:Int)+1/\∃k v l,iR ls (os.length:Int) o k v l):=λj o ho=>by
    have:=HS.o.ids j o ho;rw[HS.o.len];exact this
   have Tc:=ag HS.o.len;have HG0:=ag (HS.o.aF lF.o);clear x0 x1 x2 HS;go_wp2;go_loopg [6]5(λg jv wr=>∃(j:Nat)(rv:aA)(rs:List bj),j<=zl/\j<=5/\g=5-j/\jv=xI j/\Hd (l9 M w (uL (xL xa xl xc) (xL ya yl yc) (xL za zl zc)) o1 K (xL la ll lc) (xL a i cap) rv ls os rs ((i:Int)+1) j wr));case atStart=>exact⟨0,_,[],Qbf _,by omega,rfl,rfl,HG0⟩
   case round=>
    obtain⟨j,rv,rs,hj,hj5,rfl,rfl,HG⟩:=hrel;clear HG0;have iM:∃ra rc,rv=xL ra rs.length rc:=by
     have h:=HG.o.sr;have⟨ra,rc,e,_⟩:=h.aq;exact⟨ra,rc,e⟩
    obtain⟨ra,rc,rfl⟩:=iM;generalize Bc:rs.length=rl at*;have Ue:=ag Bc;clear Bc;have hwK:=HG.o.hK;have⟨x0,x1,x2⟩:=aO (HG.o.bx.bO rfl);by_cases ZU:j<zl/\j<5/\0<i
    .obtain⟨hjz,qhc,hi0⟩:=ZU;have⟨z,hz⟩:=eG zs j (by rw[HZL.o];exact hjz);have⟨b,off,cap',hv,hbl,hI,hcells⟩:=HZ.o j z hz;obtain⟨rfl,rfl⟩:=iY hv;have⟨q0,q1⟩:=hcells wr HG.o.bx.1;have⟨k0,k1,k2,k3⟩:=af HG.o.blk;obtain⟨zn,zi⟩:=z;dsimp only at*;have HNA:=ag (λW=>GD zn hI.1 W);have J6:Hd (∀W,xC 20 #[zi,xI (i:Int)] W (jt (xI (aU zi i:Int)) W)):=λW=>by
      have h:=kZ zi (i:Int) W hI.2 (by omega) (by omega);simpa using h
     have hpk:=cR zi i hi0;have hq5:QS (aU zn 5)<5:=UI (cR zn 5 (by omega));have⟨ks,u1,u2,u3⟩:=HG.o.nms;have⟨j',d,p1,p2,p3,p4,p5⟩:=K4 u1 u2 u3 (QS (aU zn 5)) hq5;have VG:rs.length<=5:=Qcg HG.o.len hj5;have⟨rs2,hrs2⟩:=bY (rs.take j'++[(⟨vB (QS (aU zn 5)),1+(aU zi i:Int)⟩:bj)]++rs.drop (j'+d));have qW:Hd (∀W,aC wr W->xC 18 #[xL ra rl rc, .agg #[xS (vB (QS (aU zn 5))),xI (1+(aU zi i:Int))]] W (cm W λu w'=>ab (qZ M w K) w' u rs2)):=λW hb=>by
      rw[hrs2];exact RD rs ⟨vB (QS (aU zn 5)),1+(aU zi i:Int)⟩ (by show(0:Int)<1+_;omega) (Qcg (Ae _ hq5).2 (by unfold maxLen;omega)) VG j' d p1 p3 p4 p2 (qZ M w K) W ((HG.o.ae hb).bd lF.o) _ (HG.o.sr.ae hb) HG.o.nil
     have hp5:=p5 (1+(aU zi i:Int));rw[<-hrs2]at hp5;have vI:=ag (show rs2≠[]/\(∀r∈rs2,1<=r.id/\r.id<=os.length)/\rs2.length<=j+1/\∃ks:List Nat,ks.Pairwise (·< ·)/\(∀k∈ks,k<5)/\rs2.map bj.ai=ks.map vB by
      refine⟨by rw[hrs2];simp,λr hr=> ?_,?_,hp5⟩
      .rw[hrs2]at hr;simp only[Qch,Qea]at hr;rcases hr with(hr|rfl)|hr
       .exact HG.o.rng r (List.mem_of_mem_take hr)
       .have:=Tc.o;show(1:Int)<=1+_/\1+_<=_;omega
       .exact HG.o.rng r (List.mem_of_mem_drop hr)
      .have:=HG.o.len;rw[hrs2];simp only[Qda,Qdb,List.length_drop,Qcc,Qcd];omega);have MK:=ag hbl;clear p1 p2 p3 p4 p5 u1 u2 u3 hrs2 hp5 VG hv hcells hz hI hbl hq5;generalize vB (QS (aU zn 5))=nmv at*;generalize aU zi i=pk at*;have z1:IntKind.i64.wrap (1+(pk:Int))=1+(pk:Int):=Qbe _ (by omega);have z3:(0:Int)<=(j:Int):=Qba _;have z4:(j:Int)<(zl:Int):=by omega
     have z5:(j:Int)<5:=by omega
     have z6:(0:Int)<(i:Int):=by omega
     have f2:=aj HG.o.blk 2;have Q2:=HG.o.lt;go_upto_region 11 with fail;refine' ym 19 ?hl ?hm ?hB1 ?hB2 ?hB3 ?hB ?hh;case hl=>exact rfl
     case hm=>kernel_rfl
     case hB1=>kernel_rfl
     case hB2=>kernel_rfl
     case hB3=>kernel_rfl
     case hB=>kernel_rfl
     intro ι _ F jM yW;have s0:=λi=>(aO ((HG.o.ae (jM i)).bx.bO rfl)).2.2;have s1:=λi=>(af (HG.o.ae (jM i)).blk).2.2.1;have s2:∀i,(F i).cell? (b,off+j*2)=some (xI zn):=λi=>((jM i).cell (p:=⟨b,off+j*2,none⟩) (oL q0)).trans q0;have s3:∀i,(F i).cell? (b,off+j*2+1)=some (xI zi):=λi=>((jM i).cell (p:=⟨b,off+j*2+1,none⟩) (oL q1)).trans q1;have jq:=ag jM;have yL:=ag yW;clear jM yW;simp only[List.take_succ_cons,List.take_zero,Act.put,List.setIfInBounds_toArray,List.set_cons_zero,List.set_cons_succ];repeat(go_big_quiet_step(first
      |(go_at_call 19;refine cC (HNA.o _) λw3 hb3=> ?_;exact⟨rfl,yL.o _ ((jq.o _).trans (hb3.mono (jq.o _).size))⟩)
      |(go_at_call 20;refine dw (J6.o _) ?_;exact⟨rfl,_,rfl⟩)))
     refine wpQuiet_nil ?_;rintro _⟨nq,rfl⟩;go_simp;go_at_call 18;refine(qW.o _ (jq.o _)).mono ?_;rintro e wn⟨un,rfl,hsl,sX⟩;have hun:∃na nc,un=xL na rs2.length nc:=by
      have⟨na,nc,e,_⟩:=hsl.aq;exact⟨na,nc,e⟩
     obtain⟨na,nc,rfl⟩:=hun;have HJn:Hd (aC wr wn):=(jq.o _).trans (sX.mono (jq.o _).size);have HSn:=ag hsl;have kn2:=(af (HG.o.ae HJn.o).blk).2.2.1;have fn2:=aj (HG.o.ae HJn.o).blk 2;clear hsl sX;go_simp;go_wp2;go_roundg(5-(j+1));case measure=>omega
     case rel=>exact⟨j+1,_,rs2,by omega,by omega,rfl,by go_num,(HG.o.root HJn.o HSn.o vI.o.1 vI.o.2.1 vI.o.2.2.1 vI.o.2.2.2)⟩
    .have⟨k0,k1,k2,k3⟩:=af HG.o.blk;rcases Nat.eq_zero_or_pos i with hi0|hi0
     .subst hi0;have MM:Hd (l9 M w (uL (xL xa xl xc) (xL ya yl yc) (xL za zl zc)) o1 K (xL la ll lc) (xL a 0 cap) (xL ra rl rc) ls os rs 1 j wr):=HG.o;have hex:zl<=j\/(j<zl/\5<=j)\/(j<zl/\j<5):=by omega
      clear ZU HG k0 k1 k2 k3;have hb1:=MM.o.bx.cg rfl;rw[q9.o]at hb1;have⟨r0,r1,r2,r3⟩:=af hb1;have⟨g0,g1,g2,g3⟩:=hZ hb1;clear hb1;have⟨k0,k1,k2,k3⟩:=af MM.o.blk;have pJ:Hd (∀W',W'=(((wr.setCell ([w],0) (xL la ll lc)).setCell ([w],1) (xL a 0 cap)).setCell ([w],2) (xL ra rl rc)).setCell ([w],3) (xI (1))->_):=λW' hW'=>MM.o.fin CM.o.1 HSF.o (by have:=Tc.o;omega) HID.o hj5 (by have:=Tc.o;omega) W' hW';rcases hex with hex|⟨hex,qb0⟩|⟨hex,qb0⟩
      .go_wp2_with fail;exact Qae (v:= .agg #[xL la ll lc,xL a 0 cap,xL ra rl rc,xI (1)]) (by simp[results,results6,go_sem,r0,r1,r2,r3,g0,g1,g2,g3]) rfl (by have⟨⟨x',l',o',r',e1,e2,e3,e4,e5⟩,e6⟩:=pJ.o _ rfl;first|exact⟨_,rfl,⟨x',l',o',r',e1,e2,e3,e4,e5⟩,e6⟩|exact⟨_,rfl,⟨x',e1,l',o',r',e2,e3,e4,e5⟩,e6⟩)
      .have z8:¬(j:Int)<5:=by omega
       go_wp2_with fail;exact Qae (v:= .agg #[xL la ll lc,xL a 0 cap,xL ra rl rc,xI (1)]) (by simp[results,results6,go_sem,r0,r1,r2,r3,g0,g1,g2,g3]) rfl (by have⟨⟨x',l',o',r',e1,e2,e3,e4,e5⟩,e6⟩:=pJ.o _ rfl;first|exact⟨_,rfl,⟨x',l',o',r',e1,e2,e3,e4,e5⟩,e6⟩|exact⟨_,rfl,⟨x',e1,l',o',r',e2,e3,e4,e5⟩,e6⟩)
      .have z8:(j:Int)<5:=by omega
       go_wp2_with fail;exact Qae (v:= .agg #[xL la ll lc,xL a 0 cap,xL ra rl rc,xI (1)]) (by simp[results,results6,go_sem,r0,r1,r2,r3,g0,g1,g2,g3]) rfl (by have⟨⟨x',l',o',r',e1,e2,e3,e4,e5⟩,e6⟩:=pJ.o _ rfl;first|exact⟨_,rfl,⟨x',l',o',r',e1,e2,e3,e4,e5⟩,e6⟩|exact⟨_,rfl,⟨x',e1,l',o',r',e2,e3,e4,e5⟩,e6⟩)
     .have hex:zl<=j\/(j<zl/\¬(j:Int)<5):=by omega
      have z6:(0:Int)<(i:Int):=by omega
      have⟨y,hy⟩:=eG ys 0 (by rw[HYL.o];omega);have⟨b,off,cap',vv,hv,hbl,hvv,hI,hcells⟩:=HY.o 0 y hy;obtain⟨rfl,rfl⟩:=iY hv;have⟨q0,q1,q2,q3⟩:=hcells wr HG.o.bx.1;simp only[Nat.zero_mul,Nat.add_zero]at q0 q1 q2 q3;have sY:Hd (∀W,xC 20 #[y.skip,xI 3] W (jt (xI (aU y.skip 3:Int)) W)):=λW=>kZ y.skip 3 W hI.2.2.1 (by omega) (by omega);have hps:=cR y.skip 3 (by omega);obtain⟨yy,yv,yw,yk⟩:=y;dsimp only at*;generalize aU yk 3=sk at*;have z1:IntKind.i64.wrap ((i:Int)+1+(sk:Int))=(i:Int)+1+(sk:Int):=Qbe _ (by omega);have z9:(0:Int)<(yl:Int):=by omega
      have z10:0<yl:=by omega
      have f3:=aj HG.o.blk 3;clear hv hbl hvv hI hcells hy ZU;rcases hex with hex|⟨hex,qb0⟩;all_goals
       go_upto_region 13 with fail;go_cut [](λwx=>Hd (l9 M w (uL (xL xa xl xc) (xL (b,off) yl yc) (xL za zl zc)) o1 K (xL la ll lc) (xL a i cap) (xL ra rl rc) ls os rs ((i:Int)+1+(sk:Int)) j wx));case first=>
        go_region_law(first
         |(go_simp;go_at_call 20;refine dw (sY.o _) ?_));all_goals(go_wp2;go_meet)
        all_goals first
         |exact((HG.o.ae dS.drew).num _)
         |exact((HG.o.num _).ae dS.drew)
       case rest=>
        have VW:=hcut;have⟨wx,hwx⟩:=bY (wc);subst hwx;clear q0 q1 q2 q3 x0 x1 x2 f3 k0 k1 k2 k3;have hb1:=VW.o.bx.cg rfl;rw[q9.o]at hb1;have⟨r0,r1,r2,r3⟩:=af hb1;have⟨g0,g1,g2,g3⟩:=hZ hb1;clear hb1;have⟨k0,k1,k2,k3⟩:=af VW.o.blk;have pJ:Hd (∀W',W'=(((wx.setCell ([w],0) (xL la ll lc)).setCell ([w],1) (xL a i cap)).setCell ([w],2) (xL ra rl rc)).setCell ([w],3) (xI ((i:Int)+1+(sk:Int)))->_):=λW' hW'=>VW.o.fin CM.o.1 HSF.o (by have:=Tc.o;omega) HID.o hj5 (by have:=Tc.o;omega) W' hW';go_wp2_with fail;exact Qae (v:= .agg #[xL la ll lc,xL a i cap,xL ra rl rc,xI ((i:Int)+1+(sk:Int))]) (by simp[results,results6,go_sem,r0,r1,r2,r3,g0,g1,g2,g3]) rfl (by have⟨⟨x',l',o',r',e1,e2,e3,e4,e5⟩,e6⟩:=pJ.o _ rfl;first|exact⟨_,rfl,⟨x',l',o',r',e1,e2,e3,e4,e5⟩,e6⟩|exact⟨_,rfl,⟨x',e1,l',o',r',e2,e3,e4,e5⟩,e6⟩)
end
end Go.Proofs.YtepaofffbkfodaaGreatDoor
